/- A part of the proof of OptimizerShares: D E0 Rb. No condition. -/
import Derived.Carry
import Derived.Lib.Hide
import Derived.Test.YtidhfimbnjaceaaGreatGh14
import Derived.Test.YtidhfimbnjaceaaGreatGh15
import Derived.Test.YtidhfimbnjaceaaGreatGh03
set_option linter.unusedSimpArgs false
set_option linter.unusedVariables false
set_option linter.constructorNameAsVariable false
set_option maxRecDepth 100000
set_option maxHeartbeats 4000000
namespace Go.Proofs.YtidhfimbnjaceaaGreat
open Go.RowKit
def af:Array MapEntry:= #[{key:= .int .i64 8,val:= .func (.func 120) #[] #[],born:=0},
 {key:= .int .i64 9,val:= .func (.func 121) #[] #[],born:=1},
 {key:= .int .i64 10,val:= .func (.func 122) #[] #[],born:=2},
 {key:= .int .i64 11,val:= .func (.func 123) #[] #[],born:=3},
 {key:= .int .i64 12,val:= .func (.func 124) #[] #[],born:=4},
 {key:= .int .i64 13,val:= .func (.func 125) #[] #[],born:=5},
 {key:= .int .i64 14,val:= .func (.func 126) #[] #[],born:=6},
 {key:= .int .i64 15,val:= .func (.func 127) #[] #[],born:=7},
 {key:= .int .i64 16,val:= .func (.func 128) #[] #[],born:=8},
 {key:= .int .i64 17,val:= .func (.func 129) #[] #[],born:=9},
 {key:= .int .i64 18,val:= .func (.func 130) #[] #[],born:=10},
 {key:= .int .i64 19,val:= .func (.func 131) #[] #[],born:=11},
 {key:= .int .i64 20,val:= .func (.func 132) #[] #[],born:=12},
 {key:= .int .i64 21,val:= .func (.func 133) #[] #[],born:=13},
 {key:= .int .i64 22,val:= .func (.func 135) #[] #[],born:=14},
 {key:= .int .i64 23,val:= .func (.func 136) #[] #[],born:=15},
 {key:= .int .i64 24,val:= .func (.func 137) #[] #[],born:=16},
 {key:= .int .i64 25,val:= .func (.func 138) #[] #[],born:=17},
 {key:= .int .i64 26,val:= .func (.func 139) #[] #[],born:=18}]
theorem aq (w:World):
  Calls Tryz.prog 113 #[] w λe w'=>e= .returned (.map (some w.heap.size))/\w'=w.alloc (.map af 19):=by
 have hmm:=λ(t:TypeId) (w:World)=>run_makeMap (P:=Tryz.prog) t w
 have hup:=λ(w:World) es c k v h=>gp (P:=Tryz.prog) (T:=166) Tryz.underlying166 Tryz.underlying3 w es c k v h
 have hup0:=λ(w:World) k v=>gp (P:=Tryz.prog) (T:=166) Tryz.underlying166 Tryz.underlying3 w #[] 0 k v rfl
 go_enter Tryz.func113,Tryz.ntmps113
 go_wp2
 go_ret
 exact⟨rfl,rfl⟩
theorem bp (w:World):(zeroValue 143).run Tryz.prog w= .ok .nilFunc w:=by kernel_rfl
theorem bq:iZ af.toList=true:=by decide
theorem b7 {k l:IntKind} {a b c d:Int} (h:a=b) (h2:c=d):Ending.returned (.tuple #[.int k a,.int l c])= .returned (.tuple #[.int k b,.int l d]):=by rw[h,h2]
theorem wx (a b:Int):ba 8 a b=(a+b)%4294967296:=by simp[ba]
theorem ww (a b:Int):ba 9 a b=(a-b)%4294967296:=by simp[ba]
theorem uI (a b:Int):ba 10 a b=(a*b)%4294967296:=by simp[ba]
theorem uH (a b:Int):ba 11 a b=a / b:=by simp[ba]
theorem uG (a b:Int):ba 12 a b=a%b:=by simp[ba]
theorem uF (a b:Int):ba 13 a b=bits .and .u32 a b:=by simp[ba]
theorem uE (a b:Int):ba 14 a b=bits .or .u32 a b:=by simp[ba]
theorem uD (a b:Int):ba 15 a b=bits .xor .u32 a b:=by simp[ba]
theorem uC (a b:Int):ba 16 a b=a*2^(b%32).toNat%4294967296:=by simp[ba]
theorem uB (a b:Int):ba 17 a b=a / 2^(b%32).toNat:=by simp[ba]
theorem uA (a b:Int):ba 18 a b=min a b:=by simp[ba]
theorem uz (a b:Int):ba 19 a b=max a b:=by simp[ba]
theorem uy (a b:Int):ba 20 a b=mq a b:=by simp[ba]
theorem ux (a b:Int):ba 21 a b=bm (a==b):=by simp[ba]
theorem uw (a b:Int):ba 22 a b=bm (decide (a<b)):=by simp[ba]
theorem uv (a b:Int):ba 23 a b=bm (a==0):=by simp[ba]
theorem uu (a b:Int):ba 24 a b=bm (a != 0&&b != 0):=by simp[ba]
theorem ut (a b:Int):ba 25 a b=bm (a != 0||b != 0):=by simp[ba]
theorem ur (a b:Int):ba 26 a b=bm (a != 0):=by simp[ba]
theorem wA (a b:Int) (ha0:0<=a) (ha1:a<4294967296) (hb0:0<=b) (hb1:b<4294967296) (w:World):
  Calls Tryz.prog 92 #[.int .i64 8,.int .u32 a,.int .u32 b] w λe w'=>e= .returned (.tuple #[.int .u32 (ba 8 a b),.int .i64 0])/\Below w.heap.size w w':=by
 have hl:=ay (P:=Tryz.prog) (T:=166) Tryz.underlying166 Tryz.underlying3 (w.alloc (.map af 19)) w.heap.size af 19 (heap_alloc_new w _) 8 bq .nilFunc (bp _)
 have hv:cn 8 af.toList=some (.func (.func 120) #[] #[]):=by rfl
 rw[hv] at hl
 simp only[Option.getD_some,Option.isSome_some] at hl
 rcases Bool.eq_false_or_eq_true (b==0) with hz|hz
 all_goals go_enter Tryz.func92,Tryz.ntmps92
 all_goals go_wp2_with (first|(go_at_call 113;refine(aq _).mono ?_;rintro e w' ⟨rfl,rfl⟩)|(go_at_call 120;refine(M5 a b ha0 ha1 hb0 hb1 _).mono ?_;rintro e w' ⟨rfl,rfl⟩))
 all_goals go_ret2
 all_goals exact⟨b7 (wx a b).symm rfl,(Below.refl _ _).alloc (Nat.le_refl _) _⟩
theorem wy (a b:Int) (ha0:0<=a) (ha1:a<4294967296) (hb0:0<=b) (hb1:b<4294967296) (w:World):
  Calls Tryz.prog 92 #[.int .i64 9,.int .u32 a,.int .u32 b] w λe w'=>e= .returned (.tuple #[.int .u32 (ba 9 a b),.int .i64 0])/\Below w.heap.size w w':=by
 have hl:=ay (P:=Tryz.prog) (T:=166) Tryz.underlying166 Tryz.underlying3 (w.alloc (.map af 19)) w.heap.size af 19 (heap_alloc_new w _) 9 bq .nilFunc (bp _)
 have hv:cn 9 af.toList=some (.func (.func 121) #[] #[]):=by rfl
 rw[hv] at hl
 simp only[Option.getD_some,Option.isSome_some] at hl
 rcases Bool.eq_false_or_eq_true (b==0) with hz|hz
 all_goals go_enter Tryz.func92,Tryz.ntmps92
 all_goals go_wp2_with (first|(go_at_call 113;refine(aq _).mono ?_;rintro e w' ⟨rfl,rfl⟩)|(go_at_call 121;refine(M4 a b ha0 ha1 hb0 hb1 _).mono ?_;rintro e w' ⟨rfl,rfl⟩))
 all_goals go_ret2
 all_goals exact⟨b7 (ww a b).symm rfl,(Below.refl _ _).alloc (Nat.le_refl _) _⟩
theorem u4 (a b:Int) (ha0:0<=a) (ha1:a<4294967296) (hb0:0<=b) (hb1:b<4294967296) (w:World):
  Calls Tryz.prog 92 #[.int .i64 10,.int .u32 a,.int .u32 b] w λe w'=>e= .returned (.tuple #[.int .u32 (ba 10 a b),.int .i64 0])/\Below w.heap.size w w':=by
 have hl:=ay (P:=Tryz.prog) (T:=166) Tryz.underlying166 Tryz.underlying3 (w.alloc (.map af 19)) w.heap.size af 19 (heap_alloc_new w _) 10 bq .nilFunc (bp _)
 have hv:cn 10 af.toList=some (.func (.func 122) #[] #[]):=by rfl
 rw[hv] at hl
 simp only[Option.getD_some,Option.isSome_some] at hl
 rcases Bool.eq_false_or_eq_true (b==0) with hz|hz
 all_goals go_enter Tryz.func92,Tryz.ntmps92
 all_goals go_wp2_with (first|(go_at_call 113;refine(aq _).mono ?_;rintro e w' ⟨rfl,rfl⟩)|(go_at_call 122;refine(M3 a b ha0 ha1 hb0 hb1 _).mono ?_;rintro e w' ⟨rfl,rfl⟩))
 all_goals go_ret2
 all_goals exact⟨b7 (uI a b).symm rfl,(Below.refl _ _).alloc (Nat.le_refl _) _⟩
theorem uZ (a b:Int) (ha0:0<=a) (ha1:a<4294967296) (hb0:0<=b) (hb1:b<4294967296) (hb:¬b=0) (w:World):
  Calls Tryz.prog 92 #[.int .i64 11,.int .u32 a,.int .u32 b] w λe w'=>e= .returned (.tuple #[.int .u32 (ba 11 a b),.int .i64 0])/\Below w.heap.size w w':=by
 have hl:=ay (P:=Tryz.prog) (T:=166) Tryz.underlying166 Tryz.underlying3 (w.alloc (.map af 19)) w.heap.size af 19 (heap_alloc_new w _) 11 bq .nilFunc (bp _)
 have hv:cn 11 af.toList=some (.func (.func 123) #[] #[]):=by rfl
 rw[hv] at hl
 simp only[Option.getD_some,Option.isSome_some] at hl
 have hb':(b==0)=false:=by simpa using hb
 go_enter Tryz.func92,Tryz.ntmps92
 go_wp2_with (first|(go_at_call 113;refine(aq _).mono ?_;rintro e w' ⟨rfl,rfl⟩)|(go_at_call 123;refine(M2 a b ha0 ha1 hb0 hb1 hb _).mono ?_;rintro e w' ⟨rfl,rfl⟩))
 all_goals go_ret2
 all_goals exact⟨b7 (uH a b).symm rfl,(Below.refl _ _).alloc (Nat.le_refl _) _⟩
theorem uY (a b:Int) (ha0:0<=a) (ha1:a<4294967296) (hb0:0<=b) (hb1:b<4294967296) (hb:¬b=0) (w:World):
  Calls Tryz.prog 92 #[.int .i64 12,.int .u32 a,.int .u32 b] w λe w'=>e= .returned (.tuple #[.int .u32 (ba 12 a b),.int .i64 0])/\Below w.heap.size w w':=by
 have hl:=ay (P:=Tryz.prog) (T:=166) Tryz.underlying166 Tryz.underlying3 (w.alloc (.map af 19)) w.heap.size af 19 (heap_alloc_new w _) 12 bq .nilFunc (bp _)
 have hv:cn 12 af.toList=some (.func (.func 124) #[] #[]):=by rfl
 rw[hv] at hl
 simp only[Option.getD_some,Option.isSome_some] at hl
 have hb':(b==0)=false:=by simpa using hb
 go_enter Tryz.func92,Tryz.ntmps92
 go_wp2_with (first|(go_at_call 113;refine(aq _).mono ?_;rintro e w' ⟨rfl,rfl⟩)|(go_at_call 124;refine(M1 a b ha0 ha1 hb0 hb1 hb _).mono ?_;rintro e w' ⟨rfl,rfl⟩))
 all_goals go_ret2
 all_goals exact⟨b7 (uG a b).symm rfl,(Below.refl _ _).alloc (Nat.le_refl _) _⟩
theorem uX (a b:Int) (ha0:0<=a) (ha1:a<4294967296) (hb0:0<=b) (hb1:b<4294967296) (w:World):
  Calls Tryz.prog 92 #[.int .i64 13,.int .u32 a,.int .u32 b] w λe w'=>e= .returned (.tuple #[.int .u32 (ba 13 a b),.int .i64 0])/\Below w.heap.size w w':=by
 have hl:=ay (P:=Tryz.prog) (T:=166) Tryz.underlying166 Tryz.underlying3 (w.alloc (.map af 19)) w.heap.size af 19 (heap_alloc_new w _) 13 bq .nilFunc (bp _)
 have hv:cn 13 af.toList=some (.func (.func 125) #[] #[]):=by rfl
 rw[hv] at hl
 simp only[Option.getD_some,Option.isSome_some] at hl
 rcases Bool.eq_false_or_eq_true (b==0) with hz|hz
 all_goals go_enter Tryz.func92,Tryz.ntmps92
 all_goals go_wp2_with (first|(go_at_call 113;refine(aq _).mono ?_;rintro e w' ⟨rfl,rfl⟩)|(go_at_call 125;refine(M0 a b ha0 ha1 hb0 hb1 _).mono ?_;rintro e w' ⟨rfl,rfl⟩))
 all_goals go_ret2
 all_goals exact⟨b7 (uF a b).symm rfl,(Below.refl _ _).alloc (Nat.le_refl _) _⟩
theorem uW (a b:Int) (ha0:0<=a) (ha1:a<4294967296) (hb0:0<=b) (hb1:b<4294967296) (w:World):
  Calls Tryz.prog 92 #[.int .i64 14,.int .u32 a,.int .u32 b] w λe w'=>e= .returned (.tuple #[.int .u32 (ba 14 a b),.int .i64 0])/\Below w.heap.size w w':=by
 have hl:=ay (P:=Tryz.prog) (T:=166) Tryz.underlying166 Tryz.underlying3 (w.alloc (.map af 19)) w.heap.size af 19 (heap_alloc_new w _) 14 bq .nilFunc (bp _)
 have hv:cn 14 af.toList=some (.func (.func 126) #[] #[]):=by rfl
 rw[hv] at hl
 simp only[Option.getD_some,Option.isSome_some] at hl
 rcases Bool.eq_false_or_eq_true (b==0) with hz|hz
 all_goals go_enter Tryz.func92,Tryz.ntmps92
 all_goals go_wp2_with (first|(go_at_call 113;refine(aq _).mono ?_;rintro e w' ⟨rfl,rfl⟩)|(go_at_call 126;refine(MZ a b ha0 ha1 hb0 hb1 _).mono ?_;rintro e w' ⟨rfl,rfl⟩))
 all_goals go_ret2
 all_goals exact⟨b7 (uE a b).symm rfl,(Below.refl _ _).alloc (Nat.le_refl _) _⟩
theorem uV (a b:Int) (ha0:0<=a) (ha1:a<4294967296) (hb0:0<=b) (hb1:b<4294967296) (w:World):
  Calls Tryz.prog 92 #[.int .i64 15,.int .u32 a,.int .u32 b] w λe w'=>e= .returned (.tuple #[.int .u32 (ba 15 a b),.int .i64 0])/\Below w.heap.size w w':=by
 have hl:=ay (P:=Tryz.prog) (T:=166) Tryz.underlying166 Tryz.underlying3 (w.alloc (.map af 19)) w.heap.size af 19 (heap_alloc_new w _) 15 bq .nilFunc (bp _)
 have hv:cn 15 af.toList=some (.func (.func 127) #[] #[]):=by rfl
 rw[hv] at hl
 simp only[Option.getD_some,Option.isSome_some] at hl
 rcases Bool.eq_false_or_eq_true (b==0) with hz|hz
 all_goals go_enter Tryz.func92,Tryz.ntmps92
 all_goals go_wp2_with (first|(go_at_call 113;refine(aq _).mono ?_;rintro e w' ⟨rfl,rfl⟩)|(go_at_call 127;refine(MY a b ha0 ha1 hb0 hb1 _).mono ?_;rintro e w' ⟨rfl,rfl⟩))
 all_goals go_ret2
 all_goals exact⟨b7 (uD a b).symm rfl,(Below.refl _ _).alloc (Nat.le_refl _) _⟩
theorem uU (a b:Int) (ha0:0<=a) (ha1:a<4294967296) (hb0:0<=b) (hb1:b<4294967296) (w:World):
  Calls Tryz.prog 92 #[.int .i64 16,.int .u32 a,.int .u32 b] w λe w'=>e= .returned (.tuple #[.int .u32 (ba 16 a b),.int .i64 0])/\Below w.heap.size w w':=by
 have hl:=ay (P:=Tryz.prog) (T:=166) Tryz.underlying166 Tryz.underlying3 (w.alloc (.map af 19)) w.heap.size af 19 (heap_alloc_new w _) 16 bq .nilFunc (bp _)
 have hv:cn 16 af.toList=some (.func (.func 128) #[] #[]):=by rfl
 rw[hv] at hl
 simp only[Option.getD_some,Option.isSome_some] at hl
 rcases Bool.eq_false_or_eq_true (b==0) with hz|hz
 all_goals go_enter Tryz.func92,Tryz.ntmps92
 all_goals go_wp2_with (first|(go_at_call 113;refine(aq _).mono ?_;rintro e w' ⟨rfl,rfl⟩)|(go_at_call 128;refine(MX a b ha0 ha1 hb0 hb1 _).mono ?_;rintro e w' ⟨rfl,rfl⟩))
 all_goals go_ret2
 all_goals exact⟨b7 (uC a b).symm rfl,(Below.refl _ _).alloc (Nat.le_refl _) _⟩
theorem uT (a b:Int) (ha0:0<=a) (ha1:a<4294967296) (hb0:0<=b) (hb1:b<4294967296) (w:World):
  Calls Tryz.prog 92 #[.int .i64 17,.int .u32 a,.int .u32 b] w λe w'=>e= .returned (.tuple #[.int .u32 (ba 17 a b),.int .i64 0])/\Below w.heap.size w w':=by
 have hl:=ay (P:=Tryz.prog) (T:=166) Tryz.underlying166 Tryz.underlying3 (w.alloc (.map af 19)) w.heap.size af 19 (heap_alloc_new w _) 17 bq .nilFunc (bp _)
 have hv:cn 17 af.toList=some (.func (.func 129) #[] #[]):=by rfl
 rw[hv] at hl
 simp only[Option.getD_some,Option.isSome_some] at hl
 rcases Bool.eq_false_or_eq_true (b==0) with hz|hz
 all_goals go_enter Tryz.func92,Tryz.ntmps92
 all_goals go_wp2_with (first|(go_at_call 113;refine(aq _).mono ?_;rintro e w' ⟨rfl,rfl⟩)|(go_at_call 129;refine(CR a b ha0 ha1 hb0 hb1 _).mono ?_;rintro e w' ⟨rfl,rfl⟩))
 all_goals go_ret2
 all_goals exact⟨b7 (uB a b).symm rfl,(Below.refl _ _).alloc (Nat.le_refl _) _⟩
theorem uS (a b:Int) (ha0:0<=a) (ha1:a<4294967296) (hb0:0<=b) (hb1:b<4294967296) (w:World):
  Calls Tryz.prog 92 #[.int .i64 18,.int .u32 a,.int .u32 b] w λe w'=>e= .returned (.tuple #[.int .u32 (ba 18 a b),.int .i64 0])/\Below w.heap.size w w':=by
 have hl:=ay (P:=Tryz.prog) (T:=166) Tryz.underlying166 Tryz.underlying3 (w.alloc (.map af 19)) w.heap.size af 19 (heap_alloc_new w _) 18 bq .nilFunc (bp _)
 have hv:cn 18 af.toList=some (.func (.func 130) #[] #[]):=by rfl
 rw[hv] at hl
 simp only[Option.getD_some,Option.isSome_some] at hl
 rcases Bool.eq_false_or_eq_true (b==0) with hz|hz
 all_goals go_enter Tryz.func92,Tryz.ntmps92
 all_goals go_wp2_with (first|(go_at_call 113;refine(aq _).mono ?_;rintro e w' ⟨rfl,rfl⟩)|(go_at_call 130;refine(CQ a b ha0 ha1 hb0 hb1 _).mono ?_;rintro e w' ⟨rfl,rfl⟩))
 all_goals go_ret2
 all_goals exact⟨b7 (uA a b).symm rfl,(Below.refl _ _).alloc (Nat.le_refl _) _⟩
theorem uR (a b:Int) (ha0:0<=a) (ha1:a<4294967296) (hb0:0<=b) (hb1:b<4294967296) (w:World):
  Calls Tryz.prog 92 #[.int .i64 19,.int .u32 a,.int .u32 b] w λe w'=>e= .returned (.tuple #[.int .u32 (ba 19 a b),.int .i64 0])/\Below w.heap.size w w':=by
 have hl:=ay (P:=Tryz.prog) (T:=166) Tryz.underlying166 Tryz.underlying3 (w.alloc (.map af 19)) w.heap.size af 19 (heap_alloc_new w _) 19 bq .nilFunc (bp _)
 have hv:cn 19 af.toList=some (.func (.func 131) #[] #[]):=by rfl
 rw[hv] at hl
 simp only[Option.getD_some,Option.isSome_some] at hl
 rcases Bool.eq_false_or_eq_true (b==0) with hz|hz
 all_goals go_enter Tryz.func92,Tryz.ntmps92
 all_goals go_wp2_with (first|(go_at_call 113;refine(aq _).mono ?_;rintro e w' ⟨rfl,rfl⟩)|(go_at_call 131;refine(CP a b ha0 ha1 hb0 hb1 _).mono ?_;rintro e w' ⟨rfl,rfl⟩))
 all_goals go_ret2
 all_goals exact⟨b7 (uz a b).symm rfl,(Below.refl _ _).alloc (Nat.le_refl _) _⟩
theorem uQ (a b:Int) (ha0:0<=a) (ha1:a<4294967296) (hb0:0<=b) (hb1:b<4294967296) (w:World):
  Calls Tryz.prog 92 #[.int .i64 20,.int .u32 a,.int .u32 b] w λe w'=>e= .returned (.tuple #[.int .u32 (ba 20 a b),.int .i64 0])/\Below w.heap.size w w':=by
 have hl:=ay (P:=Tryz.prog) (T:=166) Tryz.underlying166 Tryz.underlying3 (w.alloc (.map af 19)) w.heap.size af 19 (heap_alloc_new w _) 20 bq .nilFunc (bp _)
 have hv:cn 20 af.toList=some (.func (.func 132) #[] #[]):=by rfl
 rw[hv] at hl
 simp only[Option.getD_some,Option.isSome_some] at hl
 rcases Bool.eq_false_or_eq_true (b==0) with hz|hz
 all_goals go_enter Tryz.func92,Tryz.ntmps92
 all_goals go_wp2_with (first|(go_at_call 113;refine(aq _).mono ?_;rintro e w' ⟨rfl,rfl⟩)|(go_at_call 132;refine(tk a b ha0 ha1 hb0 hb1 _).mono ?_;rintro e w' ⟨rfl,rfl⟩))
 all_goals go_ret2
 all_goals exact⟨b7 (uy a b).symm rfl,(Below.refl _ _).alloc (Nat.le_refl _) _⟩
theorem uP (a b:Int) (ha0:0<=a) (ha1:a<4294967296) (hb0:0<=b) (hb1:b<4294967296) (w:World):
  Calls Tryz.prog 92 #[.int .i64 21,.int .u32 a,.int .u32 b] w λe w'=>e= .returned (.tuple #[.int .u32 (ba 21 a b),.int .i64 0])/\Below w.heap.size w w':=by
 have hl:=ay (P:=Tryz.prog) (T:=166) Tryz.underlying166 Tryz.underlying3 (w.alloc (.map af 19)) w.heap.size af 19 (heap_alloc_new w _) 21 bq .nilFunc (bp _)
 have hv:cn 21 af.toList=some (.func (.func 133) #[] #[]):=by rfl
 rw[hv] at hl
 simp only[Option.getD_some,Option.isSome_some] at hl
 rcases Bool.eq_false_or_eq_true (b==0) with hz|hz
 all_goals go_enter Tryz.func92,Tryz.ntmps92
 all_goals go_wp2_with (first|(go_at_call 113;refine(aq _).mono ?_;rintro e w' ⟨rfl,rfl⟩)|(go_at_call 133;refine(CO a b ha0 ha1 hb0 hb1 _).mono ?_;rintro e w' ⟨rfl,rfl⟩))
 all_goals go_ret2
 all_goals exact⟨b7 (ux a b).symm rfl,(Below.refl _ _).alloc (Nat.le_refl _) _⟩
theorem uO (a b:Int) (ha0:0<=a) (ha1:a<4294967296) (hb0:0<=b) (hb1:b<4294967296) (w:World):
  Calls Tryz.prog 92 #[.int .i64 22,.int .u32 a,.int .u32 b] w λe w'=>e= .returned (.tuple #[.int .u32 (ba 22 a b),.int .i64 0])/\Below w.heap.size w w':=by
 have hl:=ay (P:=Tryz.prog) (T:=166) Tryz.underlying166 Tryz.underlying3 (w.alloc (.map af 19)) w.heap.size af 19 (heap_alloc_new w _) 22 bq .nilFunc (bp _)
 have hv:cn 22 af.toList=some (.func (.func 135) #[] #[]):=by rfl
 rw[hv] at hl
 simp only[Option.getD_some,Option.isSome_some] at hl
 rcases Bool.eq_false_or_eq_true (b==0) with hz|hz
 all_goals go_enter Tryz.func92,Tryz.ntmps92
 all_goals go_wp2_with (first|(go_at_call 113;refine(aq _).mono ?_;rintro e w' ⟨rfl,rfl⟩)|(go_at_call 135;refine(CN a b ha0 ha1 hb0 hb1 _).mono ?_;rintro e w' ⟨rfl,rfl⟩))
 all_goals go_ret2
 all_goals exact⟨b7 (uw a b).symm rfl,(Below.refl _ _).alloc (Nat.le_refl _) _⟩
theorem uN (a b:Int) (ha0:0<=a) (ha1:a<4294967296) (hb0:0<=b) (hb1:b<4294967296) (w:World):
  Calls Tryz.prog 92 #[.int .i64 23,.int .u32 a,.int .u32 b] w λe w'=>e= .returned (.tuple #[.int .u32 (ba 23 a b),.int .i64 0])/\Below w.heap.size w w':=by
 have hl:=ay (P:=Tryz.prog) (T:=166) Tryz.underlying166 Tryz.underlying3 (w.alloc (.map af 19)) w.heap.size af 19 (heap_alloc_new w _) 23 bq .nilFunc (bp _)
 have hv:cn 23 af.toList=some (.func (.func 136) #[] #[]):=by rfl
 rw[hv] at hl
 simp only[Option.getD_some,Option.isSome_some] at hl
 rcases Bool.eq_false_or_eq_true (b==0) with hz|hz
 all_goals go_enter Tryz.func92,Tryz.ntmps92
 all_goals go_wp2_with (first|(go_at_call 113;refine(aq _).mono ?_;rintro e w' ⟨rfl,rfl⟩)|(go_at_call 136;refine(CM a b ha0 ha1 hb0 hb1 _).mono ?_;rintro e w' ⟨rfl,rfl⟩))
 all_goals go_ret2
 all_goals exact⟨b7 (uv a b).symm rfl,(Below.refl _ _).alloc (Nat.le_refl _) _⟩
theorem uM (a b:Int) (ha0:0<=a) (ha1:a<4294967296) (hb0:0<=b) (hb1:b<4294967296) (w:World):
  Calls Tryz.prog 92 #[.int .i64 24,.int .u32 a,.int .u32 b] w λe w'=>e= .returned (.tuple #[.int .u32 (ba 24 a b),.int .i64 0])/\Below w.heap.size w w':=by
 have hl:=ay (P:=Tryz.prog) (T:=166) Tryz.underlying166 Tryz.underlying3 (w.alloc (.map af 19)) w.heap.size af 19 (heap_alloc_new w _) 24 bq .nilFunc (bp _)
 have hv:cn 24 af.toList=some (.func (.func 137) #[] #[]):=by rfl
 rw[hv] at hl
 simp only[Option.getD_some,Option.isSome_some] at hl
 rcases Bool.eq_false_or_eq_true (b==0) with hz|hz
 all_goals go_enter Tryz.func92,Tryz.ntmps92
 all_goals go_wp2_with (first|(go_at_call 113;refine(aq _).mono ?_;rintro e w' ⟨rfl,rfl⟩)|(go_at_call 137;refine(CL a b ha0 ha1 hb0 hb1 _).mono ?_;rintro e w' ⟨rfl,rfl⟩))
 all_goals go_ret2
 all_goals exact⟨b7 (uu a b).symm rfl,(Below.refl _ _).alloc (Nat.le_refl _) _⟩
theorem uL (a b:Int) (ha0:0<=a) (ha1:a<4294967296) (hb0:0<=b) (hb1:b<4294967296) (w:World):
  Calls Tryz.prog 92 #[.int .i64 25,.int .u32 a,.int .u32 b] w λe w'=>e= .returned (.tuple #[.int .u32 (ba 25 a b),.int .i64 0])/\Below w.heap.size w w':=by
 have hl:=ay (P:=Tryz.prog) (T:=166) Tryz.underlying166 Tryz.underlying3 (w.alloc (.map af 19)) w.heap.size af 19 (heap_alloc_new w _) 25 bq .nilFunc (bp _)
 have hv:cn 25 af.toList=some (.func (.func 138) #[] #[]):=by rfl
 rw[hv] at hl
 simp only[Option.getD_some,Option.isSome_some] at hl
 rcases Bool.eq_false_or_eq_true (b==0) with hz|hz
 all_goals go_enter Tryz.func92,Tryz.ntmps92
 all_goals go_wp2_with (first|(go_at_call 113;refine(aq _).mono ?_;rintro e w' ⟨rfl,rfl⟩)|(go_at_call 138;refine(CK a b ha0 ha1 hb0 hb1 _).mono ?_;rintro e w' ⟨rfl,rfl⟩))
 all_goals go_ret2
 all_goals exact⟨b7 (ut a b).symm rfl,(Below.refl _ _).alloc (Nat.le_refl _) _⟩
theorem uK (a b:Int) (ha0:0<=a) (ha1:a<4294967296) (hb0:0<=b) (hb1:b<4294967296) (w:World):
  Calls Tryz.prog 92 #[.int .i64 26,.int .u32 a,.int .u32 b] w λe w'=>e= .returned (.tuple #[.int .u32 (ba 26 a b),.int .i64 0])/\Below w.heap.size w w':=by
 have hl:=ay (P:=Tryz.prog) (T:=166) Tryz.underlying166 Tryz.underlying3 (w.alloc (.map af 19)) w.heap.size af 19 (heap_alloc_new w _) 26 bq .nilFunc (bp _)
 have hv:cn 26 af.toList=some (.func (.func 139) #[] #[]):=by rfl
 rw[hv] at hl
 simp only[Option.getD_some,Option.isSome_some] at hl
 rcases Bool.eq_false_or_eq_true (b==0) with hz|hz
 all_goals go_enter Tryz.func92,Tryz.ntmps92
 all_goals go_wp2_with (first|(go_at_call 113;refine(aq _).mono ?_;rintro e w' ⟨rfl,rfl⟩)|(go_at_call 139;refine(CJ a b ha0 ha1 hb0 hb1 _).mono ?_;rintro e w' ⟨rfl,rfl⟩))
 all_goals go_ret2
 all_goals exact⟨b7 (ur a b).symm rfl,(Below.refl _ _).alloc (Nat.le_refl _) _⟩
theorem po (op a b:Int) (h:op<8\/26<op) (w:World):
  Calls Tryz.prog 92 #[.int .i64 op,.int .u32 a,.int .u32 b] w λe w'=>e= .returned (.tuple #[.int .u32 0,.int .i64 1])/\Below w.heap.size w w':=by
 have hl:=ay (P:=Tryz.prog) (T:=166) Tryz.underlying166 Tryz.underlying3 (w.alloc (.map af 19)) w.heap.size af 19 (heap_alloc_new w _) op bq .nilFunc (bp _)
 have hv:cn op af.toList=none:=by
  simp only[af,cn,fT]
  repeat rw[if_neg (by omega)]
 rw[hv] at hl
 simp only[Option.getD_none,Option.isSome_none] at hl
 clear hv
 have HH:=Lib.hid h
 clear h
 go_enter Tryz.func92,Tryz.ntmps92
 go_wp2_with (go_at_call 113;refine(aq _).mono ?_;rintro e w' ⟨rfl,rfl⟩)
 all_goals go_ret2
 all_goals exact⟨rfl,(Below.refl _ _).alloc (Nat.le_refl _) _⟩
theorem rP (a:Int) (w:World):
  Calls Tryz.prog 92 #[.int .i64 11,.int .u32 a,.int .u32 0] w λe w'=>e= .returned (.tuple #[.int .u32 0,.int .i64 17])/\Below w.heap.size w w':=by
 have hl:=ay (P:=Tryz.prog) (T:=166) Tryz.underlying166 Tryz.underlying3 (w.alloc (.map af 19)) w.heap.size af 19 (heap_alloc_new w _) 11 bq .nilFunc (bp _)
 have hv:cn 11 af.toList=some (.func (.func 123) #[] #[]):=by rfl
 rw[hv] at hl
 simp only[Option.getD_some,Option.isSome_some] at hl
 go_enter Tryz.func92,Tryz.ntmps92
 go_wp2_with (go_at_call 113;refine(aq _).mono ?_;rintro e w' ⟨rfl,rfl⟩)
 all_goals go_ret2
 all_goals exact⟨rfl,(Below.refl _ _).alloc (Nat.le_refl _) _⟩
theorem rO (a:Int) (w:World):
  Calls Tryz.prog 92 #[.int .i64 12,.int .u32 a,.int .u32 0] w λe w'=>e= .returned (.tuple #[.int .u32 0,.int .i64 17])/\Below w.heap.size w w':=by
 have hl:=ay (P:=Tryz.prog) (T:=166) Tryz.underlying166 Tryz.underlying3 (w.alloc (.map af 19)) w.heap.size af 19 (heap_alloc_new w _) 12 bq .nilFunc (bp _)
 have hv:cn 12 af.toList=some (.func (.func 124) #[] #[]):=by rfl
 rw[hv] at hl
 simp only[Option.getD_some,Option.isSome_some] at hl
 go_enter Tryz.func92,Tryz.ntmps92
 go_wp2_with (go_at_call 113;refine(aq _).mono ?_;rintro e w' ⟨rfl,rfl⟩)
 all_goals go_ret2
 all_goals exact⟨rfl,(Below.refl _ _).alloc (Nat.le_refl _) _⟩
theorem uJ (op a b:Int) (ha0:0<=a) (ha1:a<4294967296) (hb0:0<=b) (hb1:b<4294967296) (h:dn op b=0) (w:World):
  Calls Tryz.prog 92 #[.int .i64 op,.int .u32 a,.int .u32 b] w λe w'=>e= .returned (.tuple #[.int .u32 (ba op a b),.int .i64 0])/\Below w.heap.size w w':=by
 unfold dn at h
 split at h
 ·cases h
 rename_i h1
 split at h
 ·cases h
 rename_i h2
 have hc:op=8\/op=9\/op=10\/op=11\/op=12\/op=13\/op=14\/op=15\/op=16\/op=17\/op=18\/op=19\/op=20\/op=21\/op=22\/op=23\/op=24\/op=25\/op=26:=by omega
 rcases hc with rfl|rfl|rfl|rfl|rfl|rfl|rfl|rfl|rfl|rfl|rfl|rfl|rfl|rfl|rfl|rfl|rfl|rfl|rfl
 ·exact wA a b ha0 ha1 hb0 hb1 w
 ·exact wy a b ha0 ha1 hb0 hb1 w
 ·exact u4 a b ha0 ha1 hb0 hb1 w
 ·exact uZ a b ha0 ha1 hb0 hb1 (by omega) w
 ·exact uY a b ha0 ha1 hb0 hb1 (by omega) w
 ·exact uX a b ha0 ha1 hb0 hb1 w
 ·exact uW a b ha0 ha1 hb0 hb1 w
 ·exact uV a b ha0 ha1 hb0 hb1 w
 ·exact uU a b ha0 ha1 hb0 hb1 w
 ·exact uT a b ha0 ha1 hb0 hb1 w
 ·exact uS a b ha0 ha1 hb0 hb1 w
 ·exact uR a b ha0 ha1 hb0 hb1 w
 ·exact uQ a b ha0 ha1 hb0 hb1 w
 ·exact uP a b ha0 ha1 hb0 hb1 w
 ·exact uO a b ha0 ha1 hb0 hb1 w
 ·exact uN a b ha0 ha1 hb0 hb1 w
 ·exact uM a b ha0 ha1 hb0 hb1 w
 ·exact uL a b ha0 ha1 hb0 hb1 w
 ·exact uK a b ha0 ha1 hb0 hb1 w
theorem rN (op a b:Int) (ha0:0<=a) (ha1:a<4294967296) (hb0:0<=b) (hb1:b<4294967296) (h:dn op b≠0) (w:World):
  Calls Tryz.prog 92 #[.int .i64 op,.int .u32 a,.int .u32 b] w λe w'=>e= .returned (.tuple #[.int .u32 0,.int .i64 (dn op b)])/\Below w.heap.size w w':=by
 unfold dn at h ⊢
 by_cases h1:op<8\/26<op
 ·rw[if_pos h1]
  exact po op a b h1 w
 ·rw[if_neg h1] at h ⊢
  by_cases h2:b=0/\(op=11\/op=12)
  ·rw[if_pos h2]
   obtain⟨rfl,rfl|rfl⟩:=h2
   ·exact rP a w
   ·exact rO a w
  ·rw[if_neg h2] at h;exact absurd rfl h
end Go.Proofs.YtidhfimbnjaceaaGreat