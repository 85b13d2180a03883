/- A part of the proof of OptimizerOptimizes: A C. No condition. -/
import Derived.BigQuiet
import Derived.Deep.QuietTactic
import Derived.WalkKit
import Derived.WalkLawsBesides
import Derived.WalkSpells
import Derived.Test.YtidhfimbnjaceaaGreatProg
import Derived.Test.YtidhfimbnjaceaaGreatGq01
set_option linter.unusedSimpArgs false
set_option linter.unusedVariables false
set_option linter.constructorNameAsVariable false
set_option maxRecDepth 100000
set_option maxHeartbeats 4000000
namespace Go.Proofs.YtidhfimbnjaceaaGreat
open Go.RowKit
theorem jJ{a b:Bool}(h:a=b):Ending.returned (.bool a)= .returned (.bool b):=by rw[h]
theorem bU{k:IntKind}{a b:Int}(h:a=b):Ending.returned (.int k a)= .returned (.int k b):=by rw[h]
theorem tj(n:Int)(w:World):
  Calls Tryz.prog 82 #[.int .i64 n] w λe w'=>e= .returned (.bool (decide (n<0)||decide (1024<n)))/\w=w':=by
 by_cases h:n<0
 all_goals
  go_enter Tryz.func82,Tryz.ntmps82
  go_wp2
  go_ret
  exact⟨jJ (by simp[h];try omega),rfl⟩
theorem Vb(a b:Int)(ha0:0<=a)(ha1:a<4294967296)(hb0:0<=b)(hb1:b<4294967296)(w:World):
  Calls Tryz.prog 120 #[.int .u32 a,.int .u32 b] w λe w'=>e= .returned (.int .u32 ((a+b)%4294967296))/\w=w':=by
 all_goals go_enter Tryz.func120,Tryz.ntmps120
 all_goals go_wp2
 all_goals go_ret
 all_goals exact⟨bU (by first|rfl|(simp;done)|(simp[aN, *];done)|(simp_all [aN];done)|omega),rfl⟩
theorem Va(a b:Int)(ha0:0<=a)(ha1:a<4294967296)(hb0:0<=b)(hb1:b<4294967296)(w:World):
  Calls Tryz.prog 121 #[.int .u32 a,.int .u32 b] w λe w'=>e= .returned (.int .u32 ((a-b)%4294967296))/\w=w':=by
 all_goals go_enter Tryz.func121,Tryz.ntmps121
 all_goals go_wp2
 all_goals go_ret
 all_goals exact⟨bU (by first|rfl|(simp;done)|(simp[aN, *];done)|(simp_all [aN];done)|omega),rfl⟩
theorem U9(a b:Int)(ha0:0<=a)(ha1:a<4294967296)(hb0:0<=b)(hb1:b<4294967296)(w:World):
  Calls Tryz.prog 122 #[.int .u32 a,.int .u32 b] w λe w'=>e= .returned (.int .u32 ((a*b)%4294967296))/\w=w':=by
 all_goals go_enter Tryz.func122,Tryz.ntmps122
 all_goals go_wp2
 all_goals go_ret
 all_goals exact⟨bU (by first|rfl|(simp;done)|(simp[aN, *];done)|(simp_all [aN];done)|omega),rfl⟩
theorem U8(a b:Int)(ha0:0<=a)(ha1:a<4294967296)(hb0:0<=b)(hb1:b<4294967296)(hb:¬b=0)(w:World):
  Calls Tryz.prog 123 #[.int .u32 a,.int .u32 b] w λe w'=>e= .returned (.int .u32 (a / b))/\w=w':=by
 all_goals go_enter Tryz.func123,Tryz.ntmps123
 all_goals go_wp2
 all_goals go_ret
 all_goals exact⟨bU (by first|rfl|(simp;done)|(simp[Int.tdiv_eq_ediv_of_nonneg ha0];exact Int.emod_eq_of_lt (Int.ediv_nonneg ha0 hb0) (Int.lt_of_le_of_lt (Int.ediv_le_self b ha0) ha1))|omega),rfl⟩
theorem U7(a b:Int)(ha0:0<=a)(ha1:a<4294967296)(hb0:0<=b)(hb1:b<4294967296)(hb:¬b=0)(w:World):
  Calls Tryz.prog 124 #[.int .u32 a,.int .u32 b] w λe w'=>e= .returned (.int .u32 (a%b))/\w=w':=by
 all_goals go_enter Tryz.func124,Tryz.ntmps124
 all_goals go_wp2
 all_goals go_ret
 all_goals exact⟨bU (by first|rfl|(simp;done)|(simp[aN, *];done)|(simp_all [aN];done)|omega),rfl⟩
theorem U6(a b:Int)(ha0:0<=a)(ha1:a<4294967296)(hb0:0<=b)(hb1:b<4294967296)(w:World):
  Calls Tryz.prog 125 #[.int .u32 a,.int .u32 b] w λe w'=>e= .returned (.int .u32 (bits .and .u32 a b))/\w=w':=by
 all_goals go_enter Tryz.func125,Tryz.ntmps125
 all_goals go_wp2
 all_goals go_ret
 all_goals exact⟨bU (by first|rfl|(simp;done)|(simp[aN, *];done)|(simp_all [aN];done)|omega),rfl⟩
theorem U5(a b:Int)(ha0:0<=a)(ha1:a<4294967296)(hb0:0<=b)(hb1:b<4294967296)(w:World):
  Calls Tryz.prog 126 #[.int .u32 a,.int .u32 b] w λe w'=>e= .returned (.int .u32 (bits .or .u32 a b))/\w=w':=by
 all_goals go_enter Tryz.func126,Tryz.ntmps126
 all_goals go_wp2
 all_goals go_ret
 all_goals exact⟨bU (by first|rfl|(simp;done)|(simp[aN, *];done)|(simp_all [aN];done)|omega),rfl⟩
theorem U4(a b:Int)(ha0:0<=a)(ha1:a<4294967296)(hb0:0<=b)(hb1:b<4294967296)(w:World):
  Calls Tryz.prog 127 #[.int .u32 a,.int .u32 b] w λe w'=>e= .returned (.int .u32 (bits .xor .u32 a b))/\w=w':=by
 all_goals go_enter Tryz.func127,Tryz.ntmps127
 all_goals go_wp2
 all_goals go_ret
 all_goals exact⟨bU (by first|rfl|(simp;done)|(simp[aN, *];done)|(simp_all [aN];done)|omega),rfl⟩
theorem U3(a b:Int)(ha0:0<=a)(ha1:a<4294967296)(hb0:0<=b)(hb1:b<4294967296)(w:World):
  Calls Tryz.prog 128 #[.int .u32 a,.int .u32 b] w λe w'=>e= .returned (.int .u32 (a*2^(b%32).toNat%4294967296))/\w=w':=by
 all_goals go_enter Tryz.func128,Tryz.ntmps128
 all_goals go_wp2
 all_goals go_ret
 all_goals exact⟨bU (by first|rfl|(simp;done)|(simp[aN, *];done)|(simp_all [aN];done)|omega),rfl⟩
theorem IV(a b:Int)(ha0:0<=a)(ha1:a<4294967296)(hb0:0<=b)(hb1:b<4294967296)(w:World):
  Calls Tryz.prog 129 #[.int .u32 a,.int .u32 b] w λe w'=>e= .returned (.int .u32 (a / 2^(b%32).toNat))/\w=w':=by
 all_goals go_enter Tryz.func129,Tryz.ntmps129
 all_goals go_wp2
 all_goals go_ret
 all_goals exact⟨bU (by first|rfl|(simp;done)|(simp[aN, *];done)|(simp_all [aN];done)|omega),rfl⟩
theorem IU(a b:Int)(ha0:0<=a)(ha1:a<4294967296)(hb0:0<=b)(hb1:b<4294967296)(w:World):
  Calls Tryz.prog 130 #[.int .u32 a,.int .u32 b] w λe w'=>e= .returned (.int .u32 (min a b))/\w=w':=by
 by_cases h:a<=b
 all_goals go_enter Tryz.func130,Tryz.ntmps130
 all_goals go_wp2
 all_goals go_ret
 all_goals exact⟨bU (by first|rfl|(simp;done)|(simp[aN, *];done)|(simp_all [aN];done)|omega),rfl⟩
theorem IR(a b:Int)(ha0:0<=a)(ha1:a<4294967296)(hb0:0<=b)(hb1:b<4294967296)(w:World):
  Calls Tryz.prog 131 #[.int .u32 a,.int .u32 b] w λe w'=>e= .returned (.int .u32 (max a b))/\w=w':=by
 by_cases h:a<=b
 all_goals go_enter Tryz.func131,Tryz.ntmps131
 all_goals go_wp2
 all_goals go_ret
 all_goals exact⟨bU (by first|rfl|(simp;done)|(simp[aN, *];done)|(simp_all [aN];done)|omega),rfl⟩
theorem IQ(a b:Int)(ha0:0<=a)(ha1:a<4294967296)(hb0:0<=b)(hb1:b<4294967296)(w:World):
  Calls Tryz.prog 133 #[.int .u32 a,.int .u32 b] w λe w'=>e= .returned (.int .u32 (aN (a==b)))/\w=w':=by
 by_cases h:(a==b)=true
 all_goals go_enter Tryz.func133,Tryz.ntmps133
 all_goals go_wp2
 all_goals go_ret
 all_goals exact⟨bU (by first|rfl|(simp;done)|(simp[aN, *];done)|(simp_all [aN];done)|omega),rfl⟩
theorem IP(a b:Int)(ha0:0<=a)(ha1:a<4294967296)(hb0:0<=b)(hb1:b<4294967296)(w:World):
  Calls Tryz.prog 135 #[.int .u32 a,.int .u32 b] w λe w'=>e= .returned (.int .u32 (aN (decide (a<b))))/\w=w':=by
 by_cases h:a<b
 all_goals go_enter Tryz.func135,Tryz.ntmps135
 all_goals go_wp2
 all_goals go_ret
 all_goals exact⟨bU (by first|rfl|(simp;done)|(simp[aN, *];done)|(simp_all [aN];done)|omega),rfl⟩
theorem IM(a b:Int)(ha0:0<=a)(ha1:a<4294967296)(hb0:0<=b)(hb1:b<4294967296)(w:World):
  Calls Tryz.prog 136 #[.int .u32 a,.int .u32 b] w λe w'=>e= .returned (.int .u32 (aN (a==0)))/\w=w':=by
 by_cases h:(a==0)=true
 all_goals go_enter Tryz.func136,Tryz.ntmps136
 all_goals go_wp2
 all_goals go_ret
 all_goals exact⟨bU (by first|rfl|(simp;done)|(simp[aN, *];done)|(simp_all [aN];done)|omega),rfl⟩
theorem IL(a b:Int)(ha0:0<=a)(ha1:a<4294967296)(hb0:0<=b)(hb1:b<4294967296)(w:World):
  Calls Tryz.prog 137 #[.int .u32 a,.int .u32 b] w λe w'=>e= .returned (.int .u32 (aN (a != 0&&b != 0)))/\w=w':=by
 by_cases h1:a=0
 all_goals by_cases h2:b=0
 all_goals go_enter Tryz.func137,Tryz.ntmps137
 all_goals go_wp2
 all_goals go_ret
 all_goals exact⟨bU (by first|rfl|(simp;done)|(simp[aN, *];done)|(simp_all [aN];done)|omega),rfl⟩
theorem IK(a b:Int)(ha0:0<=a)(ha1:a<4294967296)(hb0:0<=b)(hb1:b<4294967296)(w:World):
  Calls Tryz.prog 138 #[.int .u32 a,.int .u32 b] w λe w'=>e= .returned (.int .u32 (aN (a != 0||b != 0)))/\w=w':=by
 by_cases h1:a=0
 all_goals by_cases h2:b=0
 all_goals go_enter Tryz.func138,Tryz.ntmps138
 all_goals go_wp2
 all_goals go_ret
 all_goals exact⟨bU (by first|rfl|(simp;done)|(simp[aN, *];done)|(simp_all [aN];done)|omega),rfl⟩
theorem IJ(a b:Int)(ha0:0<=a)(ha1:a<4294967296)(hb0:0<=b)(hb1:b<4294967296)(w:World):
  Calls Tryz.prog 139 #[.int .u32 a,.int .u32 b] w λe w'=>e= .returned (.int .u32 (aN (a != 0)))/\w=w':=by
 by_cases h1:a=0
 all_goals by_cases h2:b=0
 all_goals go_enter Tryz.func139,Tryz.ntmps139
 all_goals go_wp2
 all_goals go_ret
 all_goals exact⟨bU (by first|rfl|(simp;done)|(simp[aN, *];done)|(simp_all [aN];done)|omega),rfl⟩
theorem xi(a b:Int)(ha0:0<=a)(ha1:a<4294967296)(hb0:0<=b)(hb1:b<4294967296)(w:World):
  Calls Tryz.prog 132 #[.int .u32 a,.int .u32 b] w λe w'=>e= .returned (.int .u32 (kB a b))/\w=w':=by
 go_enter Tryz.func132,Tryz.ntmps132
 go_wp2
 go_ret
 refine⟨bU ?_,rfl⟩
 first|rfl|(simp[kB];done)|skip
end Go.Proofs.YtidhfimbnjaceaaGreat