/- A part of the proof of OptimizerShares: A C. No condition. -/
import Derived.BigQuiet
import Derived.Deep.QuietTactic
import Derived.WalkKit
import Derived.WalkLawsBesides
import Derived.WalkSpells
import Derived.Test.YtidhfimbnjaceaaGreatProg
import Derived.Test.YtidhfimbnjaceaaGreatGh01
set_option linter.unusedSimpArgs false
set_option linter.unusedVariables false
set_option linter.constructorNameAsVariable false
set_option maxRecDepth 100000
set_option maxHeartbeats 4000000
namespace Go.Proofs.YtidhfimbnjaceaaGreat
open Go.RowKit
theorem iH {a b:Bool} (h:a=b):Ending.returned (.bool a)= .returned (.bool b):=by rw[h]
theorem bI {k:IntKind} {a b:Int} (h:a=b):Ending.returned (.int k a)= .returned (.int k b):=by rw[h]
theorem pB (n:Int) (w:World):
  Calls Tryz.prog 82 #[.int .i64 n] w λe w'=>e= .returned (.bool (decide (n<0)||decide (1024<n)))/\w=w':=by
 by_cases h:n<0
 all_goals
  go_enter Tryz.func82,Tryz.ntmps82
  go_wp2
  go_ret
  exact⟨iH (by simp[h];try omega),rfl⟩
theorem M5 (a b:Int) (ha0:0<=a) (ha1:a<4294967296) (hb0:0<=b) (hb1:b<4294967296) (w:World):
  Calls Tryz.prog 120 #[.int .u32 a,.int .u32 b] w λe w'=>e= .returned (.int .u32 ((a+b)%4294967296))/\w=w':=by
 all_goals go_enter Tryz.func120,Tryz.ntmps120
 all_goals go_wp2
 all_goals go_ret
 all_goals exact⟨bI (by first|rfl|(simp;done)|(simp[bm, *];done)|(simp_all [bm];done)|omega),rfl⟩
theorem M4 (a b:Int) (ha0:0<=a) (ha1:a<4294967296) (hb0:0<=b) (hb1:b<4294967296) (w:World):
  Calls Tryz.prog 121 #[.int .u32 a,.int .u32 b] w λe w'=>e= .returned (.int .u32 ((a-b)%4294967296))/\w=w':=by
 all_goals go_enter Tryz.func121,Tryz.ntmps121
 all_goals go_wp2
 all_goals go_ret
 all_goals exact⟨bI (by first|rfl|(simp;done)|(simp[bm, *];done)|(simp_all [bm];done)|omega),rfl⟩
theorem M3 (a b:Int) (ha0:0<=a) (ha1:a<4294967296) (hb0:0<=b) (hb1:b<4294967296) (w:World):
  Calls Tryz.prog 122 #[.int .u32 a,.int .u32 b] w λe w'=>e= .returned (.int .u32 ((a*b)%4294967296))/\w=w':=by
 all_goals go_enter Tryz.func122,Tryz.ntmps122
 all_goals go_wp2
 all_goals go_ret
 all_goals exact⟨bI (by first|rfl|(simp;done)|(simp[bm, *];done)|(simp_all [bm];done)|omega),rfl⟩
theorem M2 (a b:Int) (ha0:0<=a) (ha1:a<4294967296) (hb0:0<=b) (hb1:b<4294967296) (hb:¬b=0) (w:World):
  Calls Tryz.prog 123 #[.int .u32 a,.int .u32 b] w λe w'=>e= .returned (.int .u32 (a / b))/\w=w':=by
 all_goals go_enter Tryz.func123,Tryz.ntmps123
 all_goals go_wp2
 all_goals go_ret
 all_goals exact⟨bI (by first|rfl|(simp;done)|(simp[Int.tdiv_eq_ediv_of_nonneg ha0];exact Int.emod_eq_of_lt (Int.ediv_nonneg ha0 hb0) (Int.lt_of_le_of_lt (Int.ediv_le_self b ha0) ha1))|omega),rfl⟩
theorem M1 (a b:Int) (ha0:0<=a) (ha1:a<4294967296) (hb0:0<=b) (hb1:b<4294967296) (hb:¬b=0) (w:World):
  Calls Tryz.prog 124 #[.int .u32 a,.int .u32 b] w λe w'=>e= .returned (.int .u32 (a%b))/\w=w':=by
 all_goals go_enter Tryz.func124,Tryz.ntmps124
 all_goals go_wp2
 all_goals go_ret
 all_goals exact⟨bI (by first|rfl|(simp;done)|(simp[bm, *];done)|(simp_all [bm];done)|omega),rfl⟩
theorem M0 (a b:Int) (ha0:0<=a) (ha1:a<4294967296) (hb0:0<=b) (hb1:b<4294967296) (w:World):
  Calls Tryz.prog 125 #[.int .u32 a,.int .u32 b] w λe w'=>e= .returned (.int .u32 (bits .and .u32 a b))/\w=w':=by
 all_goals go_enter Tryz.func125,Tryz.ntmps125
 all_goals go_wp2
 all_goals go_ret
 all_goals exact⟨bI (by first|rfl|(simp;done)|(simp[bm, *];done)|(simp_all [bm];done)|omega),rfl⟩
theorem MZ (a b:Int) (ha0:0<=a) (ha1:a<4294967296) (hb0:0<=b) (hb1:b<4294967296) (w:World):
  Calls Tryz.prog 126 #[.int .u32 a,.int .u32 b] w λe w'=>e= .returned (.int .u32 (bits .or .u32 a b))/\w=w':=by
 all_goals go_enter Tryz.func126,Tryz.ntmps126
 all_goals go_wp2
 all_goals go_ret
 all_goals exact⟨bI (by first|rfl|(simp;done)|(simp[bm, *];done)|(simp_all [bm];done)|omega),rfl⟩
theorem MY (a b:Int) (ha0:0<=a) (ha1:a<4294967296) (hb0:0<=b) (hb1:b<4294967296) (w:World):
  Calls Tryz.prog 127 #[.int .u32 a,.int .u32 b] w λe w'=>e= .returned (.int .u32 (bits .xor .u32 a b))/\w=w':=by
 all_goals go_enter Tryz.func127,Tryz.ntmps127
 all_goals go_wp2
 all_goals go_ret
 all_goals exact⟨bI (by first|rfl|(simp;done)|(simp[bm, *];done)|(simp_all [bm];done)|omega),rfl⟩
theorem MX (a b:Int) (ha0:0<=a) (ha1:a<4294967296) (hb0:0<=b) (hb1:b<4294967296) (w:World):
  Calls Tryz.prog 128 #[.int .u32 a,.int .u32 b] w λe w'=>e= .returned (.int .u32 (a*2^(b%32).toNat%4294967296))/\w=w':=by
 all_goals go_enter Tryz.func128,Tryz.ntmps128
 all_goals go_wp2
 all_goals go_ret
 all_goals exact⟨bI (by first|rfl|(simp;done)|(simp[bm, *];done)|(simp_all [bm];done)|omega),rfl⟩
theorem CR (a b:Int) (ha0:0<=a) (ha1:a<4294967296) (hb0:0<=b) (hb1:b<4294967296) (w:World):
  Calls Tryz.prog 129 #[.int .u32 a,.int .u32 b] w λe w'=>e= .returned (.int .u32 (a / 2^(b%32).toNat))/\w=w':=by
 all_goals go_enter Tryz.func129,Tryz.ntmps129
 all_goals go_wp2
 all_goals go_ret
 all_goals exact⟨bI (by first|rfl|(simp;done)|(simp[bm, *];done)|(simp_all [bm];done)|omega),rfl⟩
theorem CQ (a b:Int) (ha0:0<=a) (ha1:a<4294967296) (hb0:0<=b) (hb1:b<4294967296) (w:World):
  Calls Tryz.prog 130 #[.int .u32 a,.int .u32 b] w λe w'=>e= .returned (.int .u32 (min a b))/\w=w':=by
 by_cases h:a<=b
 all_goals go_enter Tryz.func130,Tryz.ntmps130
 all_goals go_wp2
 all_goals go_ret
 all_goals exact⟨bI (by first|rfl|(simp;done)|(simp[bm, *];done)|(simp_all [bm];done)|omega),rfl⟩
theorem CP (a b:Int) (ha0:0<=a) (ha1:a<4294967296) (hb0:0<=b) (hb1:b<4294967296) (w:World):
  Calls Tryz.prog 131 #[.int .u32 a,.int .u32 b] w λe w'=>e= .returned (.int .u32 (max a b))/\w=w':=by
 by_cases h:a<=b
 all_goals go_enter Tryz.func131,Tryz.ntmps131
 all_goals go_wp2
 all_goals go_ret
 all_goals exact⟨bI (by first|rfl|(simp;done)|(simp[bm, *];done)|(simp_all [bm];done)|omega),rfl⟩
theorem CO (a b:Int) (ha0:0<=a) (ha1:a<4294967296) (hb0:0<=b) (hb1:b<4294967296) (w:World):
  Calls Tryz.prog 133 #[.int .u32 a,.int .u32 b] w λe w'=>e= .returned (.int .u32 (bm (a==b)))/\w=w':=by
 by_cases h:(a==b)=true
 all_goals go_enter Tryz.func133,Tryz.ntmps133
 all_goals go_wp2
 all_goals go_ret
 all_goals exact⟨bI (by first|rfl|(simp;done)|(simp[bm, *];done)|(simp_all [bm];done)|omega),rfl⟩
theorem CN (a b:Int) (ha0:0<=a) (ha1:a<4294967296) (hb0:0<=b) (hb1:b<4294967296) (w:World):
  Calls Tryz.prog 135 #[.int .u32 a,.int .u32 b] w λe w'=>e= .returned (.int .u32 (bm (decide (a<b))))/\w=w':=by
 by_cases h:a<b
 all_goals go_enter Tryz.func135,Tryz.ntmps135
 all_goals go_wp2
 all_goals go_ret
 all_goals exact⟨bI (by first|rfl|(simp;done)|(simp[bm, *];done)|(simp_all [bm];done)|omega),rfl⟩
theorem CM (a b:Int) (ha0:0<=a) (ha1:a<4294967296) (hb0:0<=b) (hb1:b<4294967296) (w:World):
  Calls Tryz.prog 136 #[.int .u32 a,.int .u32 b] w λe w'=>e= .returned (.int .u32 (bm (a==0)))/\w=w':=by
 by_cases h:(a==0)=true
 all_goals go_enter Tryz.func136,Tryz.ntmps136
 all_goals go_wp2
 all_goals go_ret
 all_goals exact⟨bI (by first|rfl|(simp;done)|(simp[bm, *];done)|(simp_all [bm];done)|omega),rfl⟩
theorem CL (a b:Int) (ha0:0<=a) (ha1:a<4294967296) (hb0:0<=b) (hb1:b<4294967296) (w:World):
  Calls Tryz.prog 137 #[.int .u32 a,.int .u32 b] w λe w'=>e= .returned (.int .u32 (bm (a != 0&&b != 0)))/\w=w':=by
 by_cases h1:a=0
 all_goals by_cases h2:b=0
 all_goals go_enter Tryz.func137,Tryz.ntmps137
 all_goals go_wp2
 all_goals go_ret
 all_goals exact⟨bI (by first|rfl|(simp;done)|(simp[bm, *];done)|(simp_all [bm];done)|omega),rfl⟩
theorem CK (a b:Int) (ha0:0<=a) (ha1:a<4294967296) (hb0:0<=b) (hb1:b<4294967296) (w:World):
  Calls Tryz.prog 138 #[.int .u32 a,.int .u32 b] w λe w'=>e= .returned (.int .u32 (bm (a != 0||b != 0)))/\w=w':=by
 by_cases h1:a=0
 all_goals by_cases h2:b=0
 all_goals go_enter Tryz.func138,Tryz.ntmps138
 all_goals go_wp2
 all_goals go_ret
 all_goals exact⟨bI (by first|rfl|(simp;done)|(simp[bm, *];done)|(simp_all [bm];done)|omega),rfl⟩
theorem CJ (a b:Int) (ha0:0<=a) (ha1:a<4294967296) (hb0:0<=b) (hb1:b<4294967296) (w:World):
  Calls Tryz.prog 139 #[.int .u32 a,.int .u32 b] w λe w'=>e= .returned (.int .u32 (bm (a != 0)))/\w=w':=by
 by_cases h1:a=0
 all_goals by_cases h2:b=0
 all_goals go_enter Tryz.func139,Tryz.ntmps139
 all_goals go_wp2
 all_goals go_ret
 all_goals exact⟨bI (by first|rfl|(simp;done)|(simp[bm, *];done)|(simp_all [bm];done)|omega),rfl⟩
theorem tk (a b:Int) (ha0:0<=a) (ha1:a<4294967296) (hb0:0<=b) (hb1:b<4294967296) (w:World):
  Calls Tryz.prog 132 #[.int .u32 a,.int .u32 b] w λe w'=>e= .returned (.int .u32 (mq a b))/\w=w':=by
 go_enter Tryz.func132,Tryz.ntmps132
 go_wp2
 go_ret
 refine⟨bI ?_,rfl⟩
 first|rfl|(simp[mq];done)|skip
end Go.Proofs.YtidhfimbnjaceaaGreat