/- A part of the proof of OptimizerShortens: A C. No condition. -/
import Derived.BigQuiet
import Derived.Deep.QuietTactic
import Derived.WalkKit
import Derived.WalkLawsBesides
import Derived.WalkSpells
import Derived.Test.YtidhfimbnjaceaaProg
import Derived.Test.YtidhfimbnjaceaaGs01
set_option linter.unusedSimpArgs false
set_option linter.unusedVariables false
set_option linter.constructorNameAsVariable false
set_option maxRecDepth 100000
set_option maxHeartbeats 4000000
namespace Go.Proofs.Ytidhfimbnjaceaa
open Go.RowKit
theorem ik{a b:Bool}(h:a=b):Ending.returned (.bool a)= .returned (.bool b):=by rw[h]
theorem br{k:IntKind}{a b:Int}(h:a=b):Ending.returned (.int k a)= .returned (.int k b):=by rw[h]
theorem oE(n:Int)(w:World):
  Calls Try.prog 18 #[.int .i64 n] w λe w'=>e= .returned (.bool (decide (n<0)||decide (1024<n)))/\w=w':=by
 by_cases h:n<0
 all_goals
  go_enter Try.func18,Try.ntmps18
  go_wp2
  go_ret
  exact⟨ik (by simp[h];try omega),rfl⟩
theorem Ja(a b:Int)(ha0:0<=a)(ha1:a<4294967296)(hb0:0<=b)(hb1:b<4294967296)(w:World):
  Calls Try.prog 82 #[.int .u32 a,.int .u32 b] w λe w'=>e= .returned (.int .u32 ((a+b)%4294967296))/\w=w':=by
 all_goals go_enter Try.func82,Try.ntmps82
 all_goals go_wp2
 all_goals go_ret
 all_goals exact⟨br (by first|rfl|(simp;done)|(simp[a9, *];done)|(simp_all [a9];done)|omega),rfl⟩
theorem I9(a b:Int)(ha0:0<=a)(ha1:a<4294967296)(hb0:0<=b)(hb1:b<4294967296)(w:World):
  Calls Try.prog 83 #[.int .u32 a,.int .u32 b] w λe w'=>e= .returned (.int .u32 ((a-b)%4294967296))/\w=w':=by
 all_goals go_enter Try.func83,Try.ntmps83
 all_goals go_wp2
 all_goals go_ret
 all_goals exact⟨br (by first|rfl|(simp;done)|(simp[a9, *];done)|(simp_all [a9];done)|omega),rfl⟩
theorem I8(a b:Int)(ha0:0<=a)(ha1:a<4294967296)(hb0:0<=b)(hb1:b<4294967296)(w:World):
  Calls Try.prog 84 #[.int .u32 a,.int .u32 b] w λe w'=>e= .returned (.int .u32 ((a*b)%4294967296))/\w=w':=by
 all_goals go_enter Try.func84,Try.ntmps84
 all_goals go_wp2
 all_goals go_ret
 all_goals exact⟨br (by first|rfl|(simp;done)|(simp[a9, *];done)|(simp_all [a9];done)|omega),rfl⟩
theorem I7(a b:Int)(ha0:0<=a)(ha1:a<4294967296)(hb0:0<=b)(hb1:b<4294967296)(hb:¬b=0)(w:World):
  Calls Try.prog 85 #[.int .u32 a,.int .u32 b] w λe w'=>e= .returned (.int .u32 (a / b))/\w=w':=by
 all_goals go_enter Try.func85,Try.ntmps85
 all_goals go_wp2
 all_goals go_ret
 all_goals exact⟨br (by first|rfl|(simp;done)|(simp[Int.tdiv_eq_ediv_of_nonneg ha0];exact Int.emod_eq_of_lt (Int.ediv_nonneg ha0 hb0) (Int.lt_of_le_of_lt (Int.ediv_le_self b ha0) ha1))|omega),rfl⟩
theorem I6(a b:Int)(ha0:0<=a)(ha1:a<4294967296)(hb0:0<=b)(hb1:b<4294967296)(hb:¬b=0)(w:World):
  Calls Try.prog 86 #[.int .u32 a,.int .u32 b] w λe w'=>e= .returned (.int .u32 (a%b))/\w=w':=by
 all_goals go_enter Try.func86,Try.ntmps86
 all_goals go_wp2
 all_goals go_ret
 all_goals exact⟨br (by first|rfl|(simp;done)|(simp[a9, *];done)|(simp_all [a9];done)|omega),rfl⟩
theorem I5(a b:Int)(ha0:0<=a)(ha1:a<4294967296)(hb0:0<=b)(hb1:b<4294967296)(w:World):
  Calls Try.prog 87 #[.int .u32 a,.int .u32 b] w λe w'=>e= .returned (.int .u32 (bits .and .u32 a b))/\w=w':=by
 all_goals go_enter Try.func87,Try.ntmps87
 all_goals go_wp2
 all_goals go_ret
 all_goals exact⟨br (by first|rfl|(simp;done)|(simp[a9, *];done)|(simp_all [a9];done)|omega),rfl⟩
theorem I4(a b:Int)(ha0:0<=a)(ha1:a<4294967296)(hb0:0<=b)(hb1:b<4294967296)(w:World):
  Calls Try.prog 88 #[.int .u32 a,.int .u32 b] w λe w'=>e= .returned (.int .u32 (bits .or .u32 a b))/\w=w':=by
 all_goals go_enter Try.func88,Try.ntmps88
 all_goals go_wp2
 all_goals go_ret
 all_goals exact⟨br (by first|rfl|(simp;done)|(simp[a9, *];done)|(simp_all [a9];done)|omega),rfl⟩
theorem I3(a b:Int)(ha0:0<=a)(ha1:a<4294967296)(hb0:0<=b)(hb1:b<4294967296)(w:World):
  Calls Try.prog 89 #[.int .u32 a,.int .u32 b] w λe w'=>e= .returned (.int .u32 (bits .xor .u32 a b))/\w=w':=by
 all_goals go_enter Try.func89,Try.ntmps89
 all_goals go_wp2
 all_goals go_ret
 all_goals exact⟨br (by first|rfl|(simp;done)|(simp[a9, *];done)|(simp_all [a9];done)|omega),rfl⟩
theorem I2(a b:Int)(ha0:0<=a)(ha1:a<4294967296)(hb0:0<=b)(hb1:b<4294967296)(w:World):
  Calls Try.prog 90 #[.int .u32 a,.int .u32 b] w λe w'=>e= .returned (.int .u32 (a*2^(b%32).toNat%4294967296))/\w=w':=by
 all_goals go_enter Try.func90,Try.ntmps90
 all_goals go_wp2
 all_goals go_ret
 all_goals exact⟨br (by first|rfl|(simp;done)|(simp[a9, *];done)|(simp_all [a9];done)|omega),rfl⟩
theorem z8(a b:Int)(ha0:0<=a)(ha1:a<4294967296)(hb0:0<=b)(hb1:b<4294967296)(w:World):
  Calls Try.prog 91 #[.int .u32 a,.int .u32 b] w λe w'=>e= .returned (.int .u32 (a / 2^(b%32).toNat))/\w=w':=by
 all_goals go_enter Try.func91,Try.ntmps91
 all_goals go_wp2
 all_goals go_ret
 all_goals exact⟨br (by first|rfl|(simp;done)|(simp[a9, *];done)|(simp_all [a9];done)|omega),rfl⟩
theorem z7(a b:Int)(ha0:0<=a)(ha1:a<4294967296)(hb0:0<=b)(hb1:b<4294967296)(w:World):
  Calls Try.prog 92 #[.int .u32 a,.int .u32 b] w λe w'=>e= .returned (.int .u32 (min a b))/\w=w':=by
 by_cases h:a<=b
 all_goals go_enter Try.func92,Try.ntmps92
 all_goals go_wp2
 all_goals go_ret
 all_goals exact⟨br (by first|rfl|(simp;done)|(simp[a9, *];done)|(simp_all [a9];done)|omega),rfl⟩
theorem z6(a b:Int)(ha0:0<=a)(ha1:a<4294967296)(hb0:0<=b)(hb1:b<4294967296)(w:World):
  Calls Try.prog 93 #[.int .u32 a,.int .u32 b] w λe w'=>e= .returned (.int .u32 (max a b))/\w=w':=by
 by_cases h:a<=b
 all_goals go_enter Try.func93,Try.ntmps93
 all_goals go_wp2
 all_goals go_ret
 all_goals exact⟨br (by first|rfl|(simp;done)|(simp[a9, *];done)|(simp_all [a9];done)|omega),rfl⟩
theorem z5(a b:Int)(ha0:0<=a)(ha1:a<4294967296)(hb0:0<=b)(hb1:b<4294967296)(w:World):
  Calls Try.prog 95 #[.int .u32 a,.int .u32 b] w λe w'=>e= .returned (.int .u32 (a9 (a==b)))/\w=w':=by
 by_cases h:(a==b)=true
 all_goals go_enter Try.func95,Try.ntmps95
 all_goals go_wp2
 all_goals go_ret
 all_goals exact⟨br (by first|rfl|(simp;done)|(simp[a9, *];done)|(simp_all [a9];done)|omega),rfl⟩
theorem zZ(a b:Int)(ha0:0<=a)(ha1:a<4294967296)(hb0:0<=b)(hb1:b<4294967296)(w:World):
  Calls Try.prog 97 #[.int .u32 a,.int .u32 b] w λe w'=>e= .returned (.int .u32 (a9 (decide (a<b))))/\w=w':=by
 by_cases h:a<b
 all_goals go_enter Try.func97,Try.ntmps97
 all_goals go_wp2
 all_goals go_ret
 all_goals exact⟨br (by first|rfl|(simp;done)|(simp[a9, *];done)|(simp_all [a9];done)|omega),rfl⟩
theorem zY(a b:Int)(ha0:0<=a)(ha1:a<4294967296)(hb0:0<=b)(hb1:b<4294967296)(w:World):
  Calls Try.prog 98 #[.int .u32 a,.int .u32 b] w λe w'=>e= .returned (.int .u32 (a9 (a==0)))/\w=w':=by
 by_cases h:(a==0)=true
 all_goals go_enter Try.func98,Try.ntmps98
 all_goals go_wp2
 all_goals go_ret
 all_goals exact⟨br (by first|rfl|(simp;done)|(simp[a9, *];done)|(simp_all [a9];done)|omega),rfl⟩
theorem zX(a b:Int)(ha0:0<=a)(ha1:a<4294967296)(hb0:0<=b)(hb1:b<4294967296)(w:World):
  Calls Try.prog 99 #[.int .u32 a,.int .u32 b] w λe w'=>e= .returned (.int .u32 (a9 (a != 0&&b != 0)))/\w=w':=by
 by_cases h1:a=0
 all_goals by_cases h2:b=0
 all_goals go_enter Try.func99,Try.ntmps99
 all_goals go_wp2
 all_goals go_ret
 all_goals exact⟨br (by first|rfl|(simp;done)|(simp[a9, *];done)|(simp_all [a9];done)|omega),rfl⟩
theorem zW(a b:Int)(ha0:0<=a)(ha1:a<4294967296)(hb0:0<=b)(hb1:b<4294967296)(w:World):
  Calls Try.prog 100 #[.int .u32 a,.int .u32 b] w λe w'=>e= .returned (.int .u32 (a9 (a != 0||b != 0)))/\w=w':=by
 by_cases h1:a=0
 all_goals by_cases h2:b=0
 all_goals go_enter Try.func100,Try.ntmps100
 all_goals go_wp2
 all_goals go_ret
 all_goals exact⟨br (by first|rfl|(simp;done)|(simp[a9, *];done)|(simp_all [a9];done)|omega),rfl⟩
theorem zV(a b:Int)(ha0:0<=a)(ha1:a<4294967296)(hb0:0<=b)(hb1:b<4294967296)(w:World):
  Calls Try.prog 101 #[.int .u32 a,.int .u32 b] w λe w'=>e= .returned (.int .u32 (a9 (a != 0)))/\w=w':=by
 by_cases h1:a=0
 all_goals by_cases h2:b=0
 all_goals go_enter Try.func101,Try.ntmps101
 all_goals go_wp2
 all_goals go_ret
 all_goals exact⟨br (by first|rfl|(simp;done)|(simp[a9, *];done)|(simp_all [a9];done)|omega),rfl⟩
theorem rG(a b:Int)(ha0:0<=a)(ha1:a<4294967296)(hb0:0<=b)(hb1:b<4294967296)(w:World):
  Calls Try.prog 94 #[.int .u32 a,.int .u32 b] w λe w'=>e= .returned (.int .u32 (lK a b))/\w=w':=by
 go_enter Try.func94,Try.ntmps94
 go_wp2
 go_ret
 refine⟨br ?_,rfl⟩
 first|rfl|(simp[lK];done)|skip
end Go.Proofs.Ytidhfimbnjaceaa