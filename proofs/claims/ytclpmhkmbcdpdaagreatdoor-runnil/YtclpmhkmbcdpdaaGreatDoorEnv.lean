/-
  A part of the proof that virgatelaw18.RunNil answers true for every fuel: the program's types and functions as the evaluator reads them. No condition.
-/
import Derived.Test.YtclpmhkmbcdpdaaGreatDoorProg
import Derived.Test.YtclpmhkmbcdpdaaGreatDoorEvB
import Derived.KernelRfl
set_option linter.all false
set_option maxRecDepth 100000
namespace Go.Proofs
open Go Go.Ev
-- function 3, types 631
noncomputable def Tryz.ti1 : TI := TI.mk Tryz.t1.desc 1 8 [.nilFunc] false
theorem Tryz.tok1 : TIok Tryz.prog 1 Tryz.ti1 := TIok.of' (z := .nilFunc) Tryz.underlying1 Tryz.type1 (by kernel_rfl) Tryz.types_size (by kernel_rfl) (by kernel_rfl)
noncomputable def Tryz.ti2 : TI := TI.mk Tryz.t2.desc 1 8 [.int .i64 0] false
theorem Tryz.tok2 : TIok Tryz.prog 2 Tryz.ti2 := TIok.of' (z := .int .i64 0) Tryz.underlying2 Tryz.type2 (by kernel_rfl) Tryz.types_size (by kernel_rfl) (by kernel_rfl)
noncomputable def Tryz.ti3 : TI := TI.mk Tryz.t3.desc 1 8 [.int .i64 0] false
theorem Tryz.tok3 : TIok Tryz.prog 3 Tryz.ti3 := TIok.of' (z := .int .i64 0) Tryz.underlying3 Tryz.type3 (by kernel_rfl) Tryz.types_size (by kernel_rfl) (by kernel_rfl)
noncomputable def Tryz.ti4 : TI := TI.mk Tryz.t4.desc 1 1 [.bool false] false
theorem Tryz.tok4 : TIok Tryz.prog 4 Tryz.ti4 := TIok.of' (z := .bool false) Tryz.underlying4 Tryz.type4 (by kernel_rfl) Tryz.types_size (by kernel_rfl) (by kernel_rfl)
noncomputable def Tryz.ti5 : TI := TI.mk Tryz.t5.desc 1 1 [.int .u8 0] false
theorem Tryz.tok5 : TIok Tryz.prog 5 Tryz.ti5 := TIok.of' (z := .int .u8 0) Tryz.underlying5 Tryz.type5 (by kernel_rfl) Tryz.types_size (by kernel_rfl) (by kernel_rfl)
noncomputable def Tryz.ti6 : TI := TI.mk Tryz.t5.desc 1 1 [.int .u8 0] false
theorem Tryz.tok6 : TIok Tryz.prog 6 Tryz.ti6 := TIok.of' (z := .int .u8 0) Tryz.underlying6 Tryz.type6 (by kernel_rfl) Tryz.types_size (by kernel_rfl) (by kernel_rfl)
noncomputable def Tryz.ti7 : TI := TI.mk Tryz.t7.desc 4 24 [.int .i64 0, .int .i64 0, .bool false, .int .u8 0] true
theorem Tryz.tok7 : TIok Tryz.prog 7 Tryz.ti7 := TIok.of' (z := .agg ⟨[.int .i64 0, .int .i64 0, .bool false, .int .u8 0]⟩) Tryz.underlying7 Tryz.type7 (by kernel_rfl) Tryz.types_size (by kernel_rfl) (by kernel_rfl)
noncomputable def Tryz.ti8 : TI := TI.mk Tryz.t7.desc 4 24 [.int .i64 0, .int .i64 0, .bool false, .int .u8 0] true
theorem Tryz.tok8 : TIok Tryz.prog 8 Tryz.ti8 := TIok.of' (z := .agg ⟨[.int .i64 0, .int .i64 0, .bool false, .int .u8 0]⟩) Tryz.underlying8 Tryz.type8 (by kernel_rfl) Tryz.types_size (by kernel_rfl) (by kernel_rfl)
noncomputable def Tryz.ti9 : TI := TI.mk Tryz.t9.desc 1 16 [.string ⟨⟨[]⟩⟩] false
theorem Tryz.tok9 : TIok Tryz.prog 9 Tryz.ti9 := TIok.of' (z := .string ⟨⟨[]⟩⟩) Tryz.underlying9 Tryz.type9 (by kernel_rfl) Tryz.types_size (by kernel_rfl) (by kernel_rfl)
noncomputable def Tryz.ti10 : TI := TI.mk Tryz.t9.desc 1 16 [.string ⟨⟨[]⟩⟩] false
theorem Tryz.tok10 : TIok Tryz.prog 10 Tryz.ti10 := TIok.of' (z := .string ⟨⟨[]⟩⟩) Tryz.underlying10 Tryz.type10 (by kernel_rfl) Tryz.types_size (by kernel_rfl) (by kernel_rfl)
noncomputable def Tryz.ti11 : TI := TI.mk Tryz.t9.desc 1 16 [.string ⟨⟨[]⟩⟩] false
theorem Tryz.tok11 : TIok Tryz.prog 11 Tryz.ti11 := TIok.of' (z := .string ⟨⟨[]⟩⟩) Tryz.underlying11 Tryz.type11 (by kernel_rfl) Tryz.types_size (by kernel_rfl) (by kernel_rfl)
noncomputable def Tryz.ti12 : TI := TI.mk Tryz.t12.desc 1 8 [.int .u64 0] false
theorem Tryz.tok12 : TIok Tryz.prog 12 Tryz.ti12 := TIok.of' (z := .int .u64 0) Tryz.underlying12 Tryz.type12 (by kernel_rfl) Tryz.types_size (by kernel_rfl) (by kernel_rfl)
noncomputable def Tryz.ti13 : TI := TI.mk Tryz.t13.desc 2 24 [.string ⟨⟨[]⟩⟩, .int .u64 0] true
theorem Tryz.tok13 : TIok Tryz.prog 13 Tryz.ti13 := TIok.of' (z := .agg ⟨[.string ⟨⟨[]⟩⟩, .int .u64 0]⟩) Tryz.underlying13 Tryz.type13 (by kernel_rfl) Tryz.types_size (by kernel_rfl) (by kernel_rfl)
noncomputable def Tryz.ti14 : TI := TI.mk Tryz.t13.desc 2 24 [.string ⟨⟨[]⟩⟩, .int .u64 0] true
theorem Tryz.tok14 : TIok Tryz.prog 14 Tryz.ti14 := TIok.of' (z := .agg ⟨[.string ⟨⟨[]⟩⟩, .int .u64 0]⟩) Tryz.underlying14 Tryz.type14 (by kernel_rfl) Tryz.types_size (by kernel_rfl) (by kernel_rfl)
noncomputable def Tryz.ti15 : TI := TI.mk Tryz.t15.desc 1 8 [.pointer none] false
theorem Tryz.tok15 : TIok Tryz.prog 15 Tryz.ti15 := TIok.of' (z := .pointer none) Tryz.underlying15 Tryz.type15 (by kernel_rfl) Tryz.types_size (by kernel_rfl) (by kernel_rfl)
noncomputable def Tryz.ti16 : TI := TI.mk Tryz.t16.desc 1 8 [.pointer none] false
theorem Tryz.tok16 : TIok Tryz.prog 16 Tryz.ti16 := TIok.of' (z := .pointer none) Tryz.underlying16 Tryz.type16 (by kernel_rfl) Tryz.types_size (by kernel_rfl) (by kernel_rfl)
noncomputable def Tryz.ti17 : TI := TI.mk Tryz.t17.desc 1 8 [.pointer none] false
theorem Tryz.tok17 : TIok Tryz.prog 17 Tryz.ti17 := TIok.of' (z := .pointer none) Tryz.underlying17 Tryz.type17 (by kernel_rfl) Tryz.types_size (by kernel_rfl) (by kernel_rfl)
noncomputable def Tryz.ti18 : TI := TI.mk Tryz.t18.desc 1 8 [.pointer none] true
theorem Tryz.tok18 : TIok Tryz.prog 18 Tryz.ti18 := TIok.of' (z := .agg ⟨[.pointer none]⟩) Tryz.underlying18 Tryz.type18 (by kernel_rfl) Tryz.types_size (by kernel_rfl) (by kernel_rfl)
noncomputable def Tryz.ti19 : TI := TI.mk Tryz.t18.desc 1 8 [.pointer none] true
theorem Tryz.tok19 : TIok Tryz.prog 19 Tryz.ti19 := TIok.of' (z := .agg ⟨[.pointer none]⟩) Tryz.underlying19 Tryz.type19 (by kernel_rfl) Tryz.types_size (by kernel_rfl) (by kernel_rfl)
noncomputable def Tryz.ti20 : TI := TI.mk Tryz.t20.desc 1 16 [.nilIface] false
theorem Tryz.tok20 : TIok Tryz.prog 20 Tryz.ti20 := TIok.of' (z := .nilIface) Tryz.underlying20 Tryz.type20 (by kernel_rfl) Tryz.types_size (by kernel_rfl) (by kernel_rfl)
noncomputable def Tryz.ti21 : TI := TI.mk Tryz.t21.desc 1 4 [.int .i32 0] false
theorem Tryz.tok21 : TIok Tryz.prog 21 Tryz.ti21 := TIok.of' (z := .int .i32 0) Tryz.underlying21 Tryz.type21 (by kernel_rfl) Tryz.types_size (by kernel_rfl) (by kernel_rfl)
noncomputable def Tryz.ti22 : TI := TI.mk Tryz.t22.desc 1 8 [.pointer none] false
theorem Tryz.tok22 : TIok Tryz.prog 22 Tryz.ti22 := TIok.of' (z := .pointer none) Tryz.underlying22 Tryz.type22 (by kernel_rfl) Tryz.types_size (by kernel_rfl) (by kernel_rfl)
noncomputable def Tryz.ti23 : TI := TI.mk Tryz.t23.desc 1 24 [.slice none 0 0] false
theorem Tryz.tok23 : TIok Tryz.prog 23 Tryz.ti23 := TIok.of' (z := .slice none 0 0) Tryz.underlying23 Tryz.type23 (by kernel_rfl) Tryz.types_size (by kernel_rfl) (by kernel_rfl)
noncomputable def Tryz.ti24 : TI := TI.mk Tryz.t24.desc 4 64 [.slice none 0 0, .string ⟨⟨[]⟩⟩, .string ⟨⟨[]⟩⟩, .int .i64 0] true
theorem Tryz.tok24 : TIok Tryz.prog 24 Tryz.ti24 := TIok.of' (z := .agg ⟨[.slice none 0 0, .string ⟨⟨[]⟩⟩, .string ⟨⟨[]⟩⟩, .int .i64 0]⟩) Tryz.underlying24 Tryz.type24 (by kernel_rfl) Tryz.types_size (by kernel_rfl) (by kernel_rfl)
noncomputable def Tryz.ti25 : TI := TI.mk Tryz.t24.desc 4 64 [.slice none 0 0, .string ⟨⟨[]⟩⟩, .string ⟨⟨[]⟩⟩, .int .i64 0] true
theorem Tryz.tok25 : TIok Tryz.prog 25 Tryz.ti25 := TIok.of' (z := .agg ⟨[.slice none 0 0, .string ⟨⟨[]⟩⟩, .string ⟨⟨[]⟩⟩, .int .i64 0]⟩) Tryz.underlying25 Tryz.type25 (by kernel_rfl) Tryz.types_size (by kernel_rfl) (by kernel_rfl)
noncomputable def Tryz.ti26 : TI := TI.mk Tryz.t3.desc 1 8 [.int .i64 0] false
theorem Tryz.tok26 : TIok Tryz.prog 26 Tryz.ti26 := TIok.of' (z := .int .i64 0) Tryz.underlying26 Tryz.type26 (by kernel_rfl) Tryz.types_size (by kernel_rfl) (by kernel_rfl)
noncomputable def Tryz.ti28 : TI := TI.mk Tryz.t28.desc 1 8 [.nilFunc] false
theorem Tryz.tok28 : TIok Tryz.prog 28 Tryz.ti28 := TIok.of' (z := .nilFunc) Tryz.underlying28 Tryz.type28 (by kernel_rfl) Tryz.types_size (by kernel_rfl) (by kernel_rfl)
noncomputable def Tryz.ti30 : TI := TI.mk Tryz.t30.desc 1 8 [.nilFunc] false
theorem Tryz.tok30 : TIok Tryz.prog 30 Tryz.ti30 := TIok.of' (z := .nilFunc) Tryz.underlying30 Tryz.type30 (by kernel_rfl) Tryz.types_size (by kernel_rfl) (by kernel_rfl)
noncomputable def Tryz.ti31 : TI := TI.mk Tryz.t31.desc 1 8 [.nilFunc] false
theorem Tryz.tok31 : TIok Tryz.prog 31 Tryz.ti31 := TIok.of' (z := .nilFunc) Tryz.underlying31 Tryz.type31 (by kernel_rfl) Tryz.types_size (by kernel_rfl) (by kernel_rfl)
noncomputable def Tryz.ti32 : TI := TI.mk Tryz.t32.desc 1 8 [.nilFunc] false
theorem Tryz.tok32 : TIok Tryz.prog 32 Tryz.ti32 := TIok.of' (z := .nilFunc) Tryz.underlying32 Tryz.type32 (by kernel_rfl) Tryz.types_size (by kernel_rfl) (by kernel_rfl)
noncomputable def Tryz.ti33 : TI := TI.mk Tryz.t33.desc 1 24 [.slice none 0 0] false
theorem Tryz.tok33 : TIok Tryz.prog 33 Tryz.ti33 := TIok.of' (z := .slice none 0 0) Tryz.underlying33 Tryz.type33 (by kernel_rfl) Tryz.types_size (by kernel_rfl) (by kernel_rfl)
noncomputable def Tryz.ti34 : TI := TI.mk Tryz.t34.desc 1 24 [.slice none 0 0] false
theorem Tryz.tok34 : TIok Tryz.prog 34 Tryz.ti34 := TIok.of' (z := .slice none 0 0) Tryz.underlying34 Tryz.type34 (by kernel_rfl) Tryz.types_size (by kernel_rfl) (by kernel_rfl)
noncomputable def Tryz.ti35 : TI := TI.mk Tryz.t35.desc 1 24 [.slice none 0 0] false
theorem Tryz.tok35 : TIok Tryz.prog 35 Tryz.ti35 := TIok.of' (z := .slice none 0 0) Tryz.underlying35 Tryz.type35 (by kernel_rfl) Tryz.types_size (by kernel_rfl) (by kernel_rfl)
noncomputable def Tryz.ti36 : TI := TI.mk Tryz.t36.desc 1 24 [.slice none 0 0] false
theorem Tryz.tok36 : TIok Tryz.prog 36 Tryz.ti36 := TIok.of' (z := .slice none 0 0) Tryz.underlying36 Tryz.type36 (by kernel_rfl) Tryz.types_size (by kernel_rfl) (by kernel_rfl)
noncomputable def Tryz.ti37 : TI := TI.mk Tryz.t37.desc 1 24 [.slice none 0 0] false
theorem Tryz.tok37 : TIok Tryz.prog 37 Tryz.ti37 := TIok.of' (z := .slice none 0 0) Tryz.underlying37 Tryz.type37 (by kernel_rfl) Tryz.types_size (by kernel_rfl) (by kernel_rfl)
noncomputable def Tryz.ti38 : TI := TI.mk Tryz.t38.desc 1 24 [.slice none 0 0] false
theorem Tryz.tok38 : TIok Tryz.prog 38 Tryz.ti38 := TIok.of' (z := .slice none 0 0) Tryz.underlying38 Tryz.type38 (by kernel_rfl) Tryz.types_size (by kernel_rfl) (by kernel_rfl)
noncomputable def Tryz.ti39 : TI := TI.mk Tryz.t39.desc 5 88 [.string ⟨⟨[]⟩⟩, .string ⟨⟨[]⟩⟩, .int .i64 0, .slice none 0 0, .slice none 0 0] true
theorem Tryz.tok39 : TIok Tryz.prog 39 Tryz.ti39 := TIok.of' (z := .agg ⟨[.string ⟨⟨[]⟩⟩, .string ⟨⟨[]⟩⟩, .int .i64 0, .slice none 0 0, .slice none 0 0]⟩) Tryz.underlying39 Tryz.type39 (by kernel_rfl) Tryz.types_size (by kernel_rfl) (by kernel_rfl)
noncomputable def Tryz.ti40 : TI := TI.mk Tryz.t39.desc 5 88 [.string ⟨⟨[]⟩⟩, .string ⟨⟨[]⟩⟩, .int .i64 0, .slice none 0 0, .slice none 0 0] true
theorem Tryz.tok40 : TIok Tryz.prog 40 Tryz.ti40 := TIok.of' (z := .agg ⟨[.string ⟨⟨[]⟩⟩, .string ⟨⟨[]⟩⟩, .int .i64 0, .slice none 0 0, .slice none 0 0]⟩) Tryz.underlying40 Tryz.type40 (by kernel_rfl) Tryz.types_size (by kernel_rfl) (by kernel_rfl)
noncomputable def Tryz.ti41 : TI := TI.mk Tryz.t41.desc 1 24 [.slice none 0 0] false
theorem Tryz.tok41 : TIok Tryz.prog 41 Tryz.ti41 := TIok.of' (z := .slice none 0 0) Tryz.underlying41 Tryz.type41 (by kernel_rfl) Tryz.types_size (by kernel_rfl) (by kernel_rfl)
noncomputable def Tryz.ti42 : TI := TI.mk Tryz.t42.desc 17 312 [.string ⟨⟨[]⟩⟩, .string ⟨⟨[]⟩⟩, .string ⟨⟨[]⟩⟩, .string ⟨⟨[]⟩⟩, .int .i64 0, .int .i64 0, .slice none 0 0, .slice none 0 0, .string ⟨⟨[]⟩⟩, .string ⟨⟨[]⟩⟩, .int .i64 0, .slice none 0 0, .slice none 0 0, .slice none 0 0, .slice none 0 0, .slice none 0 0, .slice none 0 0] true
theorem Tryz.tok42 : TIok Tryz.prog 42 Tryz.ti42 := TIok.of' (z := .agg ⟨[.string ⟨⟨[]⟩⟩, .string ⟨⟨[]⟩⟩, .string ⟨⟨[]⟩⟩, .string ⟨⟨[]⟩⟩, .int .i64 0, .int .i64 0, .slice none 0 0, .slice none 0 0, .string ⟨⟨[]⟩⟩, .string ⟨⟨[]⟩⟩, .int .i64 0, .slice none 0 0, .slice none 0 0, .slice none 0 0, .slice none 0 0, .slice none 0 0, .slice none 0 0]⟩) Tryz.underlying42 Tryz.type42 (by kernel_rfl) Tryz.types_size (by kernel_rfl) (by kernel_rfl)
noncomputable def Tryz.ti43 : TI := TI.mk Tryz.t42.desc 17 312 [.string ⟨⟨[]⟩⟩, .string ⟨⟨[]⟩⟩, .string ⟨⟨[]⟩⟩, .string ⟨⟨[]⟩⟩, .int .i64 0, .int .i64 0, .slice none 0 0, .slice none 0 0, .string ⟨⟨[]⟩⟩, .string ⟨⟨[]⟩⟩, .int .i64 0, .slice none 0 0, .slice none 0 0, .slice none 0 0, .slice none 0 0, .slice none 0 0, .slice none 0 0] true
theorem Tryz.tok43 : TIok Tryz.prog 43 Tryz.ti43 := TIok.of' (z := .agg ⟨[.string ⟨⟨[]⟩⟩, .string ⟨⟨[]⟩⟩, .string ⟨⟨[]⟩⟩, .string ⟨⟨[]⟩⟩, .int .i64 0, .int .i64 0, .slice none 0 0, .slice none 0 0, .string ⟨⟨[]⟩⟩, .string ⟨⟨[]⟩⟩, .int .i64 0, .slice none 0 0, .slice none 0 0, .slice none 0 0, .slice none 0 0, .slice none 0 0, .slice none 0 0]⟩) Tryz.underlying43 Tryz.type43 (by kernel_rfl) Tryz.types_size (by kernel_rfl) (by kernel_rfl)
noncomputable def Tryz.ti44 : TI := TI.mk Tryz.t44.desc 19 360 [.slice none 0 0, .slice none 0 0, .string ⟨⟨[]⟩⟩, .string ⟨⟨[]⟩⟩, .string ⟨⟨[]⟩⟩, .string ⟨⟨[]⟩⟩, .int .i64 0, .int .i64 0, .slice none 0 0, .slice none 0 0, .string ⟨⟨[]⟩⟩, .string ⟨⟨[]⟩⟩, .int .i64 0, .slice none 0 0, .slice none 0 0, .slice none 0 0, .slice none 0 0, .slice none 0 0, .slice none 0 0] true
theorem Tryz.tok44 : TIok Tryz.prog 44 Tryz.ti44 := TIok.of' (z := .agg ⟨[.slice none 0 0, .slice none 0 0, .string ⟨⟨[]⟩⟩, .string ⟨⟨[]⟩⟩, .string ⟨⟨[]⟩⟩, .string ⟨⟨[]⟩⟩, .int .i64 0, .int .i64 0, .slice none 0 0, .slice none 0 0, .string ⟨⟨[]⟩⟩, .string ⟨⟨[]⟩⟩, .int .i64 0, .slice none 0 0, .slice none 0 0, .slice none 0 0, .slice none 0 0, .slice none 0 0, .slice none 0 0]⟩) Tryz.underlying44 Tryz.type44 (by kernel_rfl) Tryz.types_size (by kernel_rfl) (by kernel_rfl)
noncomputable def Tryz.ti45 : TI := TI.mk Tryz.t44.desc 19 360 [.slice none 0 0, .slice none 0 0, .string ⟨⟨[]⟩⟩, .string ⟨⟨[]⟩⟩, .string ⟨⟨[]⟩⟩, .string ⟨⟨[]⟩⟩, .int .i64 0, .int .i64 0, .slice none 0 0, .slice none 0 0, .string ⟨⟨[]⟩⟩, .string ⟨⟨[]⟩⟩, .int .i64 0, .slice none 0 0, .slice none 0 0, .slice none 0 0, .slice none 0 0, .slice none 0 0, .slice none 0 0] true
theorem Tryz.tok45 : TIok Tryz.prog 45 Tryz.ti45 := TIok.of' (z := .agg ⟨[.slice none 0 0, .slice none 0 0, .string ⟨⟨[]⟩⟩, .string ⟨⟨[]⟩⟩, .string ⟨⟨[]⟩⟩, .string ⟨⟨[]⟩⟩, .int .i64 0, .int .i64 0, .slice none 0 0, .slice none 0 0, .string ⟨⟨[]⟩⟩, .string ⟨⟨[]⟩⟩, .int .i64 0, .slice none 0 0, .slice none 0 0, .slice none 0 0, .slice none 0 0, .slice none 0 0, .slice none 0 0]⟩) Tryz.underlying45 Tryz.type45 (by kernel_rfl) Tryz.types_size (by kernel_rfl) (by kernel_rfl)
noncomputable def Tryz.ti46 : TI := TI.mk Tryz.t46.desc 5 24 [.bool false, .bool false, .bool false, .int .i64 0, .int .i64 0] true
theorem Tryz.tok46 : TIok Tryz.prog 46 Tryz.ti46 := TIok.of' (z := .agg ⟨[.bool false, .bool false, .bool false, .int .i64 0, .int .i64 0]⟩) Tryz.underlying46 Tryz.type46 (by kernel_rfl) Tryz.types_size (by kernel_rfl) (by kernel_rfl)
noncomputable def Tryz.ti47 : TI := TI.mk Tryz.t46.desc 5 24 [.bool false, .bool false, .bool false, .int .i64 0, .int .i64 0] true
theorem Tryz.tok47 : TIok Tryz.prog 47 Tryz.ti47 := TIok.of' (z := .agg ⟨[.bool false, .bool false, .bool false, .int .i64 0, .int .i64 0]⟩) Tryz.underlying47 Tryz.type47 (by kernel_rfl) Tryz.types_size (by kernel_rfl) (by kernel_rfl)
noncomputable def Tryz.ti48 : TI := TI.mk Tryz.t48.desc 1 24 [.slice none 0 0] false
theorem Tryz.tok48 : TIok Tryz.prog 48 Tryz.ti48 := TIok.of' (z := .slice none 0 0) Tryz.underlying48 Tryz.type48 (by kernel_rfl) Tryz.types_size (by kernel_rfl) (by kernel_rfl)
noncomputable def Tryz.ti49 : TI := TI.mk Tryz.t49.desc 3 56 [.string ⟨⟨[]⟩⟩, .string ⟨⟨[]⟩⟩, .slice none 0 0] true
theorem Tryz.tok49 : TIok Tryz.prog 49 Tryz.ti49 := TIok.of' (z := .agg ⟨[.string ⟨⟨[]⟩⟩, .string ⟨⟨[]⟩⟩, .slice none 0 0]⟩) Tryz.underlying49 Tryz.type49 (by kernel_rfl) Tryz.types_size (by kernel_rfl) (by kernel_rfl)
noncomputable def Tryz.ti50 : TI := TI.mk Tryz.t49.desc 3 56 [.string ⟨⟨[]⟩⟩, .string ⟨⟨[]⟩⟩, .slice none 0 0] true
theorem Tryz.tok50 : TIok Tryz.prog 50 Tryz.ti50 := TIok.of' (z := .agg ⟨[.string ⟨⟨[]⟩⟩, .string ⟨⟨[]⟩⟩, .slice none 0 0]⟩) Tryz.underlying50 Tryz.type50 (by kernel_rfl) Tryz.types_size (by kernel_rfl) (by kernel_rfl)
noncomputable def Tryz.ti51 : TI := TI.mk Tryz.t51.desc 1 24 [.slice none 0 0] false
theorem Tryz.tok51 : TIok Tryz.prog 51 Tryz.ti51 := TIok.of' (z := .slice none 0 0) Tryz.underlying51 Tryz.type51 (by kernel_rfl) Tryz.types_size (by kernel_rfl) (by kernel_rfl)
noncomputable def Tryz.ti52 : TI := TI.mk Tryz.t52.desc 1 8 [.map none] false
theorem Tryz.tok52 : TIok Tryz.prog 52 Tryz.ti52 := TIok.of' (z := .map none) Tryz.underlying52 Tryz.type52 (by kernel_rfl) Tryz.types_size (by kernel_rfl) (by kernel_rfl)
noncomputable def Tryz.ti53 : TI := TI.mk Tryz.t53.desc 1 8 [.pointer none] false
theorem Tryz.tok53 : TIok Tryz.prog 53 Tryz.ti53 := TIok.of' (z := .pointer none) Tryz.underlying53 Tryz.type53 (by kernel_rfl) Tryz.types_size (by kernel_rfl) (by kernel_rfl)
noncomputable def Tryz.ti54 : TI := TI.mk Tryz.t54.desc 1 24 [.slice none 0 0] false
theorem Tryz.tok54 : TIok Tryz.prog 54 Tryz.ti54 := TIok.of' (z := .slice none 0 0) Tryz.underlying54 Tryz.type54 (by kernel_rfl) Tryz.types_size (by kernel_rfl) (by kernel_rfl)
noncomputable def Tryz.ti55 : TI := TI.mk Tryz.t55.desc 1 8 [.pointer none] false
theorem Tryz.tok55 : TIok Tryz.prog 55 Tryz.ti55 := TIok.of' (z := .pointer none) Tryz.underlying55 Tryz.type55 (by kernel_rfl) Tryz.types_size (by kernel_rfl) (by kernel_rfl)
noncomputable def Tryz.ti56 : TI := TI.mk Tryz.t56.desc 1 8 [.pointer none] false
theorem Tryz.tok56 : TIok Tryz.prog 56 Tryz.ti56 := TIok.of' (z := .pointer none) Tryz.underlying56 Tryz.type56 (by kernel_rfl) Tryz.types_size (by kernel_rfl) (by kernel_rfl)
noncomputable def Tryz.ti57 : TI := TI.mk Tryz.t57.desc 1 8 [.pointer none] false
theorem Tryz.tok57 : TIok Tryz.prog 57 Tryz.ti57 := TIok.of' (z := .pointer none) Tryz.underlying57 Tryz.type57 (by kernel_rfl) Tryz.types_size (by kernel_rfl) (by kernel_rfl)
noncomputable def Tryz.ti58 : TI := TI.mk Tryz.t58.desc 2 16 [.int .i64 0, .int .i64 0] true
theorem Tryz.tok58 : TIok Tryz.prog 58 Tryz.ti58 := TIok.of' (z := .agg ⟨[.int .i64 0, .int .i64 0]⟩) Tryz.underlying58 Tryz.type58 (by kernel_rfl) Tryz.types_size (by kernel_rfl) (by kernel_rfl)
noncomputable def Tryz.ti59 : TI := TI.mk Tryz.t58.desc 2 16 [.int .i64 0, .int .i64 0] true
theorem Tryz.tok59 : TIok Tryz.prog 59 Tryz.ti59 := TIok.of' (z := .agg ⟨[.int .i64 0, .int .i64 0]⟩) Tryz.underlying59 Tryz.type59 (by kernel_rfl) Tryz.types_size (by kernel_rfl) (by kernel_rfl)
noncomputable def Tryz.ti60 : TI := TI.mk Tryz.t60.desc 1 24 [.slice none 0 0] false
theorem Tryz.tok60 : TIok Tryz.prog 60 Tryz.ti60 := TIok.of' (z := .slice none 0 0) Tryz.underlying60 Tryz.type60 (by kernel_rfl) Tryz.types_size (by kernel_rfl) (by kernel_rfl)
noncomputable def Tryz.ti61 : TI := TI.mk Tryz.t61.desc 1 24 [.slice none 0 0] false
theorem Tryz.tok61 : TIok Tryz.prog 61 Tryz.ti61 := TIok.of' (z := .slice none 0 0) Tryz.underlying61 Tryz.type61 (by kernel_rfl) Tryz.types_size (by kernel_rfl) (by kernel_rfl)
noncomputable def Tryz.ti62 : TI := TI.mk Tryz.t62.desc 45 680 [.slice none 0 0, .slice none 0 0, .string ⟨⟨[]⟩⟩, .string ⟨⟨[]⟩⟩, .string ⟨⟨[]⟩⟩, .string ⟨⟨[]⟩⟩, .int .i64 0, .int .i64 0, .slice none 0 0, .slice none 0 0, .string ⟨⟨[]⟩⟩, .string ⟨⟨[]⟩⟩, .int .i64 0, .slice none 0 0, .slice none 0 0, .slice none 0 0, .slice none 0 0, .slice none 0 0, .slice none 0 0, .bool false, .bool false, .bool false, .int .i64 0, .int .i64 0, .string ⟨⟨[]⟩⟩, .string ⟨⟨[]⟩⟩, .slice none 0 0, .slice none 0 0, .map none, .pointer none, .int .i64 0, .int .i64 0, .int .i64 0, .slice none 0 0, .slice none 0 0, .string ⟨⟨[]⟩⟩, .string ⟨⟨[]⟩⟩, .pointer none, .int .i64 0, .pointer none, .pointer none, .int .i64 0, .int .i64 0, .slice none 0 0, .slice none 0 0] true
theorem Tryz.tok62 : TIok Tryz.prog 62 Tryz.ti62 := TIok.of' (z := .agg ⟨[.slice none 0 0, .slice none 0 0, .string ⟨⟨[]⟩⟩, .string ⟨⟨[]⟩⟩, .string ⟨⟨[]⟩⟩, .string ⟨⟨[]⟩⟩, .int .i64 0, .int .i64 0, .slice none 0 0, .slice none 0 0, .string ⟨⟨[]⟩⟩, .string ⟨⟨[]⟩⟩, .int .i64 0, .slice none 0 0, .slice none 0 0, .slice none 0 0, .slice none 0 0, .slice none 0 0, .slice none 0 0, .bool false, .bool false, .bool false, .int .i64 0, .int .i64 0, .string ⟨⟨[]⟩⟩, .string ⟨⟨[]⟩⟩, .slice none 0 0, .slice none 0 0, .map none, .pointer none, .int .i64 0, .int .i64 0, .int .i64 0, .slice none 0 0, .slice none 0 0, .string ⟨⟨[]⟩⟩, .string ⟨⟨[]⟩⟩, .pointer none, .int .i64 0, .pointer none, .pointer none, .int .i64 0, .int .i64 0, .slice none 0 0, .slice none 0 0]⟩) Tryz.underlying62 Tryz.type62 (by kernel_rfl) Tryz.types_size (by kernel_rfl) (by kernel_rfl)
noncomputable def Tryz.ti63 : TI := TI.mk Tryz.t62.desc 45 680 [.slice none 0 0, .slice none 0 0, .string ⟨⟨[]⟩⟩, .string ⟨⟨[]⟩⟩, .string ⟨⟨[]⟩⟩, .string ⟨⟨[]⟩⟩, .int .i64 0, .int .i64 0, .slice none 0 0, .slice none 0 0, .string ⟨⟨[]⟩⟩, .string ⟨⟨[]⟩⟩, .int .i64 0, .slice none 0 0, .slice none 0 0, .slice none 0 0, .slice none 0 0, .slice none 0 0, .slice none 0 0, .bool false, .bool false, .bool false, .int .i64 0, .int .i64 0, .string ⟨⟨[]⟩⟩, .string ⟨⟨[]⟩⟩, .slice none 0 0, .slice none 0 0, .map none, .pointer none, .int .i64 0, .int .i64 0, .int .i64 0, .slice none 0 0, .slice none 0 0, .string ⟨⟨[]⟩⟩, .string ⟨⟨[]⟩⟩, .pointer none, .int .i64 0, .pointer none, .pointer none, .int .i64 0, .int .i64 0, .slice none 0 0, .slice none 0 0] true
theorem Tryz.tok63 : TIok Tryz.prog 63 Tryz.ti63 := TIok.of' (z := .agg ⟨[.slice none 0 0, .slice none 0 0, .string ⟨⟨[]⟩⟩, .string ⟨⟨[]⟩⟩, .string ⟨⟨[]⟩⟩, .string ⟨⟨[]⟩⟩, .int .i64 0, .int .i64 0, .slice none 0 0, .slice none 0 0, .string ⟨⟨[]⟩⟩, .string ⟨⟨[]⟩⟩, .int .i64 0, .slice none 0 0, .slice none 0 0, .slice none 0 0, .slice none 0 0, .slice none 0 0, .slice none 0 0, .bool false, .bool false, .bool false, .int .i64 0, .int .i64 0, .string ⟨⟨[]⟩⟩, .string ⟨⟨[]⟩⟩, .slice none 0 0, .slice none 0 0, .map none, .pointer none, .int .i64 0, .int .i64 0, .int .i64 0, .slice none 0 0, .slice none 0 0, .string ⟨⟨[]⟩⟩, .string ⟨⟨[]⟩⟩, .pointer none, .int .i64 0, .pointer none, .pointer none, .int .i64 0, .int .i64 0, .slice none 0 0, .slice none 0 0]⟩) Tryz.underlying63 Tryz.type63 (by kernel_rfl) Tryz.types_size (by kernel_rfl) (by kernel_rfl)
noncomputable def Tryz.ti64 : TI := TI.mk Tryz.t64.desc 1 8 [.nilFunc] false
theorem Tryz.tok64 : TIok Tryz.prog 64 Tryz.ti64 := TIok.of' (z := .nilFunc) Tryz.underlying64 Tryz.type64 (by kernel_rfl) Tryz.types_size (by kernel_rfl) (by kernel_rfl)
noncomputable def Tryz.ti65 : TI := TI.mk Tryz.t65.desc 1 8 [.nilFunc] false
theorem Tryz.tok65 : TIok Tryz.prog 65 Tryz.ti65 := TIok.of' (z := .nilFunc) Tryz.underlying65 Tryz.type65 (by kernel_rfl) Tryz.types_size (by kernel_rfl) (by kernel_rfl)
noncomputable def Tryz.ti66 : TI := TI.mk Tryz.t66.desc 1 24 [.slice none 0 0] false
theorem Tryz.tok66 : TIok Tryz.prog 66 Tryz.ti66 := TIok.of' (z := .slice none 0 0) Tryz.underlying66 Tryz.type66 (by kernel_rfl) Tryz.types_size (by kernel_rfl) (by kernel_rfl)
noncomputable def Tryz.ti67 : TI := TI.mk Tryz.t67.desc 1 8 [.nilFunc] false
theorem Tryz.tok67 : TIok Tryz.prog 67 Tryz.ti67 := TIok.of' (z := .nilFunc) Tryz.underlying67 Tryz.type67 (by kernel_rfl) Tryz.types_size (by kernel_rfl) (by kernel_rfl)
noncomputable def Tryz.ti68 : TI := TI.mk Tryz.t68.desc 1 8 [.nilFunc] false
theorem Tryz.tok68 : TIok Tryz.prog 68 Tryz.ti68 := TIok.of' (z := .nilFunc) Tryz.underlying68 Tryz.type68 (by kernel_rfl) Tryz.types_size (by kernel_rfl) (by kernel_rfl)
noncomputable def Tryz.ti69 : TI := TI.mk Tryz.t69.desc 1 8 [.nilFunc] false
theorem Tryz.tok69 : TIok Tryz.prog 69 Tryz.ti69 := TIok.of' (z := .nilFunc) Tryz.underlying69 Tryz.type69 (by kernel_rfl) Tryz.types_size (by kernel_rfl) (by kernel_rfl)
noncomputable def Tryz.ti70 : TI := TI.mk Tryz.t70.desc 1 8 [.nilFunc] false
theorem Tryz.tok70 : TIok Tryz.prog 70 Tryz.ti70 := TIok.of' (z := .nilFunc) Tryz.underlying70 Tryz.type70 (by kernel_rfl) Tryz.types_size (by kernel_rfl) (by kernel_rfl)
noncomputable def Tryz.ti71 : TI := TI.mk Tryz.t71.desc 1 8 [.nilFunc] false
theorem Tryz.tok71 : TIok Tryz.prog 71 Tryz.ti71 := TIok.of' (z := .nilFunc) Tryz.underlying71 Tryz.type71 (by kernel_rfl) Tryz.types_size (by kernel_rfl) (by kernel_rfl)
noncomputable def Tryz.ti72 : TI := TI.mk Tryz.t72.desc 1 8 [.nilFunc] false
theorem Tryz.tok72 : TIok Tryz.prog 72 Tryz.ti72 := TIok.of' (z := .nilFunc) Tryz.underlying72 Tryz.type72 (by kernel_rfl) Tryz.types_size (by kernel_rfl) (by kernel_rfl)
noncomputable def Tryz.ti73 : TI := TI.mk Tryz.t73.desc 1 8 [.nilFunc] false
theorem Tryz.tok73 : TIok Tryz.prog 73 Tryz.ti73 := TIok.of' (z := .nilFunc) Tryz.underlying73 Tryz.type73 (by kernel_rfl) Tryz.types_size (by kernel_rfl) (by kernel_rfl)
noncomputable def Tryz.ti74 : TI := TI.mk Tryz.t74.desc 1 8 [.nilFunc] false
theorem Tryz.tok74 : TIok Tryz.prog 74 Tryz.ti74 := TIok.of' (z := .nilFunc) Tryz.underlying74 Tryz.type74 (by kernel_rfl) Tryz.types_size (by kernel_rfl) (by kernel_rfl)
noncomputable def Tryz.ti75 : TI := TI.mk Tryz.t75.desc 4 40 [.int .i64 0, .int .i64 0, .int .i64 0, .string ⟨⟨[]⟩⟩] true
theorem Tryz.tok75 : TIok Tryz.prog 75 Tryz.ti75 := TIok.of' (z := .agg ⟨[.int .i64 0, .int .i64 0, .int .i64 0, .string ⟨⟨[]⟩⟩]⟩) Tryz.underlying75 Tryz.type75 (by kernel_rfl) Tryz.types_size (by kernel_rfl) (by kernel_rfl)
noncomputable def Tryz.ti76 : TI := TI.mk Tryz.t75.desc 4 40 [.int .i64 0, .int .i64 0, .int .i64 0, .string ⟨⟨[]⟩⟩] true
theorem Tryz.tok76 : TIok Tryz.prog 76 Tryz.ti76 := TIok.of' (z := .agg ⟨[.int .i64 0, .int .i64 0, .int .i64 0, .string ⟨⟨[]⟩⟩]⟩) Tryz.underlying76 Tryz.type76 (by kernel_rfl) Tryz.types_size (by kernel_rfl) (by kernel_rfl)
noncomputable def Tryz.ti77 : TI := TI.mk Tryz.t77.desc 1 8 [.nilFunc] false
theorem Tryz.tok77 : TIok Tryz.prog 77 Tryz.ti77 := TIok.of' (z := .nilFunc) Tryz.underlying77 Tryz.type77 (by kernel_rfl) Tryz.types_size (by kernel_rfl) (by kernel_rfl)
noncomputable def Tryz.ti78 : TI := TI.mk Tryz.t78.desc 1 8 [.pointer none] false
theorem Tryz.tok78 : TIok Tryz.prog 78 Tryz.ti78 := TIok.of' (z := .pointer none) Tryz.underlying78 Tryz.type78 (by kernel_rfl) Tryz.types_size (by kernel_rfl) (by kernel_rfl)
noncomputable def Tryz.ti79 : TI := TI.mk Tryz.t79.desc 1 8 [.nilFunc] false
theorem Tryz.tok79 : TIok Tryz.prog 79 Tryz.ti79 := TIok.of' (z := .nilFunc) Tryz.underlying79 Tryz.type79 (by kernel_rfl) Tryz.types_size (by kernel_rfl) (by kernel_rfl)
noncomputable def Tryz.ti81 : TI := TI.mk Tryz.t81.desc 1 8 [.nilFunc] false
theorem Tryz.tok81 : TIok Tryz.prog 81 Tryz.ti81 := TIok.of' (z := .nilFunc) Tryz.underlying81 Tryz.type81 (by kernel_rfl) Tryz.types_size (by kernel_rfl) (by kernel_rfl)
noncomputable def Tryz.ti83 : TI := TI.mk Tryz.t83.desc 1 8 [.nilFunc] false
theorem Tryz.tok83 : TIok Tryz.prog 83 Tryz.ti83 := TIok.of' (z := .nilFunc) Tryz.underlying83 Tryz.type83 (by kernel_rfl) Tryz.types_size (by kernel_rfl) (by kernel_rfl)
noncomputable def Tryz.ti84 : TI := TI.mk Tryz.t84.desc 1 8 [.nilFunc] false
theorem Tryz.tok84 : TIok Tryz.prog 84 Tryz.ti84 := TIok.of' (z := .nilFunc) Tryz.underlying84 Tryz.type84 (by kernel_rfl) Tryz.types_size (by kernel_rfl) (by kernel_rfl)
noncomputable def Tryz.ti86 : TI := TI.mk Tryz.t86.desc 1 8 [.nilFunc] false
theorem Tryz.tok86 : TIok Tryz.prog 86 Tryz.ti86 := TIok.of' (z := .nilFunc) Tryz.underlying86 Tryz.type86 (by kernel_rfl) Tryz.types_size (by kernel_rfl) (by kernel_rfl)
noncomputable def Tryz.ti87 : TI := TI.mk Tryz.t87.desc 1 8 [.nilFunc] false
theorem Tryz.tok87 : TIok Tryz.prog 87 Tryz.ti87 := TIok.of' (z := .nilFunc) Tryz.underlying87 Tryz.type87 (by kernel_rfl) Tryz.types_size (by kernel_rfl) (by kernel_rfl)
noncomputable def Tryz.ti88 : TI := TI.mk Tryz.t88.desc 1 8 [.nilFunc] false
theorem Tryz.tok88 : TIok Tryz.prog 88 Tryz.ti88 := TIok.of' (z := .nilFunc) Tryz.underlying88 Tryz.type88 (by kernel_rfl) Tryz.types_size (by kernel_rfl) (by kernel_rfl)
noncomputable def Tryz.ti89 : TI := TI.mk Tryz.t89.desc 1 8 [.map none] false
theorem Tryz.tok89 : TIok Tryz.prog 89 Tryz.ti89 := TIok.of' (z := .map none) Tryz.underlying89 Tryz.type89 (by kernel_rfl) Tryz.types_size (by kernel_rfl) (by kernel_rfl)
noncomputable def Tryz.ti90 : TI := TI.mk Tryz.t90.desc 4 40 [.string ⟨⟨[]⟩⟩, .int .i64 0, .int .i64 0, .pointer none] true
theorem Tryz.tok90 : TIok Tryz.prog 90 Tryz.ti90 := TIok.of' (z := .agg ⟨[.string ⟨⟨[]⟩⟩, .int .i64 0, .int .i64 0, .pointer none]⟩) Tryz.underlying90 Tryz.type90 (by kernel_rfl) Tryz.types_size (by kernel_rfl) (by kernel_rfl)
noncomputable def Tryz.ti91 : TI := TI.mk Tryz.t90.desc 4 40 [.string ⟨⟨[]⟩⟩, .int .i64 0, .int .i64 0, .pointer none] true
theorem Tryz.tok91 : TIok Tryz.prog 91 Tryz.ti91 := TIok.of' (z := .agg ⟨[.string ⟨⟨[]⟩⟩, .int .i64 0, .int .i64 0, .pointer none]⟩) Tryz.underlying91 Tryz.type91 (by kernel_rfl) Tryz.types_size (by kernel_rfl) (by kernel_rfl)
noncomputable def Tryz.ti92 : TI := TI.mk Tryz.t92.desc 1 8 [.nilFunc] false
theorem Tryz.tok92 : TIok Tryz.prog 92 Tryz.ti92 := TIok.of' (z := .nilFunc) Tryz.underlying92 Tryz.type92 (by kernel_rfl) Tryz.types_size (by kernel_rfl) (by kernel_rfl)
noncomputable def Tryz.ti93 : TI := TI.mk Tryz.t93.desc 5 56 [.pointer none, .pointer none, .pointer none, .slice none 0 0, .int .i64 0] true
theorem Tryz.tok93 : TIok Tryz.prog 93 Tryz.ti93 := TIok.of' (z := .agg ⟨[.pointer none, .pointer none, .pointer none, .slice none 0 0, .int .i64 0]⟩) Tryz.underlying93 Tryz.type93 (by kernel_rfl) Tryz.types_size (by kernel_rfl) (by kernel_rfl)
noncomputable def Tryz.ti94 : TI := TI.mk Tryz.t93.desc 5 56 [.pointer none, .pointer none, .pointer none, .slice none 0 0, .int .i64 0] true
theorem Tryz.tok94 : TIok Tryz.prog 94 Tryz.ti94 := TIok.of' (z := .agg ⟨[.pointer none, .pointer none, .pointer none, .slice none 0 0, .int .i64 0]⟩) Tryz.underlying94 Tryz.type94 (by kernel_rfl) Tryz.types_size (by kernel_rfl) (by kernel_rfl)
noncomputable def Tryz.ti95 : TI := TI.mk Tryz.t95.desc 1 8 [.nilFunc] false
theorem Tryz.tok95 : TIok Tryz.prog 95 Tryz.ti95 := TIok.of' (z := .nilFunc) Tryz.underlying95 Tryz.type95 (by kernel_rfl) Tryz.types_size (by kernel_rfl) (by kernel_rfl)
noncomputable def Tryz.ti96 : TI := TI.mk Tryz.t96.desc 1 8 [.nilFunc] false
theorem Tryz.tok96 : TIok Tryz.prog 96 Tryz.ti96 := TIok.of' (z := .nilFunc) Tryz.underlying96 Tryz.type96 (by kernel_rfl) Tryz.types_size (by kernel_rfl) (by kernel_rfl)
noncomputable def Tryz.ti97 : TI := TI.mk Tryz.t97.desc 1 8 [.nilFunc] false
theorem Tryz.tok97 : TIok Tryz.prog 97 Tryz.ti97 := TIok.of' (z := .nilFunc) Tryz.underlying97 Tryz.type97 (by kernel_rfl) Tryz.types_size (by kernel_rfl) (by kernel_rfl)
noncomputable def Tryz.ti98 : TI := TI.mk Tryz.t98.desc 1 8 [.pointer none] false
theorem Tryz.tok98 : TIok Tryz.prog 98 Tryz.ti98 := TIok.of' (z := .pointer none) Tryz.underlying98 Tryz.type98 (by kernel_rfl) Tryz.types_size (by kernel_rfl) (by kernel_rfl)
noncomputable def Tryz.ti100 : TI := TI.mk Tryz.t100.desc 1 8 [.nilFunc] false
theorem Tryz.tok100 : TIok Tryz.prog 100 Tryz.ti100 := TIok.of' (z := .nilFunc) Tryz.underlying100 Tryz.type100 (by kernel_rfl) Tryz.types_size (by kernel_rfl) (by kernel_rfl)
noncomputable def Tryz.ti101 : TI := TI.mk Tryz.t101.desc 1 8 [.nilFunc] false
theorem Tryz.tok101 : TIok Tryz.prog 101 Tryz.ti101 := TIok.of' (z := .nilFunc) Tryz.underlying101 Tryz.type101 (by kernel_rfl) Tryz.types_size (by kernel_rfl) (by kernel_rfl)
noncomputable def Tryz.ti103 : TI := TI.mk Tryz.t103.desc 1 8 [.nilFunc] false
theorem Tryz.tok103 : TIok Tryz.prog 103 Tryz.ti103 := TIok.of' (z := .nilFunc) Tryz.underlying103 Tryz.type103 (by kernel_rfl) Tryz.types_size (by kernel_rfl) (by kernel_rfl)
noncomputable def Tryz.ti104 : TI := TI.mk Tryz.t104.desc 1 8 [.nilFunc] false
theorem Tryz.tok104 : TIok Tryz.prog 104 Tryz.ti104 := TIok.of' (z := .nilFunc) Tryz.underlying104 Tryz.type104 (by kernel_rfl) Tryz.types_size (by kernel_rfl) (by kernel_rfl)
noncomputable def Tryz.ti105 : TI := TI.mk Tryz.t105.desc 1 24 [.slice none 0 0] false
theorem Tryz.tok105 : TIok Tryz.prog 105 Tryz.ti105 := TIok.of' (z := .slice none 0 0) Tryz.underlying105 Tryz.type105 (by kernel_rfl) Tryz.types_size (by kernel_rfl) (by kernel_rfl)
noncomputable def Tryz.ti106 : TI := TI.mk Tryz.t106.desc 23 440 [.string ⟨⟨[]⟩⟩, .string ⟨⟨[]⟩⟩, .string ⟨⟨[]⟩⟩, .string ⟨⟨[]⟩⟩, .int .i64 0, .int .i64 0, .slice none 0 0, .slice none 0 0, .string ⟨⟨[]⟩⟩, .string ⟨⟨[]⟩⟩, .int .i64 0, .slice none 0 0, .slice none 0 0, .slice none 0 0, .slice none 0 0, .slice none 0 0, .slice none 0 0, .slice none 0 0, .slice none 0 0, .slice none 0 0, .slice none 0 0, .int .i64 0, .slice none 0 0] true
theorem Tryz.tok106 : TIok Tryz.prog 106 Tryz.ti106 := TIok.of' (z := .agg ⟨[.string ⟨⟨[]⟩⟩, .string ⟨⟨[]⟩⟩, .string ⟨⟨[]⟩⟩, .string ⟨⟨[]⟩⟩, .int .i64 0, .int .i64 0, .slice none 0 0, .slice none 0 0, .string ⟨⟨[]⟩⟩, .string ⟨⟨[]⟩⟩, .int .i64 0, .slice none 0 0, .slice none 0 0, .slice none 0 0, .slice none 0 0, .slice none 0 0, .slice none 0 0, .slice none 0 0, .slice none 0 0, .slice none 0 0, .slice none 0 0, .int .i64 0, .slice none 0 0]⟩) Tryz.underlying106 Tryz.type106 (by kernel_rfl) Tryz.types_size (by kernel_rfl) (by kernel_rfl)
noncomputable def Tryz.ti107 : TI := TI.mk Tryz.t106.desc 23 440 [.string ⟨⟨[]⟩⟩, .string ⟨⟨[]⟩⟩, .string ⟨⟨[]⟩⟩, .string ⟨⟨[]⟩⟩, .int .i64 0, .int .i64 0, .slice none 0 0, .slice none 0 0, .string ⟨⟨[]⟩⟩, .string ⟨⟨[]⟩⟩, .int .i64 0, .slice none 0 0, .slice none 0 0, .slice none 0 0, .slice none 0 0, .slice none 0 0, .slice none 0 0, .slice none 0 0, .slice none 0 0, .slice none 0 0, .slice none 0 0, .int .i64 0, .slice none 0 0] true
theorem Tryz.tok107 : TIok Tryz.prog 107 Tryz.ti107 := TIok.of' (z := .agg ⟨[.string ⟨⟨[]⟩⟩, .string ⟨⟨[]⟩⟩, .string ⟨⟨[]⟩⟩, .string ⟨⟨[]⟩⟩, .int .i64 0, .int .i64 0, .slice none 0 0, .slice none 0 0, .string ⟨⟨[]⟩⟩, .string ⟨⟨[]⟩⟩, .int .i64 0, .slice none 0 0, .slice none 0 0, .slice none 0 0, .slice none 0 0, .slice none 0 0, .slice none 0 0, .slice none 0 0, .slice none 0 0, .slice none 0 0, .slice none 0 0, .int .i64 0, .slice none 0 0]⟩) Tryz.underlying107 Tryz.type107 (by kernel_rfl) Tryz.types_size (by kernel_rfl) (by kernel_rfl)
noncomputable def Tryz.ti108 : TI := TI.mk Tryz.t108.desc 1 8 [.nilFunc] false
theorem Tryz.tok108 : TIok Tryz.prog 108 Tryz.ti108 := TIok.of' (z := .nilFunc) Tryz.underlying108 Tryz.type108 (by kernel_rfl) Tryz.types_size (by kernel_rfl) (by kernel_rfl)
noncomputable def Tryz.ti109 : TI := TI.mk Tryz.t109.desc 1 8 [.nilFunc] false
theorem Tryz.tok109 : TIok Tryz.prog 109 Tryz.ti109 := TIok.of' (z := .nilFunc) Tryz.underlying109 Tryz.type109 (by kernel_rfl) Tryz.types_size (by kernel_rfl) (by kernel_rfl)
noncomputable def Tryz.ti110 : TI := TI.mk Tryz.t110.desc 1 8 [.nilFunc] false
theorem Tryz.tok110 : TIok Tryz.prog 110 Tryz.ti110 := TIok.of' (z := .nilFunc) Tryz.underlying110 Tryz.type110 (by kernel_rfl) Tryz.types_size (by kernel_rfl) (by kernel_rfl)
noncomputable def Tryz.ti111 : TI := TI.mk Tryz.t111.desc 1 8 [.nilFunc] false
theorem Tryz.tok111 : TIok Tryz.prog 111 Tryz.ti111 := TIok.of' (z := .nilFunc) Tryz.underlying111 Tryz.type111 (by kernel_rfl) Tryz.types_size (by kernel_rfl) (by kernel_rfl)
noncomputable def Tryz.ti112 : TI := TI.mk Tryz.t112.desc 1 8 [.nilFunc] false
theorem Tryz.tok112 : TIok Tryz.prog 112 Tryz.ti112 := TIok.of' (z := .nilFunc) Tryz.underlying112 Tryz.type112 (by kernel_rfl) Tryz.types_size (by kernel_rfl) (by kernel_rfl)
noncomputable def Tryz.ti113 : TI := TI.mk Tryz.t113.desc 1 8 [.nilFunc] false
theorem Tryz.tok113 : TIok Tryz.prog 113 Tryz.ti113 := TIok.of' (z := .nilFunc) Tryz.underlying113 Tryz.type113 (by kernel_rfl) Tryz.types_size (by kernel_rfl) (by kernel_rfl)
noncomputable def Tryz.ti114 : TI := TI.mk Tryz.t114.desc 1 8 [.nilFunc] false
theorem Tryz.tok114 : TIok Tryz.prog 114 Tryz.ti114 := TIok.of' (z := .nilFunc) Tryz.underlying114 Tryz.type114 (by kernel_rfl) Tryz.types_size (by kernel_rfl) (by kernel_rfl)
noncomputable def Tryz.ti115 : TI := TI.mk Tryz.t115.desc 1 8 [.nilFunc] false
theorem Tryz.tok115 : TIok Tryz.prog 115 Tryz.ti115 := TIok.of' (z := .nilFunc) Tryz.underlying115 Tryz.type115 (by kernel_rfl) Tryz.types_size (by kernel_rfl) (by kernel_rfl)
noncomputable def Tryz.ti117 : TI := TI.mk Tryz.t117.desc 1 8 [.nilFunc] false
theorem Tryz.tok117 : TIok Tryz.prog 117 Tryz.ti117 := TIok.of' (z := .nilFunc) Tryz.underlying117 Tryz.type117 (by kernel_rfl) Tryz.types_size (by kernel_rfl) (by kernel_rfl)
noncomputable def Tryz.ti118 : TI := TI.mk Tryz.t118.desc 2 16 [.int .i64 0, .bool false] true
theorem Tryz.tok118 : TIok Tryz.prog 118 Tryz.ti118 := TIok.of' (z := .agg ⟨[.int .i64 0, .bool false]⟩) Tryz.underlying118 Tryz.type118 (by kernel_rfl) Tryz.types_size (by kernel_rfl) (by kernel_rfl)
noncomputable def Tryz.ti119 : TI := TI.mk Tryz.t118.desc 2 16 [.int .i64 0, .bool false] true
theorem Tryz.tok119 : TIok Tryz.prog 119 Tryz.ti119 := TIok.of' (z := .agg ⟨[.int .i64 0, .bool false]⟩) Tryz.underlying119 Tryz.type119 (by kernel_rfl) Tryz.types_size (by kernel_rfl) (by kernel_rfl)
noncomputable def Tryz.ti120 : TI := TI.mk Tryz.t120.desc 1 8 [.nilFunc] false
theorem Tryz.tok120 : TIok Tryz.prog 120 Tryz.ti120 := TIok.of' (z := .nilFunc) Tryz.underlying120 Tryz.type120 (by kernel_rfl) Tryz.types_size (by kernel_rfl) (by kernel_rfl)
noncomputable def Tryz.ti121 : TI := TI.mk Tryz.t121.desc 1 8 [.nilFunc] false
theorem Tryz.tok121 : TIok Tryz.prog 121 Tryz.ti121 := TIok.of' (z := .nilFunc) Tryz.underlying121 Tryz.type121 (by kernel_rfl) Tryz.types_size (by kernel_rfl) (by kernel_rfl)
noncomputable def Tryz.ti122 : TI := TI.mk Tryz.t122.desc 1 8 [.nilFunc] false
theorem Tryz.tok122 : TIok Tryz.prog 122 Tryz.ti122 := TIok.of' (z := .nilFunc) Tryz.underlying122 Tryz.type122 (by kernel_rfl) Tryz.types_size (by kernel_rfl) (by kernel_rfl)
noncomputable def Tryz.ti123 : TI := TI.mk Tryz.t123.desc 1 8 [.nilFunc] false
theorem Tryz.tok123 : TIok Tryz.prog 123 Tryz.ti123 := TIok.of' (z := .nilFunc) Tryz.underlying123 Tryz.type123 (by kernel_rfl) Tryz.types_size (by kernel_rfl) (by kernel_rfl)
noncomputable def Tryz.ti124 : TI := TI.mk Tryz.t124.desc 1 8 [.nilFunc] false
theorem Tryz.tok124 : TIok Tryz.prog 124 Tryz.ti124 := TIok.of' (z := .nilFunc) Tryz.underlying124 Tryz.type124 (by kernel_rfl) Tryz.types_size (by kernel_rfl) (by kernel_rfl)
noncomputable def Tryz.ti125 : TI := TI.mk Tryz.t125.desc 1 8 [.nilFunc] false
theorem Tryz.tok125 : TIok Tryz.prog 125 Tryz.ti125 := TIok.of' (z := .nilFunc) Tryz.underlying125 Tryz.type125 (by kernel_rfl) Tryz.types_size (by kernel_rfl) (by kernel_rfl)
noncomputable def Tryz.ti126 : TI := TI.mk Tryz.t126.desc 1 8 [.pointer none] false
theorem Tryz.tok126 : TIok Tryz.prog 126 Tryz.ti126 := TIok.of' (z := .pointer none) Tryz.underlying126 Tryz.type126 (by kernel_rfl) Tryz.types_size (by kernel_rfl) (by kernel_rfl)
noncomputable def Tryz.ti127 : TI := TI.mk Tryz.t127.desc 1 8 [.pointer none] false
theorem Tryz.tok127 : TIok Tryz.prog 127 Tryz.ti127 := TIok.of' (z := .pointer none) Tryz.underlying127 Tryz.type127 (by kernel_rfl) Tryz.types_size (by kernel_rfl) (by kernel_rfl)
noncomputable def Tryz.ti128 : TI := TI.mk Tryz.t128.desc 1 8 [.nilFunc] false
theorem Tryz.tok128 : TIok Tryz.prog 128 Tryz.ti128 := TIok.of' (z := .nilFunc) Tryz.underlying128 Tryz.type128 (by kernel_rfl) Tryz.types_size (by kernel_rfl) (by kernel_rfl)
noncomputable def Tryz.ti129 : TI := TI.mk Tryz.t129.desc 1 8 [.map none] false
theorem Tryz.tok129 : TIok Tryz.prog 129 Tryz.ti129 := TIok.of' (z := .map none) Tryz.underlying129 Tryz.type129 (by kernel_rfl) Tryz.types_size (by kernel_rfl) (by kernel_rfl)
noncomputable def Tryz.ti130 : TI := TI.mk Tryz.t130.desc 1 8 [.map none] false
theorem Tryz.tok130 : TIok Tryz.prog 130 Tryz.ti130 := TIok.of' (z := .map none) Tryz.underlying130 Tryz.type130 (by kernel_rfl) Tryz.types_size (by kernel_rfl) (by kernel_rfl)
noncomputable def Tryz.ti131 : TI := TI.mk Tryz.t131.desc 3 24 [.pointer none, .map none, .map none] true
theorem Tryz.tok131 : TIok Tryz.prog 131 Tryz.ti131 := TIok.of' (z := .agg ⟨[.pointer none, .map none, .map none]⟩) Tryz.underlying131 Tryz.type131 (by kernel_rfl) Tryz.types_size (by kernel_rfl) (by kernel_rfl)
noncomputable def Tryz.ti132 : TI := TI.mk Tryz.t131.desc 3 24 [.pointer none, .map none, .map none] true
theorem Tryz.tok132 : TIok Tryz.prog 132 Tryz.ti132 := TIok.of' (z := .agg ⟨[.pointer none, .map none, .map none]⟩) Tryz.underlying132 Tryz.type132 (by kernel_rfl) Tryz.types_size (by kernel_rfl) (by kernel_rfl)
noncomputable def Tryz.ti133 : TI := TI.mk Tryz.t133.desc 1 8 [.nilFunc] false
theorem Tryz.tok133 : TIok Tryz.prog 133 Tryz.ti133 := TIok.of' (z := .nilFunc) Tryz.underlying133 Tryz.type133 (by kernel_rfl) Tryz.types_size (by kernel_rfl) (by kernel_rfl)
noncomputable def Tryz.ti134 : TI := TI.mk Tryz.t134.desc 1 8 [.nilFunc] false
theorem Tryz.tok134 : TIok Tryz.prog 134 Tryz.ti134 := TIok.of' (z := .nilFunc) Tryz.underlying134 Tryz.type134 (by kernel_rfl) Tryz.types_size (by kernel_rfl) (by kernel_rfl)
noncomputable def Tryz.ti135 : TI := TI.mk Tryz.t135.desc 3 40 [.pointer none, .slice none 0 0, .map none] true
theorem Tryz.tok135 : TIok Tryz.prog 135 Tryz.ti135 := TIok.of' (z := .agg ⟨[.pointer none, .slice none 0 0, .map none]⟩) Tryz.underlying135 Tryz.type135 (by kernel_rfl) Tryz.types_size (by kernel_rfl) (by kernel_rfl)
noncomputable def Tryz.ti136 : TI := TI.mk Tryz.t135.desc 3 40 [.pointer none, .slice none 0 0, .map none] true
theorem Tryz.tok136 : TIok Tryz.prog 136 Tryz.ti136 := TIok.of' (z := .agg ⟨[.pointer none, .slice none 0 0, .map none]⟩) Tryz.underlying136 Tryz.type136 (by kernel_rfl) Tryz.types_size (by kernel_rfl) (by kernel_rfl)
noncomputable def Tryz.ti137 : TI := TI.mk Tryz.t137.desc 1 8 [.nilFunc] false
theorem Tryz.tok137 : TIok Tryz.prog 137 Tryz.ti137 := TIok.of' (z := .nilFunc) Tryz.underlying137 Tryz.type137 (by kernel_rfl) Tryz.types_size (by kernel_rfl) (by kernel_rfl)
noncomputable def Tryz.ti138 : TI := TI.mk Tryz.t138.desc 1 8 [.nilFunc] false
theorem Tryz.tok138 : TIok Tryz.prog 138 Tryz.ti138 := TIok.of' (z := .nilFunc) Tryz.underlying138 Tryz.type138 (by kernel_rfl) Tryz.types_size (by kernel_rfl) (by kernel_rfl)
noncomputable def Tryz.ti139 : TI := TI.mk Tryz.t139.desc 1 8 [.nilFunc] false
theorem Tryz.tok139 : TIok Tryz.prog 139 Tryz.ti139 := TIok.of' (z := .nilFunc) Tryz.underlying139 Tryz.type139 (by kernel_rfl) Tryz.types_size (by kernel_rfl) (by kernel_rfl)
noncomputable def Tryz.ti140 : TI := TI.mk Tryz.t140.desc 1 8 [.nilFunc] false
theorem Tryz.tok140 : TIok Tryz.prog 140 Tryz.ti140 := TIok.of' (z := .nilFunc) Tryz.underlying140 Tryz.type140 (by kernel_rfl) Tryz.types_size (by kernel_rfl) (by kernel_rfl)
noncomputable def Tryz.ti141 : TI := TI.mk Tryz.t141.desc 1 24 [.slice none 0 0] false
theorem Tryz.tok141 : TIok Tryz.prog 141 Tryz.ti141 := TIok.of' (z := .slice none 0 0) Tryz.underlying141 Tryz.type141 (by kernel_rfl) Tryz.types_size (by kernel_rfl) (by kernel_rfl)
noncomputable def Tryz.ti142 : TI := TI.mk Tryz.t142.desc 3 40 [.pointer none, .slice none 0 0, .int .i64 0] true
theorem Tryz.tok142 : TIok Tryz.prog 142 Tryz.ti142 := TIok.of' (z := .agg ⟨[.pointer none, .slice none 0 0, .int .i64 0]⟩) Tryz.underlying142 Tryz.type142 (by kernel_rfl) Tryz.types_size (by kernel_rfl) (by kernel_rfl)
noncomputable def Tryz.ti143 : TI := TI.mk Tryz.t142.desc 3 40 [.pointer none, .slice none 0 0, .int .i64 0] true
theorem Tryz.tok143 : TIok Tryz.prog 143 Tryz.ti143 := TIok.of' (z := .agg ⟨[.pointer none, .slice none 0 0, .int .i64 0]⟩) Tryz.underlying143 Tryz.type143 (by kernel_rfl) Tryz.types_size (by kernel_rfl) (by kernel_rfl)
noncomputable def Tryz.ti144 : TI := TI.mk Tryz.t144.desc 1 8 [.pointer none] false
theorem Tryz.tok144 : TIok Tryz.prog 144 Tryz.ti144 := TIok.of' (z := .pointer none) Tryz.underlying144 Tryz.type144 (by kernel_rfl) Tryz.types_size (by kernel_rfl) (by kernel_rfl)
noncomputable def Tryz.ti146 : TI := TI.mk Tryz.t146.desc 1 8 [.nilFunc] false
theorem Tryz.tok146 : TIok Tryz.prog 146 Tryz.ti146 := TIok.of' (z := .nilFunc) Tryz.underlying146 Tryz.type146 (by kernel_rfl) Tryz.types_size (by kernel_rfl) (by kernel_rfl)
noncomputable def Tryz.ti147 : TI := TI.mk Tryz.t147.desc 1 24 [.slice none 0 0] false
theorem Tryz.tok147 : TIok Tryz.prog 147 Tryz.ti147 := TIok.of' (z := .slice none 0 0) Tryz.underlying147 Tryz.type147 (by kernel_rfl) Tryz.types_size (by kernel_rfl) (by kernel_rfl)
noncomputable def Tryz.ti148 : TI := TI.mk Tryz.t148.desc 1 8 [.map none] false
theorem Tryz.tok148 : TIok Tryz.prog 148 Tryz.ti148 := TIok.of' (z := .map none) Tryz.underlying148 Tryz.type148 (by kernel_rfl) Tryz.types_size (by kernel_rfl) (by kernel_rfl)
noncomputable def Tryz.ti149 : TI := TI.mk Tryz.t149.desc 6 80 [.int .i64 0, .int .i64 0, .slice none 0 0, .int .i64 0, .slice none 0 0, .map none] true
theorem Tryz.tok149 : TIok Tryz.prog 149 Tryz.ti149 := TIok.of' (z := .agg ⟨[.int .i64 0, .int .i64 0, .slice none 0 0, .int .i64 0, .slice none 0 0, .map none]⟩) Tryz.underlying149 Tryz.type149 (by kernel_rfl) Tryz.types_size (by kernel_rfl) (by kernel_rfl)
noncomputable def Tryz.ti150 : TI := TI.mk Tryz.t149.desc 6 80 [.int .i64 0, .int .i64 0, .slice none 0 0, .int .i64 0, .slice none 0 0, .map none] true
theorem Tryz.tok150 : TIok Tryz.prog 150 Tryz.ti150 := TIok.of' (z := .agg ⟨[.int .i64 0, .int .i64 0, .slice none 0 0, .int .i64 0, .slice none 0 0, .map none]⟩) Tryz.underlying150 Tryz.type150 (by kernel_rfl) Tryz.types_size (by kernel_rfl) (by kernel_rfl)
noncomputable def Tryz.ti152 : TI := TI.mk Tryz.t152.desc 1 8 [.nilFunc] false
theorem Tryz.tok152 : TIok Tryz.prog 152 Tryz.ti152 := TIok.of' (z := .nilFunc) Tryz.underlying152 Tryz.type152 (by kernel_rfl) Tryz.types_size (by kernel_rfl) (by kernel_rfl)
noncomputable def Tryz.ti154 : TI := TI.mk Tryz.t154.desc 1 8 [.nilFunc] false
theorem Tryz.tok154 : TIok Tryz.prog 154 Tryz.ti154 := TIok.of' (z := .nilFunc) Tryz.underlying154 Tryz.type154 (by kernel_rfl) Tryz.types_size (by kernel_rfl) (by kernel_rfl)
noncomputable def Tryz.ti155 : TI := TI.mk Tryz.t155.desc 1 8 [.nilFunc] false
theorem Tryz.tok155 : TIok Tryz.prog 155 Tryz.ti155 := TIok.of' (z := .nilFunc) Tryz.underlying155 Tryz.type155 (by kernel_rfl) Tryz.types_size (by kernel_rfl) (by kernel_rfl)
noncomputable def Tryz.ti156 : TI := TI.mk Tryz.t156.desc 1 8 [.nilFunc] false
theorem Tryz.tok156 : TIok Tryz.prog 156 Tryz.ti156 := TIok.of' (z := .nilFunc) Tryz.underlying156 Tryz.type156 (by kernel_rfl) Tryz.types_size (by kernel_rfl) (by kernel_rfl)
noncomputable def Tryz.ti157 : TI := TI.mk Tryz.t157.desc 1 8 [.nilFunc] false
theorem Tryz.tok157 : TIok Tryz.prog 157 Tryz.ti157 := TIok.of' (z := .nilFunc) Tryz.underlying157 Tryz.type157 (by kernel_rfl) Tryz.types_size (by kernel_rfl) (by kernel_rfl)
noncomputable def Tryz.ti158 : TI := TI.mk Tryz.t158.desc 1 8 [.nilFunc] false
theorem Tryz.tok158 : TIok Tryz.prog 158 Tryz.ti158 := TIok.of' (z := .nilFunc) Tryz.underlying158 Tryz.type158 (by kernel_rfl) Tryz.types_size (by kernel_rfl) (by kernel_rfl)
noncomputable def Tryz.ti159 : TI := TI.mk Tryz.t159.desc 1 24 [.slice none 0 0] false
theorem Tryz.tok159 : TIok Tryz.prog 159 Tryz.ti159 := TIok.of' (z := .slice none 0 0) Tryz.underlying159 Tryz.type159 (by kernel_rfl) Tryz.types_size (by kernel_rfl) (by kernel_rfl)
noncomputable def Tryz.ti160 : TI := TI.mk Tryz.t160.desc 1 24 [.slice none 0 0] true
theorem Tryz.tok160 : TIok Tryz.prog 160 Tryz.ti160 := TIok.of' (z := .agg ⟨[.slice none 0 0]⟩) Tryz.underlying160 Tryz.type160 (by kernel_rfl) Tryz.types_size (by kernel_rfl) (by kernel_rfl)
noncomputable def Tryz.ti161 : TI := TI.mk Tryz.t160.desc 1 24 [.slice none 0 0] true
theorem Tryz.tok161 : TIok Tryz.prog 161 Tryz.ti161 := TIok.of' (z := .agg ⟨[.slice none 0 0]⟩) Tryz.underlying161 Tryz.type161 (by kernel_rfl) Tryz.types_size (by kernel_rfl) (by kernel_rfl)
noncomputable def Tryz.ti163 : TI := TI.mk Tryz.t163.desc 1 8 [.nilFunc] false
theorem Tryz.tok163 : TIok Tryz.prog 163 Tryz.ti163 := TIok.of' (z := .nilFunc) Tryz.underlying163 Tryz.type163 (by kernel_rfl) Tryz.types_size (by kernel_rfl) (by kernel_rfl)
noncomputable def Tryz.ti165 : TI := TI.mk Tryz.t165.desc 1 8 [.nilFunc] false
theorem Tryz.tok165 : TIok Tryz.prog 165 Tryz.ti165 := TIok.of' (z := .nilFunc) Tryz.underlying165 Tryz.type165 (by kernel_rfl) Tryz.types_size (by kernel_rfl) (by kernel_rfl)
noncomputable def Tryz.ti167 : TI := TI.mk Tryz.t167.desc 1 8 [.nilFunc] false
theorem Tryz.tok167 : TIok Tryz.prog 167 Tryz.ti167 := TIok.of' (z := .nilFunc) Tryz.underlying167 Tryz.type167 (by kernel_rfl) Tryz.types_size (by kernel_rfl) (by kernel_rfl)
noncomputable def Tryz.ti168 : TI := TI.mk Tryz.t168.desc 1 24 [.slice none 0 0] false
theorem Tryz.tok168 : TIok Tryz.prog 168 Tryz.ti168 := TIok.of' (z := .slice none 0 0) Tryz.underlying168 Tryz.type168 (by kernel_rfl) Tryz.types_size (by kernel_rfl) (by kernel_rfl)
noncomputable def Tryz.ti170 : TI := TI.mk Tryz.t170.desc 1 8 [.nilFunc] false
theorem Tryz.tok170 : TIok Tryz.prog 170 Tryz.ti170 := TIok.of' (z := .nilFunc) Tryz.underlying170 Tryz.type170 (by kernel_rfl) Tryz.types_size (by kernel_rfl) (by kernel_rfl)
noncomputable def Tryz.ti171 : TI := TI.mk Tryz.t171.desc 2 16 [.int .i64 0, .int .i64 0] true
theorem Tryz.tok171 : TIok Tryz.prog 171 Tryz.ti171 := TIok.of' (z := .agg ⟨[.int .i64 0, .int .i64 0]⟩) Tryz.underlying171 Tryz.type171 (by kernel_rfl) Tryz.types_size (by kernel_rfl) (by kernel_rfl)
noncomputable def Tryz.ti172 : TI := TI.mk Tryz.t171.desc 2 16 [.int .i64 0, .int .i64 0] true
theorem Tryz.tok172 : TIok Tryz.prog 172 Tryz.ti172 := TIok.of' (z := .agg ⟨[.int .i64 0, .int .i64 0]⟩) Tryz.underlying172 Tryz.type172 (by kernel_rfl) Tryz.types_size (by kernel_rfl) (by kernel_rfl)
noncomputable def Tryz.ti174 : TI := TI.mk Tryz.t174.desc 1 8 [.nilFunc] false
theorem Tryz.tok174 : TIok Tryz.prog 174 Tryz.ti174 := TIok.of' (z := .nilFunc) Tryz.underlying174 Tryz.type174 (by kernel_rfl) Tryz.types_size (by kernel_rfl) (by kernel_rfl)
noncomputable def Tryz.ti175 : TI := TI.mk Tryz.t175.desc 1 8 [.pointer none] false
theorem Tryz.tok175 : TIok Tryz.prog 175 Tryz.ti175 := TIok.of' (z := .pointer none) Tryz.underlying175 Tryz.type175 (by kernel_rfl) Tryz.types_size (by kernel_rfl) (by kernel_rfl)
noncomputable def Tryz.ti176 : TI := TI.mk Tryz.t176.desc 1 8 [.pointer none] false
theorem Tryz.tok176 : TIok Tryz.prog 176 Tryz.ti176 := TIok.of' (z := .pointer none) Tryz.underlying176 Tryz.type176 (by kernel_rfl) Tryz.types_size (by kernel_rfl) (by kernel_rfl)
noncomputable def Tryz.ti177 : TI := TI.mk Tryz.t177.desc 1 24 [.slice none 0 0] false
theorem Tryz.tok177 : TIok Tryz.prog 177 Tryz.ti177 := TIok.of' (z := .slice none 0 0) Tryz.underlying177 Tryz.type177 (by kernel_rfl) Tryz.types_size (by kernel_rfl) (by kernel_rfl)
noncomputable def Tryz.ti178 : TI := TI.mk Tryz.t178.desc 2 32 [.pointer none, .slice none 0 0] true
theorem Tryz.tok178 : TIok Tryz.prog 178 Tryz.ti178 := TIok.of' (z := .agg ⟨[.pointer none, .slice none 0 0]⟩) Tryz.underlying178 Tryz.type178 (by kernel_rfl) Tryz.types_size (by kernel_rfl) (by kernel_rfl)
noncomputable def Tryz.ti179 : TI := TI.mk Tryz.t178.desc 2 32 [.pointer none, .slice none 0 0] true
theorem Tryz.tok179 : TIok Tryz.prog 179 Tryz.ti179 := TIok.of' (z := .agg ⟨[.pointer none, .slice none 0 0]⟩) Tryz.underlying179 Tryz.type179 (by kernel_rfl) Tryz.types_size (by kernel_rfl) (by kernel_rfl)
noncomputable def Tryz.ti180 : TI := TI.mk Tryz.t180.desc 4 48 [.pointer none, .pointer none, .slice none 0 0, .bool false] true
theorem Tryz.tok180 : TIok Tryz.prog 180 Tryz.ti180 := TIok.of' (z := .agg ⟨[.pointer none, .pointer none, .slice none 0 0, .bool false]⟩) Tryz.underlying180 Tryz.type180 (by kernel_rfl) Tryz.types_size (by kernel_rfl) (by kernel_rfl)
noncomputable def Tryz.ti181 : TI := TI.mk Tryz.t180.desc 4 48 [.pointer none, .pointer none, .slice none 0 0, .bool false] true
theorem Tryz.tok181 : TIok Tryz.prog 181 Tryz.ti181 := TIok.of' (z := .agg ⟨[.pointer none, .pointer none, .slice none 0 0, .bool false]⟩) Tryz.underlying181 Tryz.type181 (by kernel_rfl) Tryz.types_size (by kernel_rfl) (by kernel_rfl)
noncomputable def Tryz.ti182 : TI := TI.mk Tryz.t182.desc 1 8 [.nilFunc] false
theorem Tryz.tok182 : TIok Tryz.prog 182 Tryz.ti182 := TIok.of' (z := .nilFunc) Tryz.underlying182 Tryz.type182 (by kernel_rfl) Tryz.types_size (by kernel_rfl) (by kernel_rfl)
noncomputable def Tryz.ti183 : TI := TI.mk Tryz.t183.desc 1 8 [.nilFunc] false
theorem Tryz.tok183 : TIok Tryz.prog 183 Tryz.ti183 := TIok.of' (z := .nilFunc) Tryz.underlying183 Tryz.type183 (by kernel_rfl) Tryz.types_size (by kernel_rfl) (by kernel_rfl)
noncomputable def Tryz.ti185 : TI := TI.mk Tryz.t185.desc 1 8 [.nilFunc] false
theorem Tryz.tok185 : TIok Tryz.prog 185 Tryz.ti185 := TIok.of' (z := .nilFunc) Tryz.underlying185 Tryz.type185 (by kernel_rfl) Tryz.types_size (by kernel_rfl) (by kernel_rfl)
noncomputable def Tryz.ti186 : TI := TI.mk Tryz.t23.desc 1 24 [.slice none 0 0] false
theorem Tryz.tok186 : TIok Tryz.prog 186 Tryz.ti186 := TIok.of' (z := .slice none 0 0) Tryz.underlying186 Tryz.type186 (by kernel_rfl) Tryz.types_size (by kernel_rfl) (by kernel_rfl)
noncomputable def Tryz.ti187 : TI := TI.mk Tryz.t187.desc 1 8 [.nilFunc] false
theorem Tryz.tok187 : TIok Tryz.prog 187 Tryz.ti187 := TIok.of' (z := .nilFunc) Tryz.underlying187 Tryz.type187 (by kernel_rfl) Tryz.types_size (by kernel_rfl) (by kernel_rfl)
noncomputable def Tryz.ti188 : TI := TI.mk Tryz.t188.desc 1 8 [.nilFunc] false
theorem Tryz.tok188 : TIok Tryz.prog 188 Tryz.ti188 := TIok.of' (z := .nilFunc) Tryz.underlying188 Tryz.type188 (by kernel_rfl) Tryz.types_size (by kernel_rfl) (by kernel_rfl)
noncomputable def Tryz.ti189 : TI := TI.mk Tryz.t189.desc 1 24 [.slice none 0 0] false
theorem Tryz.tok189 : TIok Tryz.prog 189 Tryz.ti189 := TIok.of' (z := .slice none 0 0) Tryz.underlying189 Tryz.type189 (by kernel_rfl) Tryz.types_size (by kernel_rfl) (by kernel_rfl)
noncomputable def Tryz.ti190 : TI := TI.mk Tryz.t190.desc 1 8 [.nilFunc] false
theorem Tryz.tok190 : TIok Tryz.prog 190 Tryz.ti190 := TIok.of' (z := .nilFunc) Tryz.underlying190 Tryz.type190 (by kernel_rfl) Tryz.types_size (by kernel_rfl) (by kernel_rfl)
noncomputable def Tryz.ti191 : TI := TI.mk Tryz.t191.desc 1 8 [.nilFunc] false
theorem Tryz.tok191 : TIok Tryz.prog 191 Tryz.ti191 := TIok.of' (z := .nilFunc) Tryz.underlying191 Tryz.type191 (by kernel_rfl) Tryz.types_size (by kernel_rfl) (by kernel_rfl)
noncomputable def Tryz.ti192 : TI := TI.mk Tryz.t192.desc 1 8 [.nilFunc] false
theorem Tryz.tok192 : TIok Tryz.prog 192 Tryz.ti192 := TIok.of' (z := .nilFunc) Tryz.underlying192 Tryz.type192 (by kernel_rfl) Tryz.types_size (by kernel_rfl) (by kernel_rfl)
noncomputable def Tryz.ti193 : TI := TI.mk Tryz.t193.desc 1 8 [.nilFunc] false
theorem Tryz.tok193 : TIok Tryz.prog 193 Tryz.ti193 := TIok.of' (z := .nilFunc) Tryz.underlying193 Tryz.type193 (by kernel_rfl) Tryz.types_size (by kernel_rfl) (by kernel_rfl)
noncomputable def Tryz.ti194 : TI := TI.mk Tryz.t194.desc 4 32 [.int .i64 0, .int .i64 0, .bool false, .pointer none] true
theorem Tryz.tok194 : TIok Tryz.prog 194 Tryz.ti194 := TIok.of' (z := .agg ⟨[.int .i64 0, .int .i64 0, .bool false, .pointer none]⟩) Tryz.underlying194 Tryz.type194 (by kernel_rfl) Tryz.types_size (by kernel_rfl) (by kernel_rfl)
noncomputable def Tryz.ti195 : TI := TI.mk Tryz.t194.desc 4 32 [.int .i64 0, .int .i64 0, .bool false, .pointer none] true
theorem Tryz.tok195 : TIok Tryz.prog 195 Tryz.ti195 := TIok.of' (z := .agg ⟨[.int .i64 0, .int .i64 0, .bool false, .pointer none]⟩) Tryz.underlying195 Tryz.type195 (by kernel_rfl) Tryz.types_size (by kernel_rfl) (by kernel_rfl)
noncomputable def Tryz.ti196 : TI := TI.mk Tryz.t196.desc 2 40 [.string ⟨⟨[]⟩⟩, .slice none 0 0] true
theorem Tryz.tok196 : TIok Tryz.prog 196 Tryz.ti196 := TIok.of' (z := .agg ⟨[.string ⟨⟨[]⟩⟩, .slice none 0 0]⟩) Tryz.underlying196 Tryz.type196 (by kernel_rfl) Tryz.types_size (by kernel_rfl) (by kernel_rfl)
noncomputable def Tryz.ti197 : TI := TI.mk Tryz.t196.desc 2 40 [.string ⟨⟨[]⟩⟩, .slice none 0 0] true
theorem Tryz.tok197 : TIok Tryz.prog 197 Tryz.ti197 := TIok.of' (z := .agg ⟨[.string ⟨⟨[]⟩⟩, .slice none 0 0]⟩) Tryz.underlying197 Tryz.type197 (by kernel_rfl) Tryz.types_size (by kernel_rfl) (by kernel_rfl)
noncomputable def Tryz.ti198 : TI := TI.mk Tryz.t198.desc 5 80 [.string ⟨⟨[]⟩⟩, .bool false, .string ⟨⟨[]⟩⟩, .string ⟨⟨[]⟩⟩, .slice none 0 0] true
theorem Tryz.tok198 : TIok Tryz.prog 198 Tryz.ti198 := TIok.of' (z := .agg ⟨[.string ⟨⟨[]⟩⟩, .bool false, .string ⟨⟨[]⟩⟩, .string ⟨⟨[]⟩⟩, .slice none 0 0]⟩) Tryz.underlying198 Tryz.type198 (by kernel_rfl) Tryz.types_size (by kernel_rfl) (by kernel_rfl)
noncomputable def Tryz.ti199 : TI := TI.mk Tryz.t198.desc 5 80 [.string ⟨⟨[]⟩⟩, .bool false, .string ⟨⟨[]⟩⟩, .string ⟨⟨[]⟩⟩, .slice none 0 0] true
theorem Tryz.tok199 : TIok Tryz.prog 199 Tryz.ti199 := TIok.of' (z := .agg ⟨[.string ⟨⟨[]⟩⟩, .bool false, .string ⟨⟨[]⟩⟩, .string ⟨⟨[]⟩⟩, .slice none 0 0]⟩) Tryz.underlying199 Tryz.type199 (by kernel_rfl) Tryz.types_size (by kernel_rfl) (by kernel_rfl)
noncomputable def Tryz.ti200 : TI := TI.mk Tryz.t200.desc 1 8 [.nilFunc] false
theorem Tryz.tok200 : TIok Tryz.prog 200 Tryz.ti200 := TIok.of' (z := .nilFunc) Tryz.underlying200 Tryz.type200 (by kernel_rfl) Tryz.types_size (by kernel_rfl) (by kernel_rfl)
noncomputable def Tryz.ti201 : TI := TI.mk Tryz.t201.desc 1 8 [.nilFunc] false
theorem Tryz.tok201 : TIok Tryz.prog 201 Tryz.ti201 := TIok.of' (z := .nilFunc) Tryz.underlying201 Tryz.type201 (by kernel_rfl) Tryz.types_size (by kernel_rfl) (by kernel_rfl)
noncomputable def Tryz.ti202 : TI := TI.mk Tryz.t202.desc 1 8 [.nilFunc] false
theorem Tryz.tok202 : TIok Tryz.prog 202 Tryz.ti202 := TIok.of' (z := .nilFunc) Tryz.underlying202 Tryz.type202 (by kernel_rfl) Tryz.types_size (by kernel_rfl) (by kernel_rfl)
noncomputable def Tryz.ti203 : TI := TI.mk Tryz.t203.desc 1 8 [.nilFunc] false
theorem Tryz.tok203 : TIok Tryz.prog 203 Tryz.ti203 := TIok.of' (z := .nilFunc) Tryz.underlying203 Tryz.type203 (by kernel_rfl) Tryz.types_size (by kernel_rfl) (by kernel_rfl)
noncomputable def Tryz.ti204 : TI := TI.mk Tryz.t204.desc 1 8 [.nilFunc] false
theorem Tryz.tok204 : TIok Tryz.prog 204 Tryz.ti204 := TIok.of' (z := .nilFunc) Tryz.underlying204 Tryz.type204 (by kernel_rfl) Tryz.types_size (by kernel_rfl) (by kernel_rfl)
noncomputable def Tryz.ti206 : TI := TI.mk Tryz.t206.desc 1 8 [.nilFunc] false
theorem Tryz.tok206 : TIok Tryz.prog 206 Tryz.ti206 := TIok.of' (z := .nilFunc) Tryz.underlying206 Tryz.type206 (by kernel_rfl) Tryz.types_size (by kernel_rfl) (by kernel_rfl)
noncomputable def Tryz.ti208 : TI := TI.mk Tryz.t208.desc 1 8 [.nilFunc] false
theorem Tryz.tok208 : TIok Tryz.prog 208 Tryz.ti208 := TIok.of' (z := .nilFunc) Tryz.underlying208 Tryz.type208 (by kernel_rfl) Tryz.types_size (by kernel_rfl) (by kernel_rfl)
noncomputable def Tryz.ti209 : TI := TI.mk Tryz.t209.desc 1 8 [.nilFunc] false
theorem Tryz.tok209 : TIok Tryz.prog 209 Tryz.ti209 := TIok.of' (z := .nilFunc) Tryz.underlying209 Tryz.type209 (by kernel_rfl) Tryz.types_size (by kernel_rfl) (by kernel_rfl)
noncomputable def Tryz.ti210 : TI := TI.mk Tryz.t210.desc 1 8 [.nilFunc] false
theorem Tryz.tok210 : TIok Tryz.prog 210 Tryz.ti210 := TIok.of' (z := .nilFunc) Tryz.underlying210 Tryz.type210 (by kernel_rfl) Tryz.types_size (by kernel_rfl) (by kernel_rfl)
noncomputable def Tryz.ti211 : TI := TI.mk Tryz.t211.desc 1 8 [.pointer none] false
theorem Tryz.tok211 : TIok Tryz.prog 211 Tryz.ti211 := TIok.of' (z := .pointer none) Tryz.underlying211 Tryz.type211 (by kernel_rfl) Tryz.types_size (by kernel_rfl) (by kernel_rfl)
noncomputable def Tryz.ti213 : TI := TI.mk Tryz.t213.desc 1 8 [.nilFunc] false
theorem Tryz.tok213 : TIok Tryz.prog 213 Tryz.ti213 := TIok.of' (z := .nilFunc) Tryz.underlying213 Tryz.type213 (by kernel_rfl) Tryz.types_size (by kernel_rfl) (by kernel_rfl)
noncomputable def Tryz.ti214 : TI := TI.mk Tryz.t214.desc 3 40 [.int .i64 0, .int .i64 0, .slice none 0 0] true
theorem Tryz.tok214 : TIok Tryz.prog 214 Tryz.ti214 := TIok.of' (z := .agg ⟨[.int .i64 0, .int .i64 0, .slice none 0 0]⟩) Tryz.underlying214 Tryz.type214 (by kernel_rfl) Tryz.types_size (by kernel_rfl) (by kernel_rfl)
noncomputable def Tryz.ti215 : TI := TI.mk Tryz.t214.desc 3 40 [.int .i64 0, .int .i64 0, .slice none 0 0] true
theorem Tryz.tok215 : TIok Tryz.prog 215 Tryz.ti215 := TIok.of' (z := .agg ⟨[.int .i64 0, .int .i64 0, .slice none 0 0]⟩) Tryz.underlying215 Tryz.type215 (by kernel_rfl) Tryz.types_size (by kernel_rfl) (by kernel_rfl)
noncomputable def Tryz.ti216 : TI := TI.mk Tryz.t216.desc 1 8 [.nilFunc] false
theorem Tryz.tok216 : TIok Tryz.prog 216 Tryz.ti216 := TIok.of' (z := .nilFunc) Tryz.underlying216 Tryz.type216 (by kernel_rfl) Tryz.types_size (by kernel_rfl) (by kernel_rfl)
noncomputable def Tryz.ti217 : TI := TI.mk Tryz.t217.desc 1 8 [.nilFunc] false
theorem Tryz.tok217 : TIok Tryz.prog 217 Tryz.ti217 := TIok.of' (z := .nilFunc) Tryz.underlying217 Tryz.type217 (by kernel_rfl) Tryz.types_size (by kernel_rfl) (by kernel_rfl)
noncomputable def Tryz.ti218 : TI := TI.mk Tryz.t218.desc 1 8 [.nilFunc] false
theorem Tryz.tok218 : TIok Tryz.prog 218 Tryz.ti218 := TIok.of' (z := .nilFunc) Tryz.underlying218 Tryz.type218 (by kernel_rfl) Tryz.types_size (by kernel_rfl) (by kernel_rfl)
noncomputable def Tryz.ti219 : TI := TI.mk Tryz.t219.desc 6 112 [.string ⟨⟨[]⟩⟩, .string ⟨⟨[]⟩⟩, .int .i64 0, .slice none 0 0, .slice none 0 0, .slice none 0 0] true
theorem Tryz.tok219 : TIok Tryz.prog 219 Tryz.ti219 := TIok.of' (z := .agg ⟨[.string ⟨⟨[]⟩⟩, .string ⟨⟨[]⟩⟩, .int .i64 0, .slice none 0 0, .slice none 0 0, .slice none 0 0]⟩) Tryz.underlying219 Tryz.type219 (by kernel_rfl) Tryz.types_size (by kernel_rfl) (by kernel_rfl)
noncomputable def Tryz.ti220 : TI := TI.mk Tryz.t219.desc 6 112 [.string ⟨⟨[]⟩⟩, .string ⟨⟨[]⟩⟩, .int .i64 0, .slice none 0 0, .slice none 0 0, .slice none 0 0] true
theorem Tryz.tok220 : TIok Tryz.prog 220 Tryz.ti220 := TIok.of' (z := .agg ⟨[.string ⟨⟨[]⟩⟩, .string ⟨⟨[]⟩⟩, .int .i64 0, .slice none 0 0, .slice none 0 0, .slice none 0 0]⟩) Tryz.underlying220 Tryz.type220 (by kernel_rfl) Tryz.types_size (by kernel_rfl) (by kernel_rfl)
noncomputable def Tryz.ti222 : TI := TI.mk Tryz.t222.desc 1 8 [.nilFunc] false
theorem Tryz.tok222 : TIok Tryz.prog 222 Tryz.ti222 := TIok.of' (z := .nilFunc) Tryz.underlying222 Tryz.type222 (by kernel_rfl) Tryz.types_size (by kernel_rfl) (by kernel_rfl)
noncomputable def Tryz.ti223 : TI := TI.mk Tryz.t223.desc 1 8 [.nilFunc] false
theorem Tryz.tok223 : TIok Tryz.prog 223 Tryz.ti223 := TIok.of' (z := .nilFunc) Tryz.underlying223 Tryz.type223 (by kernel_rfl) Tryz.types_size (by kernel_rfl) (by kernel_rfl)
noncomputable def Tryz.ti224 : TI := TI.mk Tryz.t224.desc 1 8 [.nilFunc] false
theorem Tryz.tok224 : TIok Tryz.prog 224 Tryz.ti224 := TIok.of' (z := .nilFunc) Tryz.underlying224 Tryz.type224 (by kernel_rfl) Tryz.types_size (by kernel_rfl) (by kernel_rfl)
noncomputable def Tryz.ti225 : TI := TI.mk Tryz.t225.desc 1 8 [.nilFunc] false
theorem Tryz.tok225 : TIok Tryz.prog 225 Tryz.ti225 := TIok.of' (z := .nilFunc) Tryz.underlying225 Tryz.type225 (by kernel_rfl) Tryz.types_size (by kernel_rfl) (by kernel_rfl)
noncomputable def Tryz.ti226 : TI := TI.mk Tryz.t226.desc 1 8 [.nilFunc] false
theorem Tryz.tok226 : TIok Tryz.prog 226 Tryz.ti226 := TIok.of' (z := .nilFunc) Tryz.underlying226 Tryz.type226 (by kernel_rfl) Tryz.types_size (by kernel_rfl) (by kernel_rfl)
noncomputable def Tryz.ti227 : TI := TI.mk Tryz.t227.desc 1 8 [.nilFunc] false
theorem Tryz.tok227 : TIok Tryz.prog 227 Tryz.ti227 := TIok.of' (z := .nilFunc) Tryz.underlying227 Tryz.type227 (by kernel_rfl) Tryz.types_size (by kernel_rfl) (by kernel_rfl)
noncomputable def Tryz.ti228 : TI := TI.mk Tryz.t228.desc 1 8 [.pointer none] false
theorem Tryz.tok228 : TIok Tryz.prog 228 Tryz.ti228 := TIok.of' (z := .pointer none) Tryz.underlying228 Tryz.type228 (by kernel_rfl) Tryz.types_size (by kernel_rfl) (by kernel_rfl)
noncomputable def Tryz.ti229 : TI := TI.mk Tryz.t229.desc 1 8 [.map none] false
theorem Tryz.tok229 : TIok Tryz.prog 229 Tryz.ti229 := TIok.of' (z := .map none) Tryz.underlying229 Tryz.type229 (by kernel_rfl) Tryz.types_size (by kernel_rfl) (by kernel_rfl)
noncomputable def Tryz.ti230 : TI := TI.mk Tryz.t230.desc 1 8 [.nilFunc] false
theorem Tryz.tok230 : TIok Tryz.prog 230 Tryz.ti230 := TIok.of' (z := .nilFunc) Tryz.underlying230 Tryz.type230 (by kernel_rfl) Tryz.types_size (by kernel_rfl) (by kernel_rfl)
noncomputable def Tryz.ti231 : TI := TI.mk Tryz.t231.desc 2 32 [.map none, .slice none 0 0] true
theorem Tryz.tok231 : TIok Tryz.prog 231 Tryz.ti231 := TIok.of' (z := .agg ⟨[.map none, .slice none 0 0]⟩) Tryz.underlying231 Tryz.type231 (by kernel_rfl) Tryz.types_size (by kernel_rfl) (by kernel_rfl)
noncomputable def Tryz.ti232 : TI := TI.mk Tryz.t231.desc 2 32 [.map none, .slice none 0 0] true
theorem Tryz.tok232 : TIok Tryz.prog 232 Tryz.ti232 := TIok.of' (z := .agg ⟨[.map none, .slice none 0 0]⟩) Tryz.underlying232 Tryz.type232 (by kernel_rfl) Tryz.types_size (by kernel_rfl) (by kernel_rfl)
noncomputable def Tryz.ti233 : TI := TI.mk Tryz.t233.desc 1 8 [.nilFunc] false
theorem Tryz.tok233 : TIok Tryz.prog 233 Tryz.ti233 := TIok.of' (z := .nilFunc) Tryz.underlying233 Tryz.type233 (by kernel_rfl) Tryz.types_size (by kernel_rfl) (by kernel_rfl)
noncomputable def Tryz.ti234 : TI := TI.mk Tryz.t234.desc 1 16 [.nilIface] false
theorem Tryz.tok234 : TIok Tryz.prog 234 Tryz.ti234 := TIok.of' (z := .nilIface) Tryz.underlying234 Tryz.type234 (by kernel_rfl) Tryz.types_size (by kernel_rfl) (by kernel_rfl)
noncomputable def Tryz.ti235 : TI := TI.mk Tryz.t234.desc 1 16 [.nilIface] false
theorem Tryz.tok235 : TIok Tryz.prog 235 Tryz.ti235 := TIok.of' (z := .nilIface) Tryz.underlying235 Tryz.type235 (by kernel_rfl) Tryz.types_size (by kernel_rfl) (by kernel_rfl)
noncomputable def Tryz.ti237 : TI := TI.mk Tryz.t237.desc 1 8 [.nilFunc] false
theorem Tryz.tok237 : TIok Tryz.prog 237 Tryz.ti237 := TIok.of' (z := .nilFunc) Tryz.underlying237 Tryz.type237 (by kernel_rfl) Tryz.types_size (by kernel_rfl) (by kernel_rfl)
noncomputable def Tryz.ti238 : TI := TI.mk Tryz.t238.desc 1 8 [.nilFunc] false
theorem Tryz.tok238 : TIok Tryz.prog 238 Tryz.ti238 := TIok.of' (z := .nilFunc) Tryz.underlying238 Tryz.type238 (by kernel_rfl) Tryz.types_size (by kernel_rfl) (by kernel_rfl)
noncomputable def Tryz.ti239 : TI := TI.mk Tryz.t239.desc 1 8 [.nilFunc] false
theorem Tryz.tok239 : TIok Tryz.prog 239 Tryz.ti239 := TIok.of' (z := .nilFunc) Tryz.underlying239 Tryz.type239 (by kernel_rfl) Tryz.types_size (by kernel_rfl) (by kernel_rfl)
noncomputable def Tryz.ti240 : TI := TI.mk Tryz.t240.desc 1 8 [.nilFunc] false
theorem Tryz.tok240 : TIok Tryz.prog 240 Tryz.ti240 := TIok.of' (z := .nilFunc) Tryz.underlying240 Tryz.type240 (by kernel_rfl) Tryz.types_size (by kernel_rfl) (by kernel_rfl)
noncomputable def Tryz.ti241 : TI := TI.mk Tryz.t241.desc 1 8 [.nilFunc] false
theorem Tryz.tok241 : TIok Tryz.prog 241 Tryz.ti241 := TIok.of' (z := .nilFunc) Tryz.underlying241 Tryz.type241 (by kernel_rfl) Tryz.types_size (by kernel_rfl) (by kernel_rfl)
noncomputable def Tryz.ti242 : TI := TI.mk Tryz.t242.desc 1 8 [.pointer none] false
theorem Tryz.tok242 : TIok Tryz.prog 242 Tryz.ti242 := TIok.of' (z := .pointer none) Tryz.underlying242 Tryz.type242 (by kernel_rfl) Tryz.types_size (by kernel_rfl) (by kernel_rfl)
noncomputable def Tryz.ti243 : TI := TI.mk Tryz.t243.desc 4 64 [.string ⟨⟨[]⟩⟩, .string ⟨⟨[]⟩⟩, .int .i64 0, .slice none 0 0] true
theorem Tryz.tok243 : TIok Tryz.prog 243 Tryz.ti243 := TIok.of' (z := .agg ⟨[.string ⟨⟨[]⟩⟩, .string ⟨⟨[]⟩⟩, .int .i64 0, .slice none 0 0]⟩) Tryz.underlying243 Tryz.type243 (by kernel_rfl) Tryz.types_size (by kernel_rfl) (by kernel_rfl)
noncomputable def Tryz.ti244 : TI := TI.mk Tryz.t243.desc 4 64 [.string ⟨⟨[]⟩⟩, .string ⟨⟨[]⟩⟩, .int .i64 0, .slice none 0 0] true
theorem Tryz.tok244 : TIok Tryz.prog 244 Tryz.ti244 := TIok.of' (z := .agg ⟨[.string ⟨⟨[]⟩⟩, .string ⟨⟨[]⟩⟩, .int .i64 0, .slice none 0 0]⟩) Tryz.underlying244 Tryz.type244 (by kernel_rfl) Tryz.types_size (by kernel_rfl) (by kernel_rfl)
noncomputable def Tryz.ti245 : TI := TI.mk Tryz.t245.desc 1 8 [.nilFunc] false
theorem Tryz.tok245 : TIok Tryz.prog 245 Tryz.ti245 := TIok.of' (z := .nilFunc) Tryz.underlying245 Tryz.type245 (by kernel_rfl) Tryz.types_size (by kernel_rfl) (by kernel_rfl)
noncomputable def Tryz.ti246 : TI := TI.mk Tryz.t246.desc 1 8 [.nilFunc] false
theorem Tryz.tok246 : TIok Tryz.prog 246 Tryz.ti246 := TIok.of' (z := .nilFunc) Tryz.underlying246 Tryz.type246 (by kernel_rfl) Tryz.types_size (by kernel_rfl) (by kernel_rfl)
noncomputable def Tryz.ti247 : TI := TI.mk Tryz.t247.desc 1 8 [.nilFunc] false
theorem Tryz.tok247 : TIok Tryz.prog 247 Tryz.ti247 := TIok.of' (z := .nilFunc) Tryz.underlying247 Tryz.type247 (by kernel_rfl) Tryz.types_size (by kernel_rfl) (by kernel_rfl)
noncomputable def Tryz.ti248 : TI := TI.mk Tryz.t248.desc 1 8 [.int .u64 0] false
theorem Tryz.tok248 : TIok Tryz.prog 248 Tryz.ti248 := TIok.of' (z := .int .u64 0) Tryz.underlying248 Tryz.type248 (by kernel_rfl) Tryz.types_size (by kernel_rfl) (by kernel_rfl)
noncomputable def Tryz.ti249 : TI := TI.mk Tryz.t249.desc 1 8 [.nilFunc] false
theorem Tryz.tok249 : TIok Tryz.prog 249 Tryz.ti249 := TIok.of' (z := .nilFunc) Tryz.underlying249 Tryz.type249 (by kernel_rfl) Tryz.types_size (by kernel_rfl) (by kernel_rfl)
noncomputable def Tryz.ti250 : TI := TI.mk Tryz.t250.desc 1 8 [.nilFunc] false
theorem Tryz.tok250 : TIok Tryz.prog 250 Tryz.ti250 := TIok.of' (z := .nilFunc) Tryz.underlying250 Tryz.type250 (by kernel_rfl) Tryz.types_size (by kernel_rfl) (by kernel_rfl)
noncomputable def Tryz.ti252 : TI := TI.mk Tryz.t252.desc 1 8 [.nilFunc] false
theorem Tryz.tok252 : TIok Tryz.prog 252 Tryz.ti252 := TIok.of' (z := .nilFunc) Tryz.underlying252 Tryz.type252 (by kernel_rfl) Tryz.types_size (by kernel_rfl) (by kernel_rfl)
noncomputable def Tryz.ti253 : TI := TI.mk Tryz.t253.desc 1 8 [.nilFunc] false
theorem Tryz.tok253 : TIok Tryz.prog 253 Tryz.ti253 := TIok.of' (z := .nilFunc) Tryz.underlying253 Tryz.type253 (by kernel_rfl) Tryz.types_size (by kernel_rfl) (by kernel_rfl)
noncomputable def Tryz.ti255 : TI := TI.mk Tryz.t255.desc 1 8 [.nilFunc] false
theorem Tryz.tok255 : TIok Tryz.prog 255 Tryz.ti255 := TIok.of' (z := .nilFunc) Tryz.underlying255 Tryz.type255 (by kernel_rfl) Tryz.types_size (by kernel_rfl) (by kernel_rfl)
noncomputable def Tryz.ti256 : TI := TI.mk Tryz.t256.desc 1 8 [.nilFunc] false
theorem Tryz.tok256 : TIok Tryz.prog 256 Tryz.ti256 := TIok.of' (z := .nilFunc) Tryz.underlying256 Tryz.type256 (by kernel_rfl) Tryz.types_size (by kernel_rfl) (by kernel_rfl)
noncomputable def Tryz.ti257 : TI := TI.mk Tryz.t257.desc 1 8 [.int .u64 0] false
theorem Tryz.tok257 : TIok Tryz.prog 257 Tryz.ti257 := TIok.of' (z := .int .u64 0) Tryz.underlying257 Tryz.type257 (by kernel_rfl) Tryz.types_size (by kernel_rfl) (by kernel_rfl)
noncomputable def Tryz.ti258 : TI := TI.mk Tryz.t258.desc 1 8 [.nilFunc] false
theorem Tryz.tok258 : TIok Tryz.prog 258 Tryz.ti258 := TIok.of' (z := .nilFunc) Tryz.underlying258 Tryz.type258 (by kernel_rfl) Tryz.types_size (by kernel_rfl) (by kernel_rfl)
noncomputable def Tryz.ti259 : TI := TI.mk Tryz.t259.desc 1 8 [.nilFunc] false
theorem Tryz.tok259 : TIok Tryz.prog 259 Tryz.ti259 := TIok.of' (z := .nilFunc) Tryz.underlying259 Tryz.type259 (by kernel_rfl) Tryz.types_size (by kernel_rfl) (by kernel_rfl)
noncomputable def Tryz.ti260 : TI := TI.mk Tryz.t260.desc 1 8 [.nilFunc] false
theorem Tryz.tok260 : TIok Tryz.prog 260 Tryz.ti260 := TIok.of' (z := .nilFunc) Tryz.underlying260 Tryz.type260 (by kernel_rfl) Tryz.types_size (by kernel_rfl) (by kernel_rfl)
noncomputable def Tryz.ti261 : TI := TI.mk Tryz.t261.desc 1 8 [.nilFunc] false
theorem Tryz.tok261 : TIok Tryz.prog 261 Tryz.ti261 := TIok.of' (z := .nilFunc) Tryz.underlying261 Tryz.type261 (by kernel_rfl) Tryz.types_size (by kernel_rfl) (by kernel_rfl)
noncomputable def Tryz.ti262 : TI := TI.mk Tryz.t262.desc 1 8 [.nilFunc] false
theorem Tryz.tok262 : TIok Tryz.prog 262 Tryz.ti262 := TIok.of' (z := .nilFunc) Tryz.underlying262 Tryz.type262 (by kernel_rfl) Tryz.types_size (by kernel_rfl) (by kernel_rfl)
noncomputable def Tryz.ti263 : TI := TI.mk Tryz.t263.desc 1 8 [.pointer none] false
theorem Tryz.tok263 : TIok Tryz.prog 263 Tryz.ti263 := TIok.of' (z := .pointer none) Tryz.underlying263 Tryz.type263 (by kernel_rfl) Tryz.types_size (by kernel_rfl) (by kernel_rfl)
noncomputable def Tryz.ti265 : TI := TI.mk Tryz.t265.desc 1 8 [.nilFunc] false
theorem Tryz.tok265 : TIok Tryz.prog 265 Tryz.ti265 := TIok.of' (z := .nilFunc) Tryz.underlying265 Tryz.type265 (by kernel_rfl) Tryz.types_size (by kernel_rfl) (by kernel_rfl)
noncomputable def Tryz.ti266 : TI := TI.mk Tryz.t266.desc 1 8 [.map none] false
theorem Tryz.tok266 : TIok Tryz.prog 266 Tryz.ti266 := TIok.of' (z := .map none) Tryz.underlying266 Tryz.type266 (by kernel_rfl) Tryz.types_size (by kernel_rfl) (by kernel_rfl)
noncomputable def Tryz.ti267 : TI := TI.mk Tryz.t267.desc 1 8 [.map none] false
theorem Tryz.tok267 : TIok Tryz.prog 267 Tryz.ti267 := TIok.of' (z := .map none) Tryz.underlying267 Tryz.type267 (by kernel_rfl) Tryz.types_size (by kernel_rfl) (by kernel_rfl)
noncomputable def Tryz.ti268 : TI := TI.mk Tryz.t268.desc 23 408 [.slice none 0 0, .slice none 0 0, .string ⟨⟨[]⟩⟩, .string ⟨⟨[]⟩⟩, .string ⟨⟨[]⟩⟩, .string ⟨⟨[]⟩⟩, .int .i64 0, .int .i64 0, .slice none 0 0, .slice none 0 0, .string ⟨⟨[]⟩⟩, .string ⟨⟨[]⟩⟩, .int .i64 0, .slice none 0 0, .slice none 0 0, .slice none 0 0, .slice none 0 0, .slice none 0 0, .slice none 0 0, .map none, .map none, .slice none 0 0, .nilFunc] true
theorem Tryz.tok268 : TIok Tryz.prog 268 Tryz.ti268 := TIok.of' (z := .agg ⟨[.slice none 0 0, .slice none 0 0, .string ⟨⟨[]⟩⟩, .string ⟨⟨[]⟩⟩, .string ⟨⟨[]⟩⟩, .string ⟨⟨[]⟩⟩, .int .i64 0, .int .i64 0, .slice none 0 0, .slice none 0 0, .string ⟨⟨[]⟩⟩, .string ⟨⟨[]⟩⟩, .int .i64 0, .slice none 0 0, .slice none 0 0, .slice none 0 0, .slice none 0 0, .slice none 0 0, .slice none 0 0, .map none, .map none, .slice none 0 0, .nilFunc]⟩) Tryz.underlying268 Tryz.type268 (by kernel_rfl) Tryz.types_size (by kernel_rfl) (by kernel_rfl)
noncomputable def Tryz.ti269 : TI := TI.mk Tryz.t268.desc 23 408 [.slice none 0 0, .slice none 0 0, .string ⟨⟨[]⟩⟩, .string ⟨⟨[]⟩⟩, .string ⟨⟨[]⟩⟩, .string ⟨⟨[]⟩⟩, .int .i64 0, .int .i64 0, .slice none 0 0, .slice none 0 0, .string ⟨⟨[]⟩⟩, .string ⟨⟨[]⟩⟩, .int .i64 0, .slice none 0 0, .slice none 0 0, .slice none 0 0, .slice none 0 0, .slice none 0 0, .slice none 0 0, .map none, .map none, .slice none 0 0, .nilFunc] true
theorem Tryz.tok269 : TIok Tryz.prog 269 Tryz.ti269 := TIok.of' (z := .agg ⟨[.slice none 0 0, .slice none 0 0, .string ⟨⟨[]⟩⟩, .string ⟨⟨[]⟩⟩, .string ⟨⟨[]⟩⟩, .string ⟨⟨[]⟩⟩, .int .i64 0, .int .i64 0, .slice none 0 0, .slice none 0 0, .string ⟨⟨[]⟩⟩, .string ⟨⟨[]⟩⟩, .int .i64 0, .slice none 0 0, .slice none 0 0, .slice none 0 0, .slice none 0 0, .slice none 0 0, .slice none 0 0, .map none, .map none, .slice none 0 0, .nilFunc]⟩) Tryz.underlying269 Tryz.type269 (by kernel_rfl) Tryz.types_size (by kernel_rfl) (by kernel_rfl)
noncomputable def Tryz.ti270 : TI := TI.mk Tryz.t270.desc 1 8 [.nilFunc] false
theorem Tryz.tok270 : TIok Tryz.prog 270 Tryz.ti270 := TIok.of' (z := .nilFunc) Tryz.underlying270 Tryz.type270 (by kernel_rfl) Tryz.types_size (by kernel_rfl) (by kernel_rfl)
noncomputable def Tryz.ti271 : TI := TI.mk Tryz.t271.desc 1 8 [.nilFunc] false
theorem Tryz.tok271 : TIok Tryz.prog 271 Tryz.ti271 := TIok.of' (z := .nilFunc) Tryz.underlying271 Tryz.type271 (by kernel_rfl) Tryz.types_size (by kernel_rfl) (by kernel_rfl)
noncomputable def Tryz.ti272 : TI := TI.mk Tryz.t272.desc 1 8 [.nilFunc] false
theorem Tryz.tok272 : TIok Tryz.prog 272 Tryz.ti272 := TIok.of' (z := .nilFunc) Tryz.underlying272 Tryz.type272 (by kernel_rfl) Tryz.types_size (by kernel_rfl) (by kernel_rfl)
noncomputable def Tryz.ti273 : TI := TI.mk Tryz.t273.desc 1 8 [.nilFunc] false
theorem Tryz.tok273 : TIok Tryz.prog 273 Tryz.ti273 := TIok.of' (z := .nilFunc) Tryz.underlying273 Tryz.type273 (by kernel_rfl) Tryz.types_size (by kernel_rfl) (by kernel_rfl)
noncomputable def Tryz.ti274 : TI := TI.mk Tryz.t274.desc 1 8 [.pointer none] false
theorem Tryz.tok274 : TIok Tryz.prog 274 Tryz.ti274 := TIok.of' (z := .pointer none) Tryz.underlying274 Tryz.type274 (by kernel_rfl) Tryz.types_size (by kernel_rfl) (by kernel_rfl)
noncomputable def Tryz.ti275 : TI := TI.mk Tryz.t275.desc 2 16 [.int .i64 0, .int .i64 0] true
theorem Tryz.tok275 : TIok Tryz.prog 275 Tryz.ti275 := TIok.of' (z := .agg ⟨[.int .i64 0, .int .i64 0]⟩) Tryz.underlying275 Tryz.type275 (by kernel_rfl) Tryz.types_size (by kernel_rfl) (by kernel_rfl)
noncomputable def Tryz.ti276 : TI := TI.mk Tryz.t275.desc 2 16 [.int .i64 0, .int .i64 0] true
theorem Tryz.tok276 : TIok Tryz.prog 276 Tryz.ti276 := TIok.of' (z := .agg ⟨[.int .i64 0, .int .i64 0]⟩) Tryz.underlying276 Tryz.type276 (by kernel_rfl) Tryz.types_size (by kernel_rfl) (by kernel_rfl)
noncomputable def Tryz.ti278 : TI := TI.mk Tryz.t278.desc 1 8 [.nilFunc] false
theorem Tryz.tok278 : TIok Tryz.prog 278 Tryz.ti278 := TIok.of' (z := .nilFunc) Tryz.underlying278 Tryz.type278 (by kernel_rfl) Tryz.types_size (by kernel_rfl) (by kernel_rfl)
noncomputable def Tryz.ti279 : TI := TI.mk Tryz.t279.desc 1 8 [.nilFunc] false
theorem Tryz.tok279 : TIok Tryz.prog 279 Tryz.ti279 := TIok.of' (z := .nilFunc) Tryz.underlying279 Tryz.type279 (by kernel_rfl) Tryz.types_size (by kernel_rfl) (by kernel_rfl)
noncomputable def Tryz.ti280 : TI := TI.mk Tryz.t280.desc 1 8 [.nilFunc] false
theorem Tryz.tok280 : TIok Tryz.prog 280 Tryz.ti280 := TIok.of' (z := .nilFunc) Tryz.underlying280 Tryz.type280 (by kernel_rfl) Tryz.types_size (by kernel_rfl) (by kernel_rfl)
noncomputable def Tryz.ti281 : TI := TI.mk Tryz.t281.desc 1 8 [.pointer none] false
theorem Tryz.tok281 : TIok Tryz.prog 281 Tryz.ti281 := TIok.of' (z := .pointer none) Tryz.underlying281 Tryz.type281 (by kernel_rfl) Tryz.types_size (by kernel_rfl) (by kernel_rfl)
noncomputable def Tryz.ti283 : TI := TI.mk Tryz.t283.desc 1 8 [.nilFunc] false
theorem Tryz.tok283 : TIok Tryz.prog 283 Tryz.ti283 := TIok.of' (z := .nilFunc) Tryz.underlying283 Tryz.type283 (by kernel_rfl) Tryz.types_size (by kernel_rfl) (by kernel_rfl)
noncomputable def Tryz.ti284 : TI := TI.mk Tryz.t284.desc 1 8 [.nilFunc] false
theorem Tryz.tok284 : TIok Tryz.prog 284 Tryz.ti284 := TIok.of' (z := .nilFunc) Tryz.underlying284 Tryz.type284 (by kernel_rfl) Tryz.types_size (by kernel_rfl) (by kernel_rfl)
noncomputable def Tryz.ti285 : TI := TI.mk Tryz.t285.desc 2 48 [.slice none 0 0, .slice none 0 0] true
theorem Tryz.tok285 : TIok Tryz.prog 285 Tryz.ti285 := TIok.of' (z := .agg ⟨[.slice none 0 0, .slice none 0 0]⟩) Tryz.underlying285 Tryz.type285 (by kernel_rfl) Tryz.types_size (by kernel_rfl) (by kernel_rfl)
noncomputable def Tryz.ti286 : TI := TI.mk Tryz.t285.desc 2 48 [.slice none 0 0, .slice none 0 0] true
theorem Tryz.tok286 : TIok Tryz.prog 286 Tryz.ti286 := TIok.of' (z := .agg ⟨[.slice none 0 0, .slice none 0 0]⟩) Tryz.underlying286 Tryz.type286 (by kernel_rfl) Tryz.types_size (by kernel_rfl) (by kernel_rfl)
noncomputable def Tryz.ti287 : TI := TI.mk Tryz.t287.desc 21 408 [.string ⟨⟨[]⟩⟩, .string ⟨⟨[]⟩⟩, .string ⟨⟨[]⟩⟩, .string ⟨⟨[]⟩⟩, .int .i64 0, .int .i64 0, .slice none 0 0, .slice none 0 0, .string ⟨⟨[]⟩⟩, .string ⟨⟨[]⟩⟩, .int .i64 0, .slice none 0 0, .slice none 0 0, .slice none 0 0, .slice none 0 0, .slice none 0 0, .slice none 0 0, .slice none 0 0, .slice none 0 0, .slice none 0 0, .slice none 0 0] true
theorem Tryz.tok287 : TIok Tryz.prog 287 Tryz.ti287 := TIok.of' (z := .agg ⟨[.string ⟨⟨[]⟩⟩, .string ⟨⟨[]⟩⟩, .string ⟨⟨[]⟩⟩, .string ⟨⟨[]⟩⟩, .int .i64 0, .int .i64 0, .slice none 0 0, .slice none 0 0, .string ⟨⟨[]⟩⟩, .string ⟨⟨[]⟩⟩, .int .i64 0, .slice none 0 0, .slice none 0 0, .slice none 0 0, .slice none 0 0, .slice none 0 0, .slice none 0 0, .slice none 0 0, .slice none 0 0, .slice none 0 0, .slice none 0 0]⟩) Tryz.underlying287 Tryz.type287 (by kernel_rfl) Tryz.types_size (by kernel_rfl) (by kernel_rfl)
noncomputable def Tryz.ti288 : TI := TI.mk Tryz.t287.desc 21 408 [.string ⟨⟨[]⟩⟩, .string ⟨⟨[]⟩⟩, .string ⟨⟨[]⟩⟩, .string ⟨⟨[]⟩⟩, .int .i64 0, .int .i64 0, .slice none 0 0, .slice none 0 0, .string ⟨⟨[]⟩⟩, .string ⟨⟨[]⟩⟩, .int .i64 0, .slice none 0 0, .slice none 0 0, .slice none 0 0, .slice none 0 0, .slice none 0 0, .slice none 0 0, .slice none 0 0, .slice none 0 0, .slice none 0 0, .slice none 0 0] true
theorem Tryz.tok288 : TIok Tryz.prog 288 Tryz.ti288 := TIok.of' (z := .agg ⟨[.string ⟨⟨[]⟩⟩, .string ⟨⟨[]⟩⟩, .string ⟨⟨[]⟩⟩, .string ⟨⟨[]⟩⟩, .int .i64 0, .int .i64 0, .slice none 0 0, .slice none 0 0, .string ⟨⟨[]⟩⟩, .string ⟨⟨[]⟩⟩, .int .i64 0, .slice none 0 0, .slice none 0 0, .slice none 0 0, .slice none 0 0, .slice none 0 0, .slice none 0 0, .slice none 0 0, .slice none 0 0, .slice none 0 0, .slice none 0 0]⟩) Tryz.underlying288 Tryz.type288 (by kernel_rfl) Tryz.types_size (by kernel_rfl) (by kernel_rfl)
noncomputable def Tryz.ti289 : TI := TI.mk Tryz.t289.desc 1 8 [.nilFunc] false
theorem Tryz.tok289 : TIok Tryz.prog 289 Tryz.ti289 := TIok.of' (z := .nilFunc) Tryz.underlying289 Tryz.type289 (by kernel_rfl) Tryz.types_size (by kernel_rfl) (by kernel_rfl)
noncomputable def Tryz.ti290 : TI := TI.mk Tryz.t290.desc 1 8 [.nilFunc] false
theorem Tryz.tok290 : TIok Tryz.prog 290 Tryz.ti290 := TIok.of' (z := .nilFunc) Tryz.underlying290 Tryz.type290 (by kernel_rfl) Tryz.types_size (by kernel_rfl) (by kernel_rfl)
noncomputable def Tryz.ti291 : TI := TI.mk Tryz.t291.desc 1 8 [.nilFunc] false
theorem Tryz.tok291 : TIok Tryz.prog 291 Tryz.ti291 := TIok.of' (z := .nilFunc) Tryz.underlying291 Tryz.type291 (by kernel_rfl) Tryz.types_size (by kernel_rfl) (by kernel_rfl)
noncomputable def Tryz.ti292 : TI := TI.mk Tryz.t292.desc 1 8 [.nilFunc] false
theorem Tryz.tok292 : TIok Tryz.prog 292 Tryz.ti292 := TIok.of' (z := .nilFunc) Tryz.underlying292 Tryz.type292 (by kernel_rfl) Tryz.types_size (by kernel_rfl) (by kernel_rfl)
noncomputable def Tryz.ti293 : TI := TI.mk Tryz.t293.desc 1 8 [.nilFunc] false
theorem Tryz.tok293 : TIok Tryz.prog 293 Tryz.ti293 := TIok.of' (z := .nilFunc) Tryz.underlying293 Tryz.type293 (by kernel_rfl) Tryz.types_size (by kernel_rfl) (by kernel_rfl)
noncomputable def Tryz.ti295 : TI := TI.mk Tryz.t295.desc 1 8 [.nilFunc] false
theorem Tryz.tok295 : TIok Tryz.prog 295 Tryz.ti295 := TIok.of' (z := .nilFunc) Tryz.underlying295 Tryz.type295 (by kernel_rfl) Tryz.types_size (by kernel_rfl) (by kernel_rfl)
noncomputable def Tryz.ti296 : TI := TI.mk Tryz.t296.desc 1 8 [.nilFunc] false
theorem Tryz.tok296 : TIok Tryz.prog 296 Tryz.ti296 := TIok.of' (z := .nilFunc) Tryz.underlying296 Tryz.type296 (by kernel_rfl) Tryz.types_size (by kernel_rfl) (by kernel_rfl)
noncomputable def Tryz.ti297 : TI := TI.mk Tryz.t297.desc 1 8 [.nilFunc] false
theorem Tryz.tok297 : TIok Tryz.prog 297 Tryz.ti297 := TIok.of' (z := .nilFunc) Tryz.underlying297 Tryz.type297 (by kernel_rfl) Tryz.types_size (by kernel_rfl) (by kernel_rfl)
noncomputable def Tryz.ti298 : TI := TI.mk Tryz.t298.desc 1 8 [.nilFunc] false
theorem Tryz.tok298 : TIok Tryz.prog 298 Tryz.ti298 := TIok.of' (z := .nilFunc) Tryz.underlying298 Tryz.type298 (by kernel_rfl) Tryz.types_size (by kernel_rfl) (by kernel_rfl)
noncomputable def Tryz.ti299 : TI := TI.mk Tryz.t3.desc 1 8 [.int .i64 0] false
theorem Tryz.tok299 : TIok Tryz.prog 299 Tryz.ti299 := TIok.of' (z := .int .i64 0) Tryz.underlying299 Tryz.type299 (by kernel_rfl) Tryz.types_size (by kernel_rfl) (by kernel_rfl)
noncomputable def Tryz.ti301 : TI := TI.mk Tryz.t301.desc 1 8 [.nilFunc] false
theorem Tryz.tok301 : TIok Tryz.prog 301 Tryz.ti301 := TIok.of' (z := .nilFunc) Tryz.underlying301 Tryz.type301 (by kernel_rfl) Tryz.types_size (by kernel_rfl) (by kernel_rfl)
noncomputable def Tryz.ti302 : TI := TI.mk Tryz.t302.desc 1 8 [.nilFunc] false
theorem Tryz.tok302 : TIok Tryz.prog 302 Tryz.ti302 := TIok.of' (z := .nilFunc) Tryz.underlying302 Tryz.type302 (by kernel_rfl) Tryz.types_size (by kernel_rfl) (by kernel_rfl)
noncomputable def Tryz.ti303 : TI := TI.mk Tryz.t303.desc 1 8 [.nilFunc] false
theorem Tryz.tok303 : TIok Tryz.prog 303 Tryz.ti303 := TIok.of' (z := .nilFunc) Tryz.underlying303 Tryz.type303 (by kernel_rfl) Tryz.types_size (by kernel_rfl) (by kernel_rfl)
noncomputable def Tryz.ti304 : TI := TI.mk Tryz.t304.desc 1 8 [.nilFunc] false
theorem Tryz.tok304 : TIok Tryz.prog 304 Tryz.ti304 := TIok.of' (z := .nilFunc) Tryz.underlying304 Tryz.type304 (by kernel_rfl) Tryz.types_size (by kernel_rfl) (by kernel_rfl)
noncomputable def Tryz.ti305 : TI := TI.mk Tryz.t305.desc 1 8 [.nilFunc] false
theorem Tryz.tok305 : TIok Tryz.prog 305 Tryz.ti305 := TIok.of' (z := .nilFunc) Tryz.underlying305 Tryz.type305 (by kernel_rfl) Tryz.types_size (by kernel_rfl) (by kernel_rfl)
noncomputable def Tryz.ti306 : TI := TI.mk Tryz.t306.desc 1 8 [.nilFunc] false
theorem Tryz.tok306 : TIok Tryz.prog 306 Tryz.ti306 := TIok.of' (z := .nilFunc) Tryz.underlying306 Tryz.type306 (by kernel_rfl) Tryz.types_size (by kernel_rfl) (by kernel_rfl)
noncomputable def Tryz.ti307 : TI := TI.mk Tryz.t307.desc 1 4 [.int .u32 0] false
theorem Tryz.tok307 : TIok Tryz.prog 307 Tryz.ti307 := TIok.of' (z := .int .u32 0) Tryz.underlying307 Tryz.type307 (by kernel_rfl) Tryz.types_size (by kernel_rfl) (by kernel_rfl)
noncomputable def Tryz.ti308 : TI := TI.mk Tryz.t308.desc 1 8 [.nilFunc] false
theorem Tryz.tok308 : TIok Tryz.prog 308 Tryz.ti308 := TIok.of' (z := .nilFunc) Tryz.underlying308 Tryz.type308 (by kernel_rfl) Tryz.types_size (by kernel_rfl) (by kernel_rfl)
noncomputable def Tryz.ti309 : TI := TI.mk Tryz.t309.desc 1 8 [.nilFunc] false
theorem Tryz.tok309 : TIok Tryz.prog 309 Tryz.ti309 := TIok.of' (z := .nilFunc) Tryz.underlying309 Tryz.type309 (by kernel_rfl) Tryz.types_size (by kernel_rfl) (by kernel_rfl)
noncomputable def Tryz.ti310 : TI := TI.mk Tryz.t310.desc 1 8 [.nilFunc] false
theorem Tryz.tok310 : TIok Tryz.prog 310 Tryz.ti310 := TIok.of' (z := .nilFunc) Tryz.underlying310 Tryz.type310 (by kernel_rfl) Tryz.types_size (by kernel_rfl) (by kernel_rfl)
noncomputable def Tryz.ti311 : TI := TI.mk Tryz.t311.desc 1 8 [.nilFunc] false
theorem Tryz.tok311 : TIok Tryz.prog 311 Tryz.ti311 := TIok.of' (z := .nilFunc) Tryz.underlying311 Tryz.type311 (by kernel_rfl) Tryz.types_size (by kernel_rfl) (by kernel_rfl)
noncomputable def Tryz.ti312 : TI := TI.mk Tryz.t312.desc 1 8 [.nilFunc] false
theorem Tryz.tok312 : TIok Tryz.prog 312 Tryz.ti312 := TIok.of' (z := .nilFunc) Tryz.underlying312 Tryz.type312 (by kernel_rfl) Tryz.types_size (by kernel_rfl) (by kernel_rfl)
noncomputable def Tryz.ti313 : TI := TI.mk Tryz.t313.desc 1 8 [.nilFunc] false
theorem Tryz.tok313 : TIok Tryz.prog 313 Tryz.ti313 := TIok.of' (z := .nilFunc) Tryz.underlying313 Tryz.type313 (by kernel_rfl) Tryz.types_size (by kernel_rfl) (by kernel_rfl)
noncomputable def Tryz.ti314 : TI := TI.mk Tryz.t314.desc 1 8 [.nilFunc] false
theorem Tryz.tok314 : TIok Tryz.prog 314 Tryz.ti314 := TIok.of' (z := .nilFunc) Tryz.underlying314 Tryz.type314 (by kernel_rfl) Tryz.types_size (by kernel_rfl) (by kernel_rfl)
noncomputable def Tryz.ti315 : TI := TI.mk Tryz.t315.desc 1 8 [.nilFunc] false
theorem Tryz.tok315 : TIok Tryz.prog 315 Tryz.ti315 := TIok.of' (z := .nilFunc) Tryz.underlying315 Tryz.type315 (by kernel_rfl) Tryz.types_size (by kernel_rfl) (by kernel_rfl)
noncomputable def Tryz.ti316 : TI := TI.mk Tryz.t316.desc 1 24 [.slice none 0 0] false
theorem Tryz.tok316 : TIok Tryz.prog 316 Tryz.ti316 := TIok.of' (z := .slice none 0 0) Tryz.underlying316 Tryz.type316 (by kernel_rfl) Tryz.types_size (by kernel_rfl) (by kernel_rfl)
noncomputable def Tryz.ti317 : TI := TI.mk Tryz.t317.desc 12 224 [.string ⟨⟨[]⟩⟩, .string ⟨⟨[]⟩⟩, .string ⟨⟨[]⟩⟩, .string ⟨⟨[]⟩⟩, .int .i64 0, .slice none 0 0, .slice none 0 0, .string ⟨⟨[]⟩⟩, .string ⟨⟨[]⟩⟩, .slice none 0 0, .slice none 0 0, .slice none 0 0] true
theorem Tryz.tok317 : TIok Tryz.prog 317 Tryz.ti317 := TIok.of' (z := .agg ⟨[.string ⟨⟨[]⟩⟩, .string ⟨⟨[]⟩⟩, .string ⟨⟨[]⟩⟩, .string ⟨⟨[]⟩⟩, .int .i64 0, .slice none 0 0, .slice none 0 0, .string ⟨⟨[]⟩⟩, .string ⟨⟨[]⟩⟩, .slice none 0 0, .slice none 0 0, .slice none 0 0]⟩) Tryz.underlying317 Tryz.type317 (by kernel_rfl) Tryz.types_size (by kernel_rfl) (by kernel_rfl)
noncomputable def Tryz.ti318 : TI := TI.mk Tryz.t317.desc 12 224 [.string ⟨⟨[]⟩⟩, .string ⟨⟨[]⟩⟩, .string ⟨⟨[]⟩⟩, .string ⟨⟨[]⟩⟩, .int .i64 0, .slice none 0 0, .slice none 0 0, .string ⟨⟨[]⟩⟩, .string ⟨⟨[]⟩⟩, .slice none 0 0, .slice none 0 0, .slice none 0 0] true
theorem Tryz.tok318 : TIok Tryz.prog 318 Tryz.ti318 := TIok.of' (z := .agg ⟨[.string ⟨⟨[]⟩⟩, .string ⟨⟨[]⟩⟩, .string ⟨⟨[]⟩⟩, .string ⟨⟨[]⟩⟩, .int .i64 0, .slice none 0 0, .slice none 0 0, .string ⟨⟨[]⟩⟩, .string ⟨⟨[]⟩⟩, .slice none 0 0, .slice none 0 0, .slice none 0 0]⟩) Tryz.underlying318 Tryz.type318 (by kernel_rfl) Tryz.types_size (by kernel_rfl) (by kernel_rfl)
noncomputable def Tryz.ti319 : TI := TI.mk Tryz.t319.desc 1 24 [.slice none 0 0] false
theorem Tryz.tok319 : TIok Tryz.prog 319 Tryz.ti319 := TIok.of' (z := .slice none 0 0) Tryz.underlying319 Tryz.type319 (by kernel_rfl) Tryz.types_size (by kernel_rfl) (by kernel_rfl)
noncomputable def Tryz.ti320 : TI := TI.mk Tryz.t320.desc 15 296 [.slice none 0 0, .slice none 0 0, .slice none 0 0, .string ⟨⟨[]⟩⟩, .string ⟨⟨[]⟩⟩, .string ⟨⟨[]⟩⟩, .string ⟨⟨[]⟩⟩, .int .i64 0, .slice none 0 0, .slice none 0 0, .string ⟨⟨[]⟩⟩, .string ⟨⟨[]⟩⟩, .slice none 0 0, .slice none 0 0, .slice none 0 0] true
theorem Tryz.tok320 : TIok Tryz.prog 320 Tryz.ti320 := TIok.of' (z := .agg ⟨[.slice none 0 0, .slice none 0 0, .slice none 0 0, .string ⟨⟨[]⟩⟩, .string ⟨⟨[]⟩⟩, .string ⟨⟨[]⟩⟩, .string ⟨⟨[]⟩⟩, .int .i64 0, .slice none 0 0, .slice none 0 0, .string ⟨⟨[]⟩⟩, .string ⟨⟨[]⟩⟩, .slice none 0 0, .slice none 0 0, .slice none 0 0]⟩) Tryz.underlying320 Tryz.type320 (by kernel_rfl) Tryz.types_size (by kernel_rfl) (by kernel_rfl)
noncomputable def Tryz.ti321 : TI := TI.mk Tryz.t320.desc 15 296 [.slice none 0 0, .slice none 0 0, .slice none 0 0, .string ⟨⟨[]⟩⟩, .string ⟨⟨[]⟩⟩, .string ⟨⟨[]⟩⟩, .string ⟨⟨[]⟩⟩, .int .i64 0, .slice none 0 0, .slice none 0 0, .string ⟨⟨[]⟩⟩, .string ⟨⟨[]⟩⟩, .slice none 0 0, .slice none 0 0, .slice none 0 0] true
theorem Tryz.tok321 : TIok Tryz.prog 321 Tryz.ti321 := TIok.of' (z := .agg ⟨[.slice none 0 0, .slice none 0 0, .slice none 0 0, .string ⟨⟨[]⟩⟩, .string ⟨⟨[]⟩⟩, .string ⟨⟨[]⟩⟩, .string ⟨⟨[]⟩⟩, .int .i64 0, .slice none 0 0, .slice none 0 0, .string ⟨⟨[]⟩⟩, .string ⟨⟨[]⟩⟩, .slice none 0 0, .slice none 0 0, .slice none 0 0]⟩) Tryz.underlying321 Tryz.type321 (by kernel_rfl) Tryz.types_size (by kernel_rfl) (by kernel_rfl)
noncomputable def Tryz.ti322 : TI := TI.mk Tryz.t322.desc 1 8 [.nilFunc] false
theorem Tryz.tok322 : TIok Tryz.prog 322 Tryz.ti322 := TIok.of' (z := .nilFunc) Tryz.underlying322 Tryz.type322 (by kernel_rfl) Tryz.types_size (by kernel_rfl) (by kernel_rfl)
noncomputable def Tryz.ti323 : TI := TI.mk Tryz.t323.desc 6 88 [.int .i64 0, .string ⟨⟨[]⟩⟩, .bool false, .string ⟨⟨[]⟩⟩, .string ⟨⟨[]⟩⟩, .slice none 0 0] true
theorem Tryz.tok323 : TIok Tryz.prog 323 Tryz.ti323 := TIok.of' (z := .agg ⟨[.int .i64 0, .string ⟨⟨[]⟩⟩, .bool false, .string ⟨⟨[]⟩⟩, .string ⟨⟨[]⟩⟩, .slice none 0 0]⟩) Tryz.underlying323 Tryz.type323 (by kernel_rfl) Tryz.types_size (by kernel_rfl) (by kernel_rfl)
noncomputable def Tryz.ti324 : TI := TI.mk Tryz.t323.desc 6 88 [.int .i64 0, .string ⟨⟨[]⟩⟩, .bool false, .string ⟨⟨[]⟩⟩, .string ⟨⟨[]⟩⟩, .slice none 0 0] true
theorem Tryz.tok324 : TIok Tryz.prog 324 Tryz.ti324 := TIok.of' (z := .agg ⟨[.int .i64 0, .string ⟨⟨[]⟩⟩, .bool false, .string ⟨⟨[]⟩⟩, .string ⟨⟨[]⟩⟩, .slice none 0 0]⟩) Tryz.underlying324 Tryz.type324 (by kernel_rfl) Tryz.types_size (by kernel_rfl) (by kernel_rfl)
noncomputable def Tryz.ti325 : TI := TI.mk Tryz.t325.desc 1 8 [.pointer none] false
theorem Tryz.tok325 : TIok Tryz.prog 325 Tryz.ti325 := TIok.of' (z := .pointer none) Tryz.underlying325 Tryz.type325 (by kernel_rfl) Tryz.types_size (by kernel_rfl) (by kernel_rfl)
noncomputable def Tryz.ti326 : TI := TI.mk Tryz.t326.desc 1 8 [.nilFunc] false
theorem Tryz.tok326 : TIok Tryz.prog 326 Tryz.ti326 := TIok.of' (z := .nilFunc) Tryz.underlying326 Tryz.type326 (by kernel_rfl) Tryz.types_size (by kernel_rfl) (by kernel_rfl)
noncomputable def Tryz.ti327 : TI := TI.mk Tryz.t327.desc 1 8 [.nilFunc] false
theorem Tryz.tok327 : TIok Tryz.prog 327 Tryz.ti327 := TIok.of' (z := .nilFunc) Tryz.underlying327 Tryz.type327 (by kernel_rfl) Tryz.types_size (by kernel_rfl) (by kernel_rfl)
noncomputable def Tryz.ti328 : TI := TI.mk Tryz.t328.desc 1 8 [.nilFunc] false
theorem Tryz.tok328 : TIok Tryz.prog 328 Tryz.ti328 := TIok.of' (z := .nilFunc) Tryz.underlying328 Tryz.type328 (by kernel_rfl) Tryz.types_size (by kernel_rfl) (by kernel_rfl)
noncomputable def Tryz.ti329 : TI := TI.mk Tryz.t329.desc 2 16 [.bool false, .int .i64 0] true
theorem Tryz.tok329 : TIok Tryz.prog 329 Tryz.ti329 := TIok.of' (z := .agg ⟨[.bool false, .int .i64 0]⟩) Tryz.underlying329 Tryz.type329 (by kernel_rfl) Tryz.types_size (by kernel_rfl) (by kernel_rfl)
noncomputable def Tryz.ti330 : TI := TI.mk Tryz.t329.desc 2 16 [.bool false, .int .i64 0] true
theorem Tryz.tok330 : TIok Tryz.prog 330 Tryz.ti330 := TIok.of' (z := .agg ⟨[.bool false, .int .i64 0]⟩) Tryz.underlying330 Tryz.type330 (by kernel_rfl) Tryz.types_size (by kernel_rfl) (by kernel_rfl)
noncomputable def Tryz.ti332 : TI := TI.mk Tryz.t332.desc 1 8 [.nilFunc] false
theorem Tryz.tok332 : TIok Tryz.prog 332 Tryz.ti332 := TIok.of' (z := .nilFunc) Tryz.underlying332 Tryz.type332 (by kernel_rfl) Tryz.types_size (by kernel_rfl) (by kernel_rfl)
noncomputable def Tryz.ti333 : TI := TI.mk Tryz.t333.desc 1 8 [.nilFunc] false
theorem Tryz.tok333 : TIok Tryz.prog 333 Tryz.ti333 := TIok.of' (z := .nilFunc) Tryz.underlying333 Tryz.type333 (by kernel_rfl) Tryz.types_size (by kernel_rfl) (by kernel_rfl)
noncomputable def Tryz.ti334 : TI := TI.mk Tryz.t334.desc 1 8 [.nilFunc] false
theorem Tryz.tok334 : TIok Tryz.prog 334 Tryz.ti334 := TIok.of' (z := .nilFunc) Tryz.underlying334 Tryz.type334 (by kernel_rfl) Tryz.types_size (by kernel_rfl) (by kernel_rfl)
noncomputable def Tryz.ti335 : TI := TI.mk Tryz.t335.desc 1 8 [.nilFunc] false
theorem Tryz.tok335 : TIok Tryz.prog 335 Tryz.ti335 := TIok.of' (z := .nilFunc) Tryz.underlying335 Tryz.type335 (by kernel_rfl) Tryz.types_size (by kernel_rfl) (by kernel_rfl)
noncomputable def Tryz.ti336 : TI := TI.mk Tryz.t336.desc 1 8 [.nilFunc] false
theorem Tryz.tok336 : TIok Tryz.prog 336 Tryz.ti336 := TIok.of' (z := .nilFunc) Tryz.underlying336 Tryz.type336 (by kernel_rfl) Tryz.types_size (by kernel_rfl) (by kernel_rfl)
noncomputable def Tryz.ti337 : TI := TI.mk Tryz.t337.desc 1 8 [.nilFunc] false
theorem Tryz.tok337 : TIok Tryz.prog 337 Tryz.ti337 := TIok.of' (z := .nilFunc) Tryz.underlying337 Tryz.type337 (by kernel_rfl) Tryz.types_size (by kernel_rfl) (by kernel_rfl)
noncomputable def Tryz.ti338 : TI := TI.mk Tryz.t338.desc 1 8 [.nilFunc] false
theorem Tryz.tok338 : TIok Tryz.prog 338 Tryz.ti338 := TIok.of' (z := .nilFunc) Tryz.underlying338 Tryz.type338 (by kernel_rfl) Tryz.types_size (by kernel_rfl) (by kernel_rfl)
noncomputable def Tryz.ti339 : TI := TI.mk Tryz.t339.desc 1 8 [.nilFunc] false
theorem Tryz.tok339 : TIok Tryz.prog 339 Tryz.ti339 := TIok.of' (z := .nilFunc) Tryz.underlying339 Tryz.type339 (by kernel_rfl) Tryz.types_size (by kernel_rfl) (by kernel_rfl)
noncomputable def Tryz.ti340 : TI := TI.mk Tryz.t340.desc 1 8 [.nilFunc] false
theorem Tryz.tok340 : TIok Tryz.prog 340 Tryz.ti340 := TIok.of' (z := .nilFunc) Tryz.underlying340 Tryz.type340 (by kernel_rfl) Tryz.types_size (by kernel_rfl) (by kernel_rfl)
noncomputable def Tryz.ti341 : TI := TI.mk Tryz.t341.desc 1 8 [.map none] false
theorem Tryz.tok341 : TIok Tryz.prog 341 Tryz.ti341 := TIok.of' (z := .map none) Tryz.underlying341 Tryz.type341 (by kernel_rfl) Tryz.types_size (by kernel_rfl) (by kernel_rfl)
noncomputable def Tryz.ti342 : TI := TI.mk Tryz.t342.desc 1 8 [.nilFunc] false
theorem Tryz.tok342 : TIok Tryz.prog 342 Tryz.ti342 := TIok.of' (z := .nilFunc) Tryz.underlying342 Tryz.type342 (by kernel_rfl) Tryz.types_size (by kernel_rfl) (by kernel_rfl)
noncomputable def Tryz.ti343 : TI := TI.mk Tryz.t343.desc 1 8 [.map none] false
theorem Tryz.tok343 : TIok Tryz.prog 343 Tryz.ti343 := TIok.of' (z := .map none) Tryz.underlying343 Tryz.type343 (by kernel_rfl) Tryz.types_size (by kernel_rfl) (by kernel_rfl)
noncomputable def Tryz.ti344 : TI := TI.mk Tryz.t344.desc 2 16 [.map none, .map none] true
theorem Tryz.tok344 : TIok Tryz.prog 344 Tryz.ti344 := TIok.of' (z := .agg ⟨[.map none, .map none]⟩) Tryz.underlying344 Tryz.type344 (by kernel_rfl) Tryz.types_size (by kernel_rfl) (by kernel_rfl)
noncomputable def Tryz.ti345 : TI := TI.mk Tryz.t344.desc 2 16 [.map none, .map none] true
theorem Tryz.tok345 : TIok Tryz.prog 345 Tryz.ti345 := TIok.of' (z := .agg ⟨[.map none, .map none]⟩) Tryz.underlying345 Tryz.type345 (by kernel_rfl) Tryz.types_size (by kernel_rfl) (by kernel_rfl)
noncomputable def Tryz.ti346 : TI := TI.mk Tryz.t346.desc 1 8 [.nilFunc] false
theorem Tryz.tok346 : TIok Tryz.prog 346 Tryz.ti346 := TIok.of' (z := .nilFunc) Tryz.underlying346 Tryz.type346 (by kernel_rfl) Tryz.types_size (by kernel_rfl) (by kernel_rfl)
noncomputable def Tryz.ti347 : TI := TI.mk Tryz.t347.desc 1 8 [.nilFunc] false
theorem Tryz.tok347 : TIok Tryz.prog 347 Tryz.ti347 := TIok.of' (z := .nilFunc) Tryz.underlying347 Tryz.type347 (by kernel_rfl) Tryz.types_size (by kernel_rfl) (by kernel_rfl)
noncomputable def Tryz.ti348 : TI := TI.mk Tryz.t348.desc 1 8 [.nilFunc] false
theorem Tryz.tok348 : TIok Tryz.prog 348 Tryz.ti348 := TIok.of' (z := .nilFunc) Tryz.underlying348 Tryz.type348 (by kernel_rfl) Tryz.types_size (by kernel_rfl) (by kernel_rfl)
noncomputable def Tryz.ti349 : TI := TI.mk Tryz.t349.desc 1 8 [.pointer none] false
theorem Tryz.tok349 : TIok Tryz.prog 349 Tryz.ti349 := TIok.of' (z := .pointer none) Tryz.underlying349 Tryz.type349 (by kernel_rfl) Tryz.types_size (by kernel_rfl) (by kernel_rfl)
noncomputable def Tryz.ti350 : TI := TI.mk Tryz.t350.desc 1 8 [.nilFunc] false
theorem Tryz.tok350 : TIok Tryz.prog 350 Tryz.ti350 := TIok.of' (z := .nilFunc) Tryz.underlying350 Tryz.type350 (by kernel_rfl) Tryz.types_size (by kernel_rfl) (by kernel_rfl)
noncomputable def Tryz.ti351 : TI := TI.mk Tryz.t351.desc 1 8 [.nilFunc] false
theorem Tryz.tok351 : TIok Tryz.prog 351 Tryz.ti351 := TIok.of' (z := .nilFunc) Tryz.underlying351 Tryz.type351 (by kernel_rfl) Tryz.types_size (by kernel_rfl) (by kernel_rfl)
noncomputable def Tryz.ti352 : TI := TI.mk Tryz.t248.desc 1 8 [.int .u64 0] false
theorem Tryz.tok352 : TIok Tryz.prog 352 Tryz.ti352 := TIok.of' (z := .int .u64 0) Tryz.underlying352 Tryz.type352 (by kernel_rfl) Tryz.types_size (by kernel_rfl) (by kernel_rfl)
noncomputable def Tryz.ti353 : TI := TI.mk Tryz.t353.desc 1 8 [.nilFunc] false
theorem Tryz.tok353 : TIok Tryz.prog 353 Tryz.ti353 := TIok.of' (z := .nilFunc) Tryz.underlying353 Tryz.type353 (by kernel_rfl) Tryz.types_size (by kernel_rfl) (by kernel_rfl)
noncomputable def Tryz.ti354 : TI := TI.mk Tryz.t354.desc 1 8 [.nilFunc] false
theorem Tryz.tok354 : TIok Tryz.prog 354 Tryz.ti354 := TIok.of' (z := .nilFunc) Tryz.underlying354 Tryz.type354 (by kernel_rfl) Tryz.types_size (by kernel_rfl) (by kernel_rfl)
noncomputable def Tryz.ti355 : TI := TI.mk Tryz.t355.desc 1 8 [.nilFunc] false
theorem Tryz.tok355 : TIok Tryz.prog 355 Tryz.ti355 := TIok.of' (z := .nilFunc) Tryz.underlying355 Tryz.type355 (by kernel_rfl) Tryz.types_size (by kernel_rfl) (by kernel_rfl)
noncomputable def Tryz.ti356 : TI := TI.mk Tryz.t356.desc 1 8 [.pointer none] false
theorem Tryz.tok356 : TIok Tryz.prog 356 Tryz.ti356 := TIok.of' (z := .pointer none) Tryz.underlying356 Tryz.type356 (by kernel_rfl) Tryz.types_size (by kernel_rfl) (by kernel_rfl)
noncomputable def Tryz.ti357 : TI := TI.mk Tryz.t357.desc 1 8 [.nilFunc] false
theorem Tryz.tok357 : TIok Tryz.prog 357 Tryz.ti357 := TIok.of' (z := .nilFunc) Tryz.underlying357 Tryz.type357 (by kernel_rfl) Tryz.types_size (by kernel_rfl) (by kernel_rfl)
noncomputable def Tryz.ti358 : TI := TI.mk Tryz.t358.desc 1 8 [.nilFunc] false
theorem Tryz.tok358 : TIok Tryz.prog 358 Tryz.ti358 := TIok.of' (z := .nilFunc) Tryz.underlying358 Tryz.type358 (by kernel_rfl) Tryz.types_size (by kernel_rfl) (by kernel_rfl)
noncomputable def Tryz.ti359 : TI := TI.mk Tryz.t359.desc 1 8 [.nilFunc] false
theorem Tryz.tok359 : TIok Tryz.prog 359 Tryz.ti359 := TIok.of' (z := .nilFunc) Tryz.underlying359 Tryz.type359 (by kernel_rfl) Tryz.types_size (by kernel_rfl) (by kernel_rfl)
noncomputable def Tryz.ti360 : TI := TI.mk Tryz.t360.desc 1 8 [.nilFunc] false
theorem Tryz.tok360 : TIok Tryz.prog 360 Tryz.ti360 := TIok.of' (z := .nilFunc) Tryz.underlying360 Tryz.type360 (by kernel_rfl) Tryz.types_size (by kernel_rfl) (by kernel_rfl)
noncomputable def Tryz.ti361 : TI := TI.mk Tryz.t361.desc 1 8 [.nilFunc] false
theorem Tryz.tok361 : TIok Tryz.prog 361 Tryz.ti361 := TIok.of' (z := .nilFunc) Tryz.underlying361 Tryz.type361 (by kernel_rfl) Tryz.types_size (by kernel_rfl) (by kernel_rfl)
noncomputable def Tryz.ti362 : TI := TI.mk Tryz.t362.desc 1 1 [.bool false] true
theorem Tryz.tok362 : TIok Tryz.prog 362 Tryz.ti362 := TIok.of' (z := .agg ⟨[.bool false]⟩) Tryz.underlying362 Tryz.type362 (by kernel_rfl) Tryz.types_size (by kernel_rfl) (by kernel_rfl)
noncomputable def Tryz.ti363 : TI := TI.mk Tryz.t362.desc 1 1 [.bool false] true
theorem Tryz.tok363 : TIok Tryz.prog 363 Tryz.ti363 := TIok.of' (z := .agg ⟨[.bool false]⟩) Tryz.underlying363 Tryz.type363 (by kernel_rfl) Tryz.types_size (by kernel_rfl) (by kernel_rfl)
noncomputable def Tryz.ti364 : TI := TI.mk Tryz.t364.desc 1 8 [.map none] false
theorem Tryz.tok364 : TIok Tryz.prog 364 Tryz.ti364 := TIok.of' (z := .map none) Tryz.underlying364 Tryz.type364 (by kernel_rfl) Tryz.types_size (by kernel_rfl) (by kernel_rfl)
noncomputable def Tryz.ti365 : TI := TI.mk Tryz.t365.desc 3 24 [.map none, .map none, .map none] true
theorem Tryz.tok365 : TIok Tryz.prog 365 Tryz.ti365 := TIok.of' (z := .agg ⟨[.map none, .map none, .map none]⟩) Tryz.underlying365 Tryz.type365 (by kernel_rfl) Tryz.types_size (by kernel_rfl) (by kernel_rfl)
noncomputable def Tryz.ti366 : TI := TI.mk Tryz.t365.desc 3 24 [.map none, .map none, .map none] true
theorem Tryz.tok366 : TIok Tryz.prog 366 Tryz.ti366 := TIok.of' (z := .agg ⟨[.map none, .map none, .map none]⟩) Tryz.underlying366 Tryz.type366 (by kernel_rfl) Tryz.types_size (by kernel_rfl) (by kernel_rfl)
noncomputable def Tryz.ti368 : TI := TI.mk Tryz.t368.desc 1 8 [.nilFunc] false
theorem Tryz.tok368 : TIok Tryz.prog 368 Tryz.ti368 := TIok.of' (z := .nilFunc) Tryz.underlying368 Tryz.type368 (by kernel_rfl) Tryz.types_size (by kernel_rfl) (by kernel_rfl)
noncomputable def Tryz.ti369 : TI := TI.mk Tryz.t369.desc 1 8 [.nilFunc] false
theorem Tryz.tok369 : TIok Tryz.prog 369 Tryz.ti369 := TIok.of' (z := .nilFunc) Tryz.underlying369 Tryz.type369 (by kernel_rfl) Tryz.types_size (by kernel_rfl) (by kernel_rfl)
noncomputable def Tryz.ti370 : TI := TI.mk Tryz.t370.desc 2 16 [.int .i64 0, .int .i64 0] true
theorem Tryz.tok370 : TIok Tryz.prog 370 Tryz.ti370 := TIok.of' (z := .agg ⟨[.int .i64 0, .int .i64 0]⟩) Tryz.underlying370 Tryz.type370 (by kernel_rfl) Tryz.types_size (by kernel_rfl) (by kernel_rfl)
noncomputable def Tryz.ti371 : TI := TI.mk Tryz.t370.desc 2 16 [.int .i64 0, .int .i64 0] true
theorem Tryz.tok371 : TIok Tryz.prog 371 Tryz.ti371 := TIok.of' (z := .agg ⟨[.int .i64 0, .int .i64 0]⟩) Tryz.underlying371 Tryz.type371 (by kernel_rfl) Tryz.types_size (by kernel_rfl) (by kernel_rfl)
noncomputable def Tryz.ti372 : TI := TI.mk Tryz.t372.desc 1 8 [.nilFunc] false
theorem Tryz.tok372 : TIok Tryz.prog 372 Tryz.ti372 := TIok.of' (z := .nilFunc) Tryz.underlying372 Tryz.type372 (by kernel_rfl) Tryz.types_size (by kernel_rfl) (by kernel_rfl)
noncomputable def Tryz.ti373 : TI := TI.mk Tryz.t373.desc 1 8 [.nilFunc] false
theorem Tryz.tok373 : TIok Tryz.prog 373 Tryz.ti373 := TIok.of' (z := .nilFunc) Tryz.underlying373 Tryz.type373 (by kernel_rfl) Tryz.types_size (by kernel_rfl) (by kernel_rfl)
noncomputable def Tryz.ti374 : TI := TI.mk Tryz.t374.desc 1 8 [.nilFunc] false
theorem Tryz.tok374 : TIok Tryz.prog 374 Tryz.ti374 := TIok.of' (z := .nilFunc) Tryz.underlying374 Tryz.type374 (by kernel_rfl) Tryz.types_size (by kernel_rfl) (by kernel_rfl)
noncomputable def Tryz.ti375 : TI := TI.mk Tryz.t375.desc 1 8 [.nilFunc] false
theorem Tryz.tok375 : TIok Tryz.prog 375 Tryz.ti375 := TIok.of' (z := .nilFunc) Tryz.underlying375 Tryz.type375 (by kernel_rfl) Tryz.types_size (by kernel_rfl) (by kernel_rfl)
noncomputable def Tryz.ti376 : TI := TI.mk Tryz.t376.desc 1 8 [.nilFunc] false
theorem Tryz.tok376 : TIok Tryz.prog 376 Tryz.ti376 := TIok.of' (z := .nilFunc) Tryz.underlying376 Tryz.type376 (by kernel_rfl) Tryz.types_size (by kernel_rfl) (by kernel_rfl)
noncomputable def Tryz.ti377 : TI := TI.mk Tryz.t377.desc 1 8 [.nilFunc] false
theorem Tryz.tok377 : TIok Tryz.prog 377 Tryz.ti377 := TIok.of' (z := .nilFunc) Tryz.underlying377 Tryz.type377 (by kernel_rfl) Tryz.types_size (by kernel_rfl) (by kernel_rfl)
noncomputable def Tryz.ti378 : TI := TI.mk Tryz.t378.desc 4 72 [.string ⟨⟨[]⟩⟩, .string ⟨⟨[]⟩⟩, .string ⟨⟨[]⟩⟩, .slice none 0 0] true
theorem Tryz.tok378 : TIok Tryz.prog 378 Tryz.ti378 := TIok.of' (z := .agg ⟨[.string ⟨⟨[]⟩⟩, .string ⟨⟨[]⟩⟩, .string ⟨⟨[]⟩⟩, .slice none 0 0]⟩) Tryz.underlying378 Tryz.type378 (by kernel_rfl) Tryz.types_size (by kernel_rfl) (by kernel_rfl)
noncomputable def Tryz.ti379 : TI := TI.mk Tryz.t378.desc 4 72 [.string ⟨⟨[]⟩⟩, .string ⟨⟨[]⟩⟩, .string ⟨⟨[]⟩⟩, .slice none 0 0] true
theorem Tryz.tok379 : TIok Tryz.prog 379 Tryz.ti379 := TIok.of' (z := .agg ⟨[.string ⟨⟨[]⟩⟩, .string ⟨⟨[]⟩⟩, .string ⟨⟨[]⟩⟩, .slice none 0 0]⟩) Tryz.underlying379 Tryz.type379 (by kernel_rfl) Tryz.types_size (by kernel_rfl) (by kernel_rfl)
noncomputable def Tryz.ti380 : TI := TI.mk Tryz.t380.desc 1 8 [.nilFunc] false
theorem Tryz.tok380 : TIok Tryz.prog 380 Tryz.ti380 := TIok.of' (z := .nilFunc) Tryz.underlying380 Tryz.type380 (by kernel_rfl) Tryz.types_size (by kernel_rfl) (by kernel_rfl)
noncomputable def Tryz.ti381 : TI := TI.mk Tryz.t381.desc 1 8 [.nilFunc] false
theorem Tryz.tok381 : TIok Tryz.prog 381 Tryz.ti381 := TIok.of' (z := .nilFunc) Tryz.underlying381 Tryz.type381 (by kernel_rfl) Tryz.types_size (by kernel_rfl) (by kernel_rfl)
noncomputable def Tryz.ti382 : TI := TI.mk Tryz.t382.desc 1 8 [.nilFunc] false
theorem Tryz.tok382 : TIok Tryz.prog 382 Tryz.ti382 := TIok.of' (z := .nilFunc) Tryz.underlying382 Tryz.type382 (by kernel_rfl) Tryz.types_size (by kernel_rfl) (by kernel_rfl)
noncomputable def Tryz.ti383 : TI := TI.mk Tryz.t383.desc 1 8 [.nilFunc] false
theorem Tryz.tok383 : TIok Tryz.prog 383 Tryz.ti383 := TIok.of' (z := .nilFunc) Tryz.underlying383 Tryz.type383 (by kernel_rfl) Tryz.types_size (by kernel_rfl) (by kernel_rfl)
noncomputable def Tryz.ti384 : TI := TI.mk Tryz.t384.desc 1 8 [.nilFunc] false
theorem Tryz.tok384 : TIok Tryz.prog 384 Tryz.ti384 := TIok.of' (z := .nilFunc) Tryz.underlying384 Tryz.type384 (by kernel_rfl) Tryz.types_size (by kernel_rfl) (by kernel_rfl)
noncomputable def Tryz.ti385 : TI := TI.mk Tryz.t385.desc 1 8 [.pointer none] false
theorem Tryz.tok385 : TIok Tryz.prog 385 Tryz.ti385 := TIok.of' (z := .pointer none) Tryz.underlying385 Tryz.type385 (by kernel_rfl) Tryz.types_size (by kernel_rfl) (by kernel_rfl)
noncomputable def Tryz.ti386 : TI := TI.mk Tryz.t386.desc 1 8 [.nilFunc] false
theorem Tryz.tok386 : TIok Tryz.prog 386 Tryz.ti386 := TIok.of' (z := .nilFunc) Tryz.underlying386 Tryz.type386 (by kernel_rfl) Tryz.types_size (by kernel_rfl) (by kernel_rfl)
noncomputable def Tryz.ti387 : TI := TI.mk Tryz.t387.desc 9 160 [.string ⟨⟨[]⟩⟩, .bool false, .slice none 0 0, .slice none 0 0, .string ⟨⟨[]⟩⟩, .string ⟨⟨[]⟩⟩, .int .i64 0, .slice none 0 0, .slice none 0 0] true
theorem Tryz.tok387 : TIok Tryz.prog 387 Tryz.ti387 := TIok.of' (z := .agg ⟨[.string ⟨⟨[]⟩⟩, .bool false, .slice none 0 0, .slice none 0 0, .string ⟨⟨[]⟩⟩, .string ⟨⟨[]⟩⟩, .int .i64 0, .slice none 0 0, .slice none 0 0]⟩) Tryz.underlying387 Tryz.type387 (by kernel_rfl) Tryz.types_size (by kernel_rfl) (by kernel_rfl)
noncomputable def Tryz.ti388 : TI := TI.mk Tryz.t387.desc 9 160 [.string ⟨⟨[]⟩⟩, .bool false, .slice none 0 0, .slice none 0 0, .string ⟨⟨[]⟩⟩, .string ⟨⟨[]⟩⟩, .int .i64 0, .slice none 0 0, .slice none 0 0] true
theorem Tryz.tok388 : TIok Tryz.prog 388 Tryz.ti388 := TIok.of' (z := .agg ⟨[.string ⟨⟨[]⟩⟩, .bool false, .slice none 0 0, .slice none 0 0, .string ⟨⟨[]⟩⟩, .string ⟨⟨[]⟩⟩, .int .i64 0, .slice none 0 0, .slice none 0 0]⟩) Tryz.underlying388 Tryz.type388 (by kernel_rfl) Tryz.types_size (by kernel_rfl) (by kernel_rfl)
noncomputable def Tryz.ti389 : TI := TI.mk Tryz.t389.desc 1 8 [.nilFunc] false
theorem Tryz.tok389 : TIok Tryz.prog 389 Tryz.ti389 := TIok.of' (z := .nilFunc) Tryz.underlying389 Tryz.type389 (by kernel_rfl) Tryz.types_size (by kernel_rfl) (by kernel_rfl)
noncomputable def Tryz.ti390 : TI := TI.mk Tryz.t390.desc 10 168 [.string ⟨⟨[]⟩⟩, .bool false, .slice none 0 0, .slice none 0 0, .string ⟨⟨[]⟩⟩, .string ⟨⟨[]⟩⟩, .int .i64 0, .slice none 0 0, .slice none 0 0, .pointer none] true
theorem Tryz.tok390 : TIok Tryz.prog 390 Tryz.ti390 := TIok.of' (z := .agg ⟨[.string ⟨⟨[]⟩⟩, .bool false, .slice none 0 0, .slice none 0 0, .string ⟨⟨[]⟩⟩, .string ⟨⟨[]⟩⟩, .int .i64 0, .slice none 0 0, .slice none 0 0, .pointer none]⟩) Tryz.underlying390 Tryz.type390 (by kernel_rfl) Tryz.types_size (by kernel_rfl) (by kernel_rfl)
noncomputable def Tryz.ti391 : TI := TI.mk Tryz.t390.desc 10 168 [.string ⟨⟨[]⟩⟩, .bool false, .slice none 0 0, .slice none 0 0, .string ⟨⟨[]⟩⟩, .string ⟨⟨[]⟩⟩, .int .i64 0, .slice none 0 0, .slice none 0 0, .pointer none] true
theorem Tryz.tok391 : TIok Tryz.prog 391 Tryz.ti391 := TIok.of' (z := .agg ⟨[.string ⟨⟨[]⟩⟩, .bool false, .slice none 0 0, .slice none 0 0, .string ⟨⟨[]⟩⟩, .string ⟨⟨[]⟩⟩, .int .i64 0, .slice none 0 0, .slice none 0 0, .pointer none]⟩) Tryz.underlying391 Tryz.type391 (by kernel_rfl) Tryz.types_size (by kernel_rfl) (by kernel_rfl)
noncomputable def Tryz.ti392 : TI := TI.mk Tryz.t392.desc 1 8 [.nilFunc] false
theorem Tryz.tok392 : TIok Tryz.prog 392 Tryz.ti392 := TIok.of' (z := .nilFunc) Tryz.underlying392 Tryz.type392 (by kernel_rfl) Tryz.types_size (by kernel_rfl) (by kernel_rfl)
noncomputable def Tryz.ti393 : TI := TI.mk Tryz.t393.desc 1 8 [.nilFunc] false
theorem Tryz.tok393 : TIok Tryz.prog 393 Tryz.ti393 := TIok.of' (z := .nilFunc) Tryz.underlying393 Tryz.type393 (by kernel_rfl) Tryz.types_size (by kernel_rfl) (by kernel_rfl)
noncomputable def Tryz.ti394 : TI := TI.mk Tryz.t394.desc 1 8 [.nilFunc] false
theorem Tryz.tok394 : TIok Tryz.prog 394 Tryz.ti394 := TIok.of' (z := .nilFunc) Tryz.underlying394 Tryz.type394 (by kernel_rfl) Tryz.types_size (by kernel_rfl) (by kernel_rfl)
noncomputable def Tryz.ti395 : TI := TI.mk Tryz.t395.desc 1 8 [.nilFunc] false
theorem Tryz.tok395 : TIok Tryz.prog 395 Tryz.ti395 := TIok.of' (z := .nilFunc) Tryz.underlying395 Tryz.type395 (by kernel_rfl) Tryz.types_size (by kernel_rfl) (by kernel_rfl)
noncomputable def Tryz.ti396 : TI := TI.mk Tryz.t396.desc 3 40 [.string ⟨⟨[]⟩⟩, .string ⟨⟨[]⟩⟩, .int .i64 0] true
theorem Tryz.tok396 : TIok Tryz.prog 396 Tryz.ti396 := TIok.of' (z := .agg ⟨[.string ⟨⟨[]⟩⟩, .string ⟨⟨[]⟩⟩, .int .i64 0]⟩) Tryz.underlying396 Tryz.type396 (by kernel_rfl) Tryz.types_size (by kernel_rfl) (by kernel_rfl)
noncomputable def Tryz.ti397 : TI := TI.mk Tryz.t396.desc 3 40 [.string ⟨⟨[]⟩⟩, .string ⟨⟨[]⟩⟩, .int .i64 0] true
theorem Tryz.tok397 : TIok Tryz.prog 397 Tryz.ti397 := TIok.of' (z := .agg ⟨[.string ⟨⟨[]⟩⟩, .string ⟨⟨[]⟩⟩, .int .i64 0]⟩) Tryz.underlying397 Tryz.type397 (by kernel_rfl) Tryz.types_size (by kernel_rfl) (by kernel_rfl)
noncomputable def Tryz.ti398 : TI := TI.mk Tryz.t398.desc 1 8 [.nilFunc] false
theorem Tryz.tok398 : TIok Tryz.prog 398 Tryz.ti398 := TIok.of' (z := .nilFunc) Tryz.underlying398 Tryz.type398 (by kernel_rfl) Tryz.types_size (by kernel_rfl) (by kernel_rfl)
noncomputable def Tryz.ti399 : TI := TI.mk Tryz.t399.desc 1 8 [.nilFunc] false
theorem Tryz.tok399 : TIok Tryz.prog 399 Tryz.ti399 := TIok.of' (z := .nilFunc) Tryz.underlying399 Tryz.type399 (by kernel_rfl) Tryz.types_size (by kernel_rfl) (by kernel_rfl)
noncomputable def Tryz.ti400 : TI := TI.mk Tryz.t400.desc 1 8 [.nilFunc] false
theorem Tryz.tok400 : TIok Tryz.prog 400 Tryz.ti400 := TIok.of' (z := .nilFunc) Tryz.underlying400 Tryz.type400 (by kernel_rfl) Tryz.types_size (by kernel_rfl) (by kernel_rfl)
noncomputable def Tryz.ti401 : TI := TI.mk Tryz.t401.desc 1 8 [.nilFunc] false
theorem Tryz.tok401 : TIok Tryz.prog 401 Tryz.ti401 := TIok.of' (z := .nilFunc) Tryz.underlying401 Tryz.type401 (by kernel_rfl) Tryz.types_size (by kernel_rfl) (by kernel_rfl)
noncomputable def Tryz.ti402 : TI := TI.mk Tryz.t402.desc 1 8 [.nilFunc] false
theorem Tryz.tok402 : TIok Tryz.prog 402 Tryz.ti402 := TIok.of' (z := .nilFunc) Tryz.underlying402 Tryz.type402 (by kernel_rfl) Tryz.types_size (by kernel_rfl) (by kernel_rfl)
noncomputable def Tryz.ti404 : TI := TI.mk Tryz.t404.desc 1 8 [.nilFunc] false
theorem Tryz.tok404 : TIok Tryz.prog 404 Tryz.ti404 := TIok.of' (z := .nilFunc) Tryz.underlying404 Tryz.type404 (by kernel_rfl) Tryz.types_size (by kernel_rfl) (by kernel_rfl)
noncomputable def Tryz.ti405 : TI := TI.mk Tryz.t405.desc 3 72 [.slice none 0 0, .slice none 0 0, .slice none 0 0] true
theorem Tryz.tok405 : TIok Tryz.prog 405 Tryz.ti405 := TIok.of' (z := .agg ⟨[.slice none 0 0, .slice none 0 0, .slice none 0 0]⟩) Tryz.underlying405 Tryz.type405 (by kernel_rfl) Tryz.types_size (by kernel_rfl) (by kernel_rfl)
noncomputable def Tryz.ti406 : TI := TI.mk Tryz.t405.desc 3 72 [.slice none 0 0, .slice none 0 0, .slice none 0 0] true
theorem Tryz.tok406 : TIok Tryz.prog 406 Tryz.ti406 := TIok.of' (z := .agg ⟨[.slice none 0 0, .slice none 0 0, .slice none 0 0]⟩) Tryz.underlying406 Tryz.type406 (by kernel_rfl) Tryz.types_size (by kernel_rfl) (by kernel_rfl)
noncomputable def Tryz.ti407 : TI := TI.mk Tryz.t407.desc 1 8 [.nilFunc] false
theorem Tryz.tok407 : TIok Tryz.prog 407 Tryz.ti407 := TIok.of' (z := .nilFunc) Tryz.underlying407 Tryz.type407 (by kernel_rfl) Tryz.types_size (by kernel_rfl) (by kernel_rfl)
noncomputable def Tryz.ti408 : TI := TI.mk Tryz.t408.desc 1 8 [.nilFunc] false
theorem Tryz.tok408 : TIok Tryz.prog 408 Tryz.ti408 := TIok.of' (z := .nilFunc) Tryz.underlying408 Tryz.type408 (by kernel_rfl) Tryz.types_size (by kernel_rfl) (by kernel_rfl)
noncomputable def Tryz.ti409 : TI := TI.mk Tryz.t409.desc 1 8 [.nilFunc] false
theorem Tryz.tok409 : TIok Tryz.prog 409 Tryz.ti409 := TIok.of' (z := .nilFunc) Tryz.underlying409 Tryz.type409 (by kernel_rfl) Tryz.types_size (by kernel_rfl) (by kernel_rfl)
noncomputable def Tryz.ti410 : TI := TI.mk Tryz.t410.desc 1 8 [.nilFunc] false
theorem Tryz.tok410 : TIok Tryz.prog 410 Tryz.ti410 := TIok.of' (z := .nilFunc) Tryz.underlying410 Tryz.type410 (by kernel_rfl) Tryz.types_size (by kernel_rfl) (by kernel_rfl)
noncomputable def Tryz.ti411 : TI := TI.mk Tryz.t411.desc 1 8 [.nilFunc] false
theorem Tryz.tok411 : TIok Tryz.prog 411 Tryz.ti411 := TIok.of' (z := .nilFunc) Tryz.underlying411 Tryz.type411 (by kernel_rfl) Tryz.types_size (by kernel_rfl) (by kernel_rfl)
noncomputable def Tryz.ti412 : TI := TI.mk Tryz.t412.desc 1 8 [.nilFunc] false
theorem Tryz.tok412 : TIok Tryz.prog 412 Tryz.ti412 := TIok.of' (z := .nilFunc) Tryz.underlying412 Tryz.type412 (by kernel_rfl) Tryz.types_size (by kernel_rfl) (by kernel_rfl)
noncomputable def Tryz.ti413 : TI := TI.mk Tryz.t413.desc 1 8 [.nilFunc] false
theorem Tryz.tok413 : TIok Tryz.prog 413 Tryz.ti413 := TIok.of' (z := .nilFunc) Tryz.underlying413 Tryz.type413 (by kernel_rfl) Tryz.types_size (by kernel_rfl) (by kernel_rfl)
noncomputable def Tryz.ti414 : TI := TI.mk Tryz.t414.desc 1 8 [.nilFunc] false
theorem Tryz.tok414 : TIok Tryz.prog 414 Tryz.ti414 := TIok.of' (z := .nilFunc) Tryz.underlying414 Tryz.type414 (by kernel_rfl) Tryz.types_size (by kernel_rfl) (by kernel_rfl)
noncomputable def Tryz.ti415 : TI := TI.mk Tryz.t415.desc 1 8 [.pointer none] false
theorem Tryz.tok415 : TIok Tryz.prog 415 Tryz.ti415 := TIok.of' (z := .pointer none) Tryz.underlying415 Tryz.type415 (by kernel_rfl) Tryz.types_size (by kernel_rfl) (by kernel_rfl)
noncomputable def Tryz.ti416 : TI := TI.mk Tryz.t416.desc 1 8 [.nilFunc] false
theorem Tryz.tok416 : TIok Tryz.prog 416 Tryz.ti416 := TIok.of' (z := .nilFunc) Tryz.underlying416 Tryz.type416 (by kernel_rfl) Tryz.types_size (by kernel_rfl) (by kernel_rfl)
noncomputable def Tryz.ti417 : TI := TI.mk Tryz.t417.desc 1 8 [.pointer none] false
theorem Tryz.tok417 : TIok Tryz.prog 417 Tryz.ti417 := TIok.of' (z := .pointer none) Tryz.underlying417 Tryz.type417 (by kernel_rfl) Tryz.types_size (by kernel_rfl) (by kernel_rfl)
noncomputable def Tryz.ti419 : TI := TI.mk Tryz.t419.desc 1 8 [.nilFunc] false
theorem Tryz.tok419 : TIok Tryz.prog 419 Tryz.ti419 := TIok.of' (z := .nilFunc) Tryz.underlying419 Tryz.type419 (by kernel_rfl) Tryz.types_size (by kernel_rfl) (by kernel_rfl)
noncomputable def Tryz.ti420 : TI := TI.mk Tryz.t420.desc 1 8 [.nilFunc] false
theorem Tryz.tok420 : TIok Tryz.prog 420 Tryz.ti420 := TIok.of' (z := .nilFunc) Tryz.underlying420 Tryz.type420 (by kernel_rfl) Tryz.types_size (by kernel_rfl) (by kernel_rfl)
noncomputable def Tryz.ti421 : TI := TI.mk Tryz.t421.desc 1 8 [.nilFunc] false
theorem Tryz.tok421 : TIok Tryz.prog 421 Tryz.ti421 := TIok.of' (z := .nilFunc) Tryz.underlying421 Tryz.type421 (by kernel_rfl) Tryz.types_size (by kernel_rfl) (by kernel_rfl)
noncomputable def Tryz.ti422 : TI := TI.mk Tryz.t422.desc 1 8 [.nilFunc] false
theorem Tryz.tok422 : TIok Tryz.prog 422 Tryz.ti422 := TIok.of' (z := .nilFunc) Tryz.underlying422 Tryz.type422 (by kernel_rfl) Tryz.types_size (by kernel_rfl) (by kernel_rfl)
noncomputable def Tryz.ti423 : TI := TI.mk Tryz.t423.desc 1 8 [.nilFunc] false
theorem Tryz.tok423 : TIok Tryz.prog 423 Tryz.ti423 := TIok.of' (z := .nilFunc) Tryz.underlying423 Tryz.type423 (by kernel_rfl) Tryz.types_size (by kernel_rfl) (by kernel_rfl)
noncomputable def Tryz.ti424 : TI := TI.mk Tryz.t424.desc 1 8 [.nilFunc] false
theorem Tryz.tok424 : TIok Tryz.prog 424 Tryz.ti424 := TIok.of' (z := .nilFunc) Tryz.underlying424 Tryz.type424 (by kernel_rfl) Tryz.types_size (by kernel_rfl) (by kernel_rfl)
noncomputable def Tryz.ti425 : TI := TI.mk Tryz.t425.desc 1 8 [.nilFunc] false
theorem Tryz.tok425 : TIok Tryz.prog 425 Tryz.ti425 := TIok.of' (z := .nilFunc) Tryz.underlying425 Tryz.type425 (by kernel_rfl) Tryz.types_size (by kernel_rfl) (by kernel_rfl)
noncomputable def Tryz.ti426 : TI := TI.mk Tryz.t426.desc 1 8 [.nilFunc] false
theorem Tryz.tok426 : TIok Tryz.prog 426 Tryz.ti426 := TIok.of' (z := .nilFunc) Tryz.underlying426 Tryz.type426 (by kernel_rfl) Tryz.types_size (by kernel_rfl) (by kernel_rfl)
noncomputable def Tryz.ti427 : TI := TI.mk Tryz.t427.desc 1 8 [.nilFunc] false
theorem Tryz.tok427 : TIok Tryz.prog 427 Tryz.ti427 := TIok.of' (z := .nilFunc) Tryz.underlying427 Tryz.type427 (by kernel_rfl) Tryz.types_size (by kernel_rfl) (by kernel_rfl)
noncomputable def Tryz.ti429 : TI := TI.mk Tryz.t429.desc 1 8 [.nilFunc] false
theorem Tryz.tok429 : TIok Tryz.prog 429 Tryz.ti429 := TIok.of' (z := .nilFunc) Tryz.underlying429 Tryz.type429 (by kernel_rfl) Tryz.types_size (by kernel_rfl) (by kernel_rfl)
noncomputable def Tryz.ti430 : TI := TI.mk Tryz.t430.desc 1 8 [.nilFunc] false
theorem Tryz.tok430 : TIok Tryz.prog 430 Tryz.ti430 := TIok.of' (z := .nilFunc) Tryz.underlying430 Tryz.type430 (by kernel_rfl) Tryz.types_size (by kernel_rfl) (by kernel_rfl)
noncomputable def Tryz.ti431 : TI := TI.mk Tryz.t431.desc 1 8 [.nilFunc] false
theorem Tryz.tok431 : TIok Tryz.prog 431 Tryz.ti431 := TIok.of' (z := .nilFunc) Tryz.underlying431 Tryz.type431 (by kernel_rfl) Tryz.types_size (by kernel_rfl) (by kernel_rfl)
noncomputable def Tryz.ti432 : TI := TI.mk Tryz.t432.desc 1 8 [.nilFunc] false
theorem Tryz.tok432 : TIok Tryz.prog 432 Tryz.ti432 := TIok.of' (z := .nilFunc) Tryz.underlying432 Tryz.type432 (by kernel_rfl) Tryz.types_size (by kernel_rfl) (by kernel_rfl)
noncomputable def Tryz.ti433 : TI := TI.mk Tryz.t433.desc 1 24 [.slice none 0 0] false
theorem Tryz.tok433 : TIok Tryz.prog 433 Tryz.ti433 := TIok.of' (z := .slice none 0 0) Tryz.underlying433 Tryz.type433 (by kernel_rfl) Tryz.types_size (by kernel_rfl) (by kernel_rfl)
noncomputable def Tryz.ti434 : TI := TI.mk Tryz.t434.desc 1 8 [.nilFunc] false
theorem Tryz.tok434 : TIok Tryz.prog 434 Tryz.ti434 := TIok.of' (z := .nilFunc) Tryz.underlying434 Tryz.type434 (by kernel_rfl) Tryz.types_size (by kernel_rfl) (by kernel_rfl)
noncomputable def Tryz.ti435 : TI := TI.mk Tryz.t435.desc 1 8 [.nilFunc] false
theorem Tryz.tok435 : TIok Tryz.prog 435 Tryz.ti435 := TIok.of' (z := .nilFunc) Tryz.underlying435 Tryz.type435 (by kernel_rfl) Tryz.types_size (by kernel_rfl) (by kernel_rfl)
noncomputable def Tryz.ti436 : TI := TI.mk Tryz.t436.desc 1 8 [.nilFunc] false
theorem Tryz.tok436 : TIok Tryz.prog 436 Tryz.ti436 := TIok.of' (z := .nilFunc) Tryz.underlying436 Tryz.type436 (by kernel_rfl) Tryz.types_size (by kernel_rfl) (by kernel_rfl)
noncomputable def Tryz.ti437 : TI := TI.mk Tryz.t437.desc 1 8 [.nilFunc] false
theorem Tryz.tok437 : TIok Tryz.prog 437 Tryz.ti437 := TIok.of' (z := .nilFunc) Tryz.underlying437 Tryz.type437 (by kernel_rfl) Tryz.types_size (by kernel_rfl) (by kernel_rfl)
noncomputable def Tryz.ti438 : TI := TI.mk Tryz.t438.desc 1 8 [.nilFunc] false
theorem Tryz.tok438 : TIok Tryz.prog 438 Tryz.ti438 := TIok.of' (z := .nilFunc) Tryz.underlying438 Tryz.type438 (by kernel_rfl) Tryz.types_size (by kernel_rfl) (by kernel_rfl)
noncomputable def Tryz.ti439 : TI := TI.mk Tryz.t439.desc 1 8 [.nilFunc] false
theorem Tryz.tok439 : TIok Tryz.prog 439 Tryz.ti439 := TIok.of' (z := .nilFunc) Tryz.underlying439 Tryz.type439 (by kernel_rfl) Tryz.types_size (by kernel_rfl) (by kernel_rfl)
noncomputable def Tryz.ti440 : TI := TI.mk Tryz.t440.desc 1 8 [.nilFunc] false
theorem Tryz.tok440 : TIok Tryz.prog 440 Tryz.ti440 := TIok.of' (z := .nilFunc) Tryz.underlying440 Tryz.type440 (by kernel_rfl) Tryz.types_size (by kernel_rfl) (by kernel_rfl)
noncomputable def Tryz.ti441 : TI := TI.mk Tryz.t441.desc 1 8 [.nilFunc] false
theorem Tryz.tok441 : TIok Tryz.prog 441 Tryz.ti441 := TIok.of' (z := .nilFunc) Tryz.underlying441 Tryz.type441 (by kernel_rfl) Tryz.types_size (by kernel_rfl) (by kernel_rfl)
noncomputable def Tryz.ti442 : TI := TI.mk Tryz.t442.desc 1 8 [.nilFunc] false
theorem Tryz.tok442 : TIok Tryz.prog 442 Tryz.ti442 := TIok.of' (z := .nilFunc) Tryz.underlying442 Tryz.type442 (by kernel_rfl) Tryz.types_size (by kernel_rfl) (by kernel_rfl)
noncomputable def Tryz.ti443 : TI := TI.mk Tryz.t443.desc 1 8 [.nilFunc] false
theorem Tryz.tok443 : TIok Tryz.prog 443 Tryz.ti443 := TIok.of' (z := .nilFunc) Tryz.underlying443 Tryz.type443 (by kernel_rfl) Tryz.types_size (by kernel_rfl) (by kernel_rfl)
noncomputable def Tryz.ti444 : TI := TI.mk Tryz.t444.desc 1 8 [.nilFunc] false
theorem Tryz.tok444 : TIok Tryz.prog 444 Tryz.ti444 := TIok.of' (z := .nilFunc) Tryz.underlying444 Tryz.type444 (by kernel_rfl) Tryz.types_size (by kernel_rfl) (by kernel_rfl)
noncomputable def Tryz.ti445 : TI := TI.mk Tryz.t445.desc 1 8 [.nilFunc] false
theorem Tryz.tok445 : TIok Tryz.prog 445 Tryz.ti445 := TIok.of' (z := .nilFunc) Tryz.underlying445 Tryz.type445 (by kernel_rfl) Tryz.types_size (by kernel_rfl) (by kernel_rfl)
noncomputable def Tryz.ti447 : TI := TI.mk Tryz.t447.desc 1 8 [.nilFunc] false
theorem Tryz.tok447 : TIok Tryz.prog 447 Tryz.ti447 := TIok.of' (z := .nilFunc) Tryz.underlying447 Tryz.type447 (by kernel_rfl) Tryz.types_size (by kernel_rfl) (by kernel_rfl)
noncomputable def Tryz.ti448 : TI := TI.mk Tryz.t448.desc 1 8 [.nilFunc] false
theorem Tryz.tok448 : TIok Tryz.prog 448 Tryz.ti448 := TIok.of' (z := .nilFunc) Tryz.underlying448 Tryz.type448 (by kernel_rfl) Tryz.types_size (by kernel_rfl) (by kernel_rfl)
noncomputable def Tryz.ti449 : TI := TI.mk Tryz.t449.desc 1 24 [.slice none 0 0] false
theorem Tryz.tok449 : TIok Tryz.prog 449 Tryz.ti449 := TIok.of' (z := .slice none 0 0) Tryz.underlying449 Tryz.type449 (by kernel_rfl) Tryz.types_size (by kernel_rfl) (by kernel_rfl)
noncomputable def Tryz.ti451 : TI := TI.mk Tryz.t451.desc 1 8 [.nilFunc] false
theorem Tryz.tok451 : TIok Tryz.prog 451 Tryz.ti451 := TIok.of' (z := .nilFunc) Tryz.underlying451 Tryz.type451 (by kernel_rfl) Tryz.types_size (by kernel_rfl) (by kernel_rfl)
noncomputable def Tryz.ti453 : TI := TI.mk Tryz.t453.desc 1 8 [.nilFunc] false
theorem Tryz.tok453 : TIok Tryz.prog 453 Tryz.ti453 := TIok.of' (z := .nilFunc) Tryz.underlying453 Tryz.type453 (by kernel_rfl) Tryz.types_size (by kernel_rfl) (by kernel_rfl)
noncomputable def Tryz.ti454 : TI := TI.mk Tryz.t454.desc 1 8 [.nilFunc] false
theorem Tryz.tok454 : TIok Tryz.prog 454 Tryz.ti454 := TIok.of' (z := .nilFunc) Tryz.underlying454 Tryz.type454 (by kernel_rfl) Tryz.types_size (by kernel_rfl) (by kernel_rfl)
noncomputable def Tryz.ti455 : TI := TI.mk Tryz.t455.desc 1 8 [.nilFunc] false
theorem Tryz.tok455 : TIok Tryz.prog 455 Tryz.ti455 := TIok.of' (z := .nilFunc) Tryz.underlying455 Tryz.type455 (by kernel_rfl) Tryz.types_size (by kernel_rfl) (by kernel_rfl)
noncomputable def Tryz.ti456 : TI := TI.mk Tryz.t456.desc 1 8 [.nilFunc] false
theorem Tryz.tok456 : TIok Tryz.prog 456 Tryz.ti456 := TIok.of' (z := .nilFunc) Tryz.underlying456 Tryz.type456 (by kernel_rfl) Tryz.types_size (by kernel_rfl) (by kernel_rfl)
noncomputable def Tryz.ti457 : TI := TI.mk Tryz.t457.desc 1 8 [.nilFunc] false
theorem Tryz.tok457 : TIok Tryz.prog 457 Tryz.ti457 := TIok.of' (z := .nilFunc) Tryz.underlying457 Tryz.type457 (by kernel_rfl) Tryz.types_size (by kernel_rfl) (by kernel_rfl)
noncomputable def Tryz.ti458 : TI := TI.mk Tryz.t458.desc 1 8 [.nilFunc] false
theorem Tryz.tok458 : TIok Tryz.prog 458 Tryz.ti458 := TIok.of' (z := .nilFunc) Tryz.underlying458 Tryz.type458 (by kernel_rfl) Tryz.types_size (by kernel_rfl) (by kernel_rfl)
noncomputable def Tryz.ti459 : TI := TI.mk Tryz.t459.desc 24 24 [.int .u8 0, .int .u8 0, .int .u8 0, .int .u8 0, .int .u8 0, .int .u8 0, .int .u8 0, .int .u8 0, .int .u8 0, .int .u8 0, .int .u8 0, .int .u8 0, .int .u8 0, .int .u8 0, .int .u8 0, .int .u8 0, .int .u8 0, .int .u8 0, .int .u8 0, .int .u8 0, .int .u8 0, .int .u8 0, .int .u8 0, .int .u8 0] true
theorem Tryz.tok459 : TIok Tryz.prog 459 Tryz.ti459 := TIok.of' (z := .agg ⟨[.int .u8 0, .int .u8 0, .int .u8 0, .int .u8 0, .int .u8 0, .int .u8 0, .int .u8 0, .int .u8 0, .int .u8 0, .int .u8 0, .int .u8 0, .int .u8 0, .int .u8 0, .int .u8 0, .int .u8 0, .int .u8 0, .int .u8 0, .int .u8 0, .int .u8 0, .int .u8 0, .int .u8 0, .int .u8 0, .int .u8 0, .int .u8 0]⟩) Tryz.underlying459 Tryz.type459 (by kernel_rfl) Tryz.types_size (by kernel_rfl) (by kernel_rfl)
noncomputable def Tryz.ti460 : TI := TI.mk Tryz.t460.desc 1 8 [.nilFunc] false
theorem Tryz.tok460 : TIok Tryz.prog 460 Tryz.ti460 := TIok.of' (z := .nilFunc) Tryz.underlying460 Tryz.type460 (by kernel_rfl) Tryz.types_size (by kernel_rfl) (by kernel_rfl)
noncomputable def Tryz.ti462 : TI := TI.mk Tryz.t462.desc 1 8 [.nilFunc] false
theorem Tryz.tok462 : TIok Tryz.prog 462 Tryz.ti462 := TIok.of' (z := .nilFunc) Tryz.underlying462 Tryz.type462 (by kernel_rfl) Tryz.types_size (by kernel_rfl) (by kernel_rfl)
noncomputable def Tryz.ti463 : TI := TI.mk Tryz.t463.desc 0 0 [] true
theorem Tryz.tok463 : TIok Tryz.prog 463 Tryz.ti463 := TIok.of' (z := .agg ⟨[]⟩) Tryz.underlying463 Tryz.type463 (by kernel_rfl) Tryz.types_size (by kernel_rfl) (by kernel_rfl)
noncomputable def Tryz.ti464 : TI := TI.mk Tryz.t463.desc 0 0 [] true
theorem Tryz.tok464 : TIok Tryz.prog 464 Tryz.ti464 := TIok.of' (z := .agg ⟨[]⟩) Tryz.underlying464 Tryz.type464 (by kernel_rfl) Tryz.types_size (by kernel_rfl) (by kernel_rfl)
noncomputable def Tryz.ti465 : TI := TI.mk Tryz.t463.desc 0 0 [] true
theorem Tryz.tok465 : TIok Tryz.prog 465 Tryz.ti465 := TIok.of' (z := .agg ⟨[]⟩) Tryz.underlying465 Tryz.type465 (by kernel_rfl) Tryz.types_size (by kernel_rfl) (by kernel_rfl)
noncomputable def Tryz.ti466 : TI := TI.mk Tryz.t466.desc 1 4 [.int .u32 0] true
theorem Tryz.tok466 : TIok Tryz.prog 466 Tryz.ti466 := TIok.of' (z := .agg ⟨[.int .u32 0]⟩) Tryz.underlying466 Tryz.type466 (by kernel_rfl) Tryz.types_size (by kernel_rfl) (by kernel_rfl)
noncomputable def Tryz.ti467 : TI := TI.mk Tryz.t466.desc 1 4 [.int .u32 0] true
theorem Tryz.tok467 : TIok Tryz.prog 467 Tryz.ti467 := TIok.of' (z := .agg ⟨[.int .u32 0]⟩) Tryz.underlying467 Tryz.type467 (by kernel_rfl) Tryz.types_size (by kernel_rfl) (by kernel_rfl)
noncomputable def Tryz.ti468 : TI := TI.mk Tryz.t468.desc 2 8 [.int .i32 0, .int .u32 0] true
theorem Tryz.tok468 : TIok Tryz.prog 468 Tryz.ti468 := TIok.of' (z := .agg ⟨[.int .i32 0, .int .u32 0]⟩) Tryz.underlying468 Tryz.type468 (by kernel_rfl) Tryz.types_size (by kernel_rfl) (by kernel_rfl)
noncomputable def Tryz.ti469 : TI := TI.mk Tryz.t468.desc 2 8 [.int .i32 0, .int .u32 0] true
theorem Tryz.tok469 : TIok Tryz.prog 469 Tryz.ti469 := TIok.of' (z := .agg ⟨[.int .i32 0, .int .u32 0]⟩) Tryz.underlying469 Tryz.type469 (by kernel_rfl) Tryz.types_size (by kernel_rfl) (by kernel_rfl)
noncomputable def Tryz.ti470 : TI := TI.mk Tryz.t470.desc 2 8 [.int .i32 0, .int .u32 0] true
theorem Tryz.tok470 : TIok Tryz.prog 470 Tryz.ti470 := TIok.of' (z := .agg ⟨[.int .i32 0, .int .u32 0]⟩) Tryz.underlying470 Tryz.type470 (by kernel_rfl) Tryz.types_size (by kernel_rfl) (by kernel_rfl)
noncomputable def Tryz.ti471 : TI := TI.mk Tryz.t470.desc 2 8 [.int .i32 0, .int .u32 0] true
theorem Tryz.tok471 : TIok Tryz.prog 471 Tryz.ti471 := TIok.of' (z := .agg ⟨[.int .i32 0, .int .u32 0]⟩) Tryz.underlying471 Tryz.type471 (by kernel_rfl) Tryz.types_size (by kernel_rfl) (by kernel_rfl)
noncomputable def Tryz.ti472 : TI := TI.mk Tryz.t472.desc 3 12 [.int .u32 0, .int .i32 0, .int .u32 0] true
theorem Tryz.tok472 : TIok Tryz.prog 472 Tryz.ti472 := TIok.of' (z := .agg ⟨[.int .u32 0, .int .i32 0, .int .u32 0]⟩) Tryz.underlying472 Tryz.type472 (by kernel_rfl) Tryz.types_size (by kernel_rfl) (by kernel_rfl)
noncomputable def Tryz.ti473 : TI := TI.mk Tryz.t472.desc 3 12 [.int .u32 0, .int .i32 0, .int .u32 0] true
theorem Tryz.tok473 : TIok Tryz.prog 473 Tryz.ti473 := TIok.of' (z := .agg ⟨[.int .u32 0, .int .i32 0, .int .u32 0]⟩) Tryz.underlying473 Tryz.type473 (by kernel_rfl) Tryz.types_size (by kernel_rfl) (by kernel_rfl)
noncomputable def Tryz.ti474 : TI := TI.mk Tryz.t474.desc 1 16 [.nilIface] false
theorem Tryz.tok474 : TIok Tryz.prog 474 Tryz.ti474 := TIok.of' (z := .nilIface) Tryz.underlying474 Tryz.type474 (by kernel_rfl) Tryz.types_size (by kernel_rfl) (by kernel_rfl)
noncomputable def Tryz.ti475 : TI := TI.mk Tryz.t474.desc 1 16 [.nilIface] false
theorem Tryz.tok475 : TIok Tryz.prog 475 Tryz.ti475 := TIok.of' (z := .nilIface) Tryz.underlying475 Tryz.type475 (by kernel_rfl) Tryz.types_size (by kernel_rfl) (by kernel_rfl)
noncomputable def Tryz.ti476 : TI := TI.mk Tryz.t476.desc 5 56 [.int .u32 0, .int .i32 0, .int .u32 0, .nilIface, .slice none 0 0] true
theorem Tryz.tok476 : TIok Tryz.prog 476 Tryz.ti476 := TIok.of' (z := .agg ⟨[.int .u32 0, .int .i32 0, .int .u32 0, .nilIface, .slice none 0 0]⟩) Tryz.underlying476 Tryz.type476 (by kernel_rfl) Tryz.types_size (by kernel_rfl) (by kernel_rfl)
noncomputable def Tryz.ti477 : TI := TI.mk Tryz.t476.desc 5 56 [.int .u32 0, .int .i32 0, .int .u32 0, .nilIface, .slice none 0 0] true
theorem Tryz.tok477 : TIok Tryz.prog 477 Tryz.ti477 := TIok.of' (z := .agg ⟨[.int .u32 0, .int .i32 0, .int .u32 0, .nilIface, .slice none 0 0]⟩) Tryz.underlying477 Tryz.type477 (by kernel_rfl) Tryz.types_size (by kernel_rfl) (by kernel_rfl)
noncomputable def Tryz.ti478 : TI := TI.mk Tryz.t478.desc 1 8 [.nilFunc] false
theorem Tryz.tok478 : TIok Tryz.prog 478 Tryz.ti478 := TIok.of' (z := .nilFunc) Tryz.underlying478 Tryz.type478 (by kernel_rfl) Tryz.types_size (by kernel_rfl) (by kernel_rfl)
noncomputable def Tryz.ti479 : TI := TI.mk Tryz.t479.desc 1 8 [.nilFunc] false
theorem Tryz.tok479 : TIok Tryz.prog 479 Tryz.ti479 := TIok.of' (z := .nilFunc) Tryz.underlying479 Tryz.type479 (by kernel_rfl) Tryz.types_size (by kernel_rfl) (by kernel_rfl)
noncomputable def Tryz.ti480 : TI := TI.mk Tryz.t480.desc 1 8 [.nilFunc] false
theorem Tryz.tok480 : TIok Tryz.prog 480 Tryz.ti480 := TIok.of' (z := .nilFunc) Tryz.underlying480 Tryz.type480 (by kernel_rfl) Tryz.types_size (by kernel_rfl) (by kernel_rfl)
noncomputable def Tryz.ti481 : TI := TI.mk Tryz.t481.desc 1 8 [.nilFunc] false
theorem Tryz.tok481 : TIok Tryz.prog 481 Tryz.ti481 := TIok.of' (z := .nilFunc) Tryz.underlying481 Tryz.type481 (by kernel_rfl) Tryz.types_size (by kernel_rfl) (by kernel_rfl)
noncomputable def Tryz.ti482 : TI := TI.mk Tryz.t482.desc 1 8 [.nilFunc] false
theorem Tryz.tok482 : TIok Tryz.prog 482 Tryz.ti482 := TIok.of' (z := .nilFunc) Tryz.underlying482 Tryz.type482 (by kernel_rfl) Tryz.types_size (by kernel_rfl) (by kernel_rfl)
noncomputable def Tryz.ti483 : TI := TI.mk Tryz.t483.desc 1 8 [.pointer none] false
theorem Tryz.tok483 : TIok Tryz.prog 483 Tryz.ti483 := TIok.of' (z := .pointer none) Tryz.underlying483 Tryz.type483 (by kernel_rfl) Tryz.types_size (by kernel_rfl) (by kernel_rfl)
noncomputable def Tryz.ti484 : TI := TI.mk Tryz.t484.desc 1 8 [.nilFunc] false
theorem Tryz.tok484 : TIok Tryz.prog 484 Tryz.ti484 := TIok.of' (z := .nilFunc) Tryz.underlying484 Tryz.type484 (by kernel_rfl) Tryz.types_size (by kernel_rfl) (by kernel_rfl)
noncomputable def Tryz.ti485 : TI := TI.mk Tryz.t23.desc 1 24 [.slice none 0 0] false
theorem Tryz.tok485 : TIok Tryz.prog 485 Tryz.ti485 := TIok.of' (z := .slice none 0 0) Tryz.underlying485 Tryz.type485 (by kernel_rfl) Tryz.types_size (by kernel_rfl) (by kernel_rfl)
noncomputable def Tryz.ti486 : TI := TI.mk Tryz.t486.desc 1 8 [.nilFunc] false
theorem Tryz.tok486 : TIok Tryz.prog 486 Tryz.ti486 := TIok.of' (z := .nilFunc) Tryz.underlying486 Tryz.type486 (by kernel_rfl) Tryz.types_size (by kernel_rfl) (by kernel_rfl)
noncomputable def Tryz.ti487 : TI := TI.mk Tryz.t487.desc 1 8 [.nilFunc] false
theorem Tryz.tok487 : TIok Tryz.prog 487 Tryz.ti487 := TIok.of' (z := .nilFunc) Tryz.underlying487 Tryz.type487 (by kernel_rfl) Tryz.types_size (by kernel_rfl) (by kernel_rfl)
noncomputable def Tryz.ti488 : TI := TI.mk Tryz.t488.desc 1 8 [.nilFunc] false
theorem Tryz.tok488 : TIok Tryz.prog 488 Tryz.ti488 := TIok.of' (z := .nilFunc) Tryz.underlying488 Tryz.type488 (by kernel_rfl) Tryz.types_size (by kernel_rfl) (by kernel_rfl)
noncomputable def Tryz.ti489 : TI := TI.mk Tryz.t489.desc 1 8 [.nilFunc] false
theorem Tryz.tok489 : TIok Tryz.prog 489 Tryz.ti489 := TIok.of' (z := .nilFunc) Tryz.underlying489 Tryz.type489 (by kernel_rfl) Tryz.types_size (by kernel_rfl) (by kernel_rfl)
noncomputable def Tryz.ti490 : TI := TI.mk Tryz.t490.desc 10 24 [.int .i64 0, .bool false, .bool false, .bool false, .bool false, .bool false, .bool false, .bool false, .bool false, .bool false] true
theorem Tryz.tok490 : TIok Tryz.prog 490 Tryz.ti490 := TIok.of' (z := .agg ⟨[.int .i64 0, .bool false, .bool false, .bool false, .bool false, .bool false, .bool false, .bool false, .bool false, .bool false]⟩) Tryz.underlying490 Tryz.type490 (by kernel_rfl) Tryz.types_size (by kernel_rfl) (by kernel_rfl)
noncomputable def Tryz.ti491 : TI := TI.mk Tryz.t490.desc 10 24 [.int .i64 0, .bool false, .bool false, .bool false, .bool false, .bool false, .bool false, .bool false, .bool false, .bool false] true
theorem Tryz.tok491 : TIok Tryz.prog 491 Tryz.ti491 := TIok.of' (z := .agg ⟨[.int .i64 0, .bool false, .bool false, .bool false, .bool false, .bool false, .bool false, .bool false, .bool false, .bool false]⟩) Tryz.underlying491 Tryz.type491 (by kernel_rfl) Tryz.types_size (by kernel_rfl) (by kernel_rfl)
noncomputable def Tryz.ti493 : TI := TI.mk Tryz.t493.desc 1 8 [.nilFunc] false
theorem Tryz.tok493 : TIok Tryz.prog 493 Tryz.ti493 := TIok.of' (z := .nilFunc) Tryz.underlying493 Tryz.type493 (by kernel_rfl) Tryz.types_size (by kernel_rfl) (by kernel_rfl)
noncomputable def Tryz.ti494 : TI := TI.mk Tryz.t494.desc 1 8 [.nilFunc] false
theorem Tryz.tok494 : TIok Tryz.prog 494 Tryz.ti494 := TIok.of' (z := .nilFunc) Tryz.underlying494 Tryz.type494 (by kernel_rfl) Tryz.types_size (by kernel_rfl) (by kernel_rfl)
noncomputable def Tryz.ti495 : TI := TI.mk Tryz.t495.desc 1 8 [.nilFunc] false
theorem Tryz.tok495 : TIok Tryz.prog 495 Tryz.ti495 := TIok.of' (z := .nilFunc) Tryz.underlying495 Tryz.type495 (by kernel_rfl) Tryz.types_size (by kernel_rfl) (by kernel_rfl)
noncomputable def Tryz.ti496 : TI := TI.mk Tryz.t496.desc 1 8 [.nilFunc] false
theorem Tryz.tok496 : TIok Tryz.prog 496 Tryz.ti496 := TIok.of' (z := .nilFunc) Tryz.underlying496 Tryz.type496 (by kernel_rfl) Tryz.types_size (by kernel_rfl) (by kernel_rfl)
noncomputable def Tryz.ti497 : TI := TI.mk Tryz.t497.desc 1 8 [.nilFunc] false
theorem Tryz.tok497 : TIok Tryz.prog 497 Tryz.ti497 := TIok.of' (z := .nilFunc) Tryz.underlying497 Tryz.type497 (by kernel_rfl) Tryz.types_size (by kernel_rfl) (by kernel_rfl)
noncomputable def Tryz.ti498 : TI := TI.mk Tryz.t498.desc 1 8 [.nilFunc] false
theorem Tryz.tok498 : TIok Tryz.prog 498 Tryz.ti498 := TIok.of' (z := .nilFunc) Tryz.underlying498 Tryz.type498 (by kernel_rfl) Tryz.types_size (by kernel_rfl) (by kernel_rfl)
noncomputable def Tryz.ti499 : TI := TI.mk Tryz.t499.desc 1 8 [.nilFunc] false
theorem Tryz.tok499 : TIok Tryz.prog 499 Tryz.ti499 := TIok.of' (z := .nilFunc) Tryz.underlying499 Tryz.type499 (by kernel_rfl) Tryz.types_size (by kernel_rfl) (by kernel_rfl)
noncomputable def Tryz.ti500 : TI := TI.mk Tryz.t500.desc 1 8 [.nilFunc] false
theorem Tryz.tok500 : TIok Tryz.prog 500 Tryz.ti500 := TIok.of' (z := .nilFunc) Tryz.underlying500 Tryz.type500 (by kernel_rfl) Tryz.types_size (by kernel_rfl) (by kernel_rfl)
noncomputable def Tryz.ti501 : TI := TI.mk Tryz.t501.desc 1 8 [.nilFunc] false
theorem Tryz.tok501 : TIok Tryz.prog 501 Tryz.ti501 := TIok.of' (z := .nilFunc) Tryz.underlying501 Tryz.type501 (by kernel_rfl) Tryz.types_size (by kernel_rfl) (by kernel_rfl)
noncomputable def Tryz.ti502 : TI := TI.mk Tryz.t502.desc 1 8 [.nilFunc] false
theorem Tryz.tok502 : TIok Tryz.prog 502 Tryz.ti502 := TIok.of' (z := .nilFunc) Tryz.underlying502 Tryz.type502 (by kernel_rfl) Tryz.types_size (by kernel_rfl) (by kernel_rfl)
noncomputable def Tryz.ti503 : TI := TI.mk Tryz.t503.desc 1 8 [.nilFunc] false
theorem Tryz.tok503 : TIok Tryz.prog 503 Tryz.ti503 := TIok.of' (z := .nilFunc) Tryz.underlying503 Tryz.type503 (by kernel_rfl) Tryz.types_size (by kernel_rfl) (by kernel_rfl)
noncomputable def Tryz.ti504 : TI := TI.mk Tryz.t504.desc 1 8 [.map none] false
theorem Tryz.tok504 : TIok Tryz.prog 504 Tryz.ti504 := TIok.of' (z := .map none) Tryz.underlying504 Tryz.type504 (by kernel_rfl) Tryz.types_size (by kernel_rfl) (by kernel_rfl)
noncomputable def Tryz.ti505 : TI := TI.mk Tryz.t505.desc 2 16 [.map none, .map none] true
theorem Tryz.tok505 : TIok Tryz.prog 505 Tryz.ti505 := TIok.of' (z := .agg ⟨[.map none, .map none]⟩) Tryz.underlying505 Tryz.type505 (by kernel_rfl) Tryz.types_size (by kernel_rfl) (by kernel_rfl)
noncomputable def Tryz.ti506 : TI := TI.mk Tryz.t505.desc 2 16 [.map none, .map none] true
theorem Tryz.tok506 : TIok Tryz.prog 506 Tryz.ti506 := TIok.of' (z := .agg ⟨[.map none, .map none]⟩) Tryz.underlying506 Tryz.type506 (by kernel_rfl) Tryz.types_size (by kernel_rfl) (by kernel_rfl)
noncomputable def Tryz.ti508 : TI := TI.mk Tryz.t508.desc 1 8 [.nilFunc] false
theorem Tryz.tok508 : TIok Tryz.prog 508 Tryz.ti508 := TIok.of' (z := .nilFunc) Tryz.underlying508 Tryz.type508 (by kernel_rfl) Tryz.types_size (by kernel_rfl) (by kernel_rfl)
noncomputable def Tryz.ti509 : TI := TI.mk Tryz.t509.desc 1 8 [.nilFunc] false
theorem Tryz.tok509 : TIok Tryz.prog 509 Tryz.ti509 := TIok.of' (z := .nilFunc) Tryz.underlying509 Tryz.type509 (by kernel_rfl) Tryz.types_size (by kernel_rfl) (by kernel_rfl)
noncomputable def Tryz.ti512 : TI := TI.mk Tryz.t512.desc 1 8 [.nilFunc] false
theorem Tryz.tok512 : TIok Tryz.prog 512 Tryz.ti512 := TIok.of' (z := .nilFunc) Tryz.underlying512 Tryz.type512 (by kernel_rfl) Tryz.types_size (by kernel_rfl) (by kernel_rfl)
noncomputable def Tryz.ti514 : TI := TI.mk Tryz.t514.desc 1 8 [.nilFunc] false
theorem Tryz.tok514 : TIok Tryz.prog 514 Tryz.ti514 := TIok.of' (z := .nilFunc) Tryz.underlying514 Tryz.type514 (by kernel_rfl) Tryz.types_size (by kernel_rfl) (by kernel_rfl)
noncomputable def Tryz.ti515 : TI := TI.mk Tryz.t515.desc 1 8 [.nilFunc] false
theorem Tryz.tok515 : TIok Tryz.prog 515 Tryz.ti515 := TIok.of' (z := .nilFunc) Tryz.underlying515 Tryz.type515 (by kernel_rfl) Tryz.types_size (by kernel_rfl) (by kernel_rfl)
noncomputable def Tryz.ti516 : TI := TI.mk Tryz.t516.desc 1 8 [.nilFunc] false
theorem Tryz.tok516 : TIok Tryz.prog 516 Tryz.ti516 := TIok.of' (z := .nilFunc) Tryz.underlying516 Tryz.type516 (by kernel_rfl) Tryz.types_size (by kernel_rfl) (by kernel_rfl)
noncomputable def Tryz.ti517 : TI := TI.mk Tryz.t517.desc 20 160 [.int .u64 0, .int .u64 0, .int .u64 0, .int .u64 0, .int .u64 0, .int .u64 0, .int .u64 0, .int .u64 0, .int .u64 0, .int .u64 0, .int .u64 0, .int .u64 0, .int .u64 0, .int .u64 0, .int .u64 0, .int .u64 0, .int .u64 0, .int .u64 0, .int .u64 0, .int .u64 0] true
theorem Tryz.tok517 : TIok Tryz.prog 517 Tryz.ti517 := TIok.of' (z := .agg ⟨[.int .u64 0, .int .u64 0, .int .u64 0, .int .u64 0, .int .u64 0, .int .u64 0, .int .u64 0, .int .u64 0, .int .u64 0, .int .u64 0, .int .u64 0, .int .u64 0, .int .u64 0, .int .u64 0, .int .u64 0, .int .u64 0, .int .u64 0, .int .u64 0, .int .u64 0, .int .u64 0]⟩) Tryz.underlying517 Tryz.type517 (by kernel_rfl) Tryz.types_size (by kernel_rfl) (by kernel_rfl)
noncomputable def Tryz.ti519 : TI := TI.mk Tryz.t519.desc 1 8 [.pointer none] false
theorem Tryz.tok519 : TIok Tryz.prog 519 Tryz.ti519 := TIok.of' (z := .pointer none) Tryz.underlying519 Tryz.type519 (by kernel_rfl) Tryz.types_size (by kernel_rfl) (by kernel_rfl)
noncomputable def Tryz.ti520 : TI := TI.mk Tryz.t520.desc 1 8 [.nilFunc] false
theorem Tryz.tok520 : TIok Tryz.prog 520 Tryz.ti520 := TIok.of' (z := .nilFunc) Tryz.underlying520 Tryz.type520 (by kernel_rfl) Tryz.types_size (by kernel_rfl) (by kernel_rfl)
noncomputable def Tryz.ti521 : TI := TI.mk Tryz.t521.desc 1 8 [.nilFunc] false
theorem Tryz.tok521 : TIok Tryz.prog 521 Tryz.ti521 := TIok.of' (z := .nilFunc) Tryz.underlying521 Tryz.type521 (by kernel_rfl) Tryz.types_size (by kernel_rfl) (by kernel_rfl)
noncomputable def Tryz.ti522 : TI := TI.mk Tryz.t522.desc 1 8 [.nilFunc] false
theorem Tryz.tok522 : TIok Tryz.prog 522 Tryz.ti522 := TIok.of' (z := .nilFunc) Tryz.underlying522 Tryz.type522 (by kernel_rfl) Tryz.types_size (by kernel_rfl) (by kernel_rfl)
noncomputable def Tryz.ti523 : TI := TI.mk Tryz.t523.desc 1 8 [.nilFunc] false
theorem Tryz.tok523 : TIok Tryz.prog 523 Tryz.ti523 := TIok.of' (z := .nilFunc) Tryz.underlying523 Tryz.type523 (by kernel_rfl) Tryz.types_size (by kernel_rfl) (by kernel_rfl)
noncomputable def Tryz.ti524 : TI := TI.mk Tryz.t524.desc 1 8 [.nilFunc] false
theorem Tryz.tok524 : TIok Tryz.prog 524 Tryz.ti524 := TIok.of' (z := .nilFunc) Tryz.underlying524 Tryz.type524 (by kernel_rfl) Tryz.types_size (by kernel_rfl) (by kernel_rfl)
noncomputable def Tryz.ti525 : TI := TI.mk Tryz.t525.desc 1 8 [.nilFunc] false
theorem Tryz.tok525 : TIok Tryz.prog 525 Tryz.ti525 := TIok.of' (z := .nilFunc) Tryz.underlying525 Tryz.type525 (by kernel_rfl) Tryz.types_size (by kernel_rfl) (by kernel_rfl)
noncomputable def Tryz.ti526 : TI := TI.mk Tryz.t526.desc 1 8 [.nilFunc] false
theorem Tryz.tok526 : TIok Tryz.prog 526 Tryz.ti526 := TIok.of' (z := .nilFunc) Tryz.underlying526 Tryz.type526 (by kernel_rfl) Tryz.types_size (by kernel_rfl) (by kernel_rfl)
noncomputable def Tryz.ti527 : TI := TI.mk Tryz.t527.desc 1 24 [.slice none 0 0] false
theorem Tryz.tok527 : TIok Tryz.prog 527 Tryz.ti527 := TIok.of' (z := .slice none 0 0) Tryz.underlying527 Tryz.type527 (by kernel_rfl) Tryz.types_size (by kernel_rfl) (by kernel_rfl)
noncomputable def Tryz.ti528 : TI := TI.mk Tryz.t528.desc 2 16 [.int .i64 0, .int .i64 0] true
theorem Tryz.tok528 : TIok Tryz.prog 528 Tryz.ti528 := TIok.of' (z := .agg ⟨[.int .i64 0, .int .i64 0]⟩) Tryz.underlying528 Tryz.type528 (by kernel_rfl) Tryz.types_size (by kernel_rfl) (by kernel_rfl)
noncomputable def Tryz.ti529 : TI := TI.mk Tryz.t528.desc 2 16 [.int .i64 0, .int .i64 0] true
theorem Tryz.tok529 : TIok Tryz.prog 529 Tryz.ti529 := TIok.of' (z := .agg ⟨[.int .i64 0, .int .i64 0]⟩) Tryz.underlying529 Tryz.type529 (by kernel_rfl) Tryz.types_size (by kernel_rfl) (by kernel_rfl)
noncomputable def Tryz.ti530 : TI := TI.mk Tryz.t530.desc 1 8 [.nilFunc] false
theorem Tryz.tok530 : TIok Tryz.prog 530 Tryz.ti530 := TIok.of' (z := .nilFunc) Tryz.underlying530 Tryz.type530 (by kernel_rfl) Tryz.types_size (by kernel_rfl) (by kernel_rfl)
noncomputable def Tryz.ti531 : TI := TI.mk Tryz.t531.desc 1 8 [.pointer none] false
theorem Tryz.tok531 : TIok Tryz.prog 531 Tryz.ti531 := TIok.of' (z := .pointer none) Tryz.underlying531 Tryz.type531 (by kernel_rfl) Tryz.types_size (by kernel_rfl) (by kernel_rfl)
noncomputable def Tryz.ti532 : TI := TI.mk Tryz.t532.desc 1 8 [.pointer none] false
theorem Tryz.tok532 : TIok Tryz.prog 532 Tryz.ti532 := TIok.of' (z := .pointer none) Tryz.underlying532 Tryz.type532 (by kernel_rfl) Tryz.types_size (by kernel_rfl) (by kernel_rfl)
noncomputable def Tryz.ti533 : TI := TI.mk Tryz.t533.desc 1 8 [.nilFunc] false
theorem Tryz.tok533 : TIok Tryz.prog 533 Tryz.ti533 := TIok.of' (z := .nilFunc) Tryz.underlying533 Tryz.type533 (by kernel_rfl) Tryz.types_size (by kernel_rfl) (by kernel_rfl)
noncomputable def Tryz.ti534 : TI := TI.mk Tryz.t534.desc 1 8 [.pointer none] false
theorem Tryz.tok534 : TIok Tryz.prog 534 Tryz.ti534 := TIok.of' (z := .pointer none) Tryz.underlying534 Tryz.type534 (by kernel_rfl) Tryz.types_size (by kernel_rfl) (by kernel_rfl)
noncomputable def Tryz.ti535 : TI := TI.mk Tryz.t535.desc 1 8 [.nilFunc] false
theorem Tryz.tok535 : TIok Tryz.prog 535 Tryz.ti535 := TIok.of' (z := .nilFunc) Tryz.underlying535 Tryz.type535 (by kernel_rfl) Tryz.types_size (by kernel_rfl) (by kernel_rfl)
noncomputable def Tryz.ti536 : TI := TI.mk Tryz.t536.desc 1 8 [.pointer none] false
theorem Tryz.tok536 : TIok Tryz.prog 536 Tryz.ti536 := TIok.of' (z := .pointer none) Tryz.underlying536 Tryz.type536 (by kernel_rfl) Tryz.types_size (by kernel_rfl) (by kernel_rfl)
noncomputable def Tryz.ti537 : TI := TI.mk Tryz.t537.desc 1 8 [.nilFunc] false
theorem Tryz.tok537 : TIok Tryz.prog 537 Tryz.ti537 := TIok.of' (z := .nilFunc) Tryz.underlying537 Tryz.type537 (by kernel_rfl) Tryz.types_size (by kernel_rfl) (by kernel_rfl)
noncomputable def Tryz.ti538 : TI := TI.mk Tryz.t538.desc 1 8 [.pointer none] false
theorem Tryz.tok538 : TIok Tryz.prog 538 Tryz.ti538 := TIok.of' (z := .pointer none) Tryz.underlying538 Tryz.type538 (by kernel_rfl) Tryz.types_size (by kernel_rfl) (by kernel_rfl)
noncomputable def Tryz.ti539 : TI := TI.mk Tryz.t539.desc 1 8 [.nilFunc] false
theorem Tryz.tok539 : TIok Tryz.prog 539 Tryz.ti539 := TIok.of' (z := .nilFunc) Tryz.underlying539 Tryz.type539 (by kernel_rfl) Tryz.types_size (by kernel_rfl) (by kernel_rfl)
noncomputable def Tryz.ti541 : TI := TI.mk Tryz.t541.desc 1 8 [.pointer none] false
theorem Tryz.tok541 : TIok Tryz.prog 541 Tryz.ti541 := TIok.of' (z := .pointer none) Tryz.underlying541 Tryz.type541 (by kernel_rfl) Tryz.types_size (by kernel_rfl) (by kernel_rfl)
noncomputable def Tryz.ti545 : TI := TI.mk Tryz.t545.desc 1 8 [.pointer none] false
theorem Tryz.tok545 : TIok Tryz.prog 545 Tryz.ti545 := TIok.of' (z := .pointer none) Tryz.underlying545 Tryz.type545 (by kernel_rfl) Tryz.types_size (by kernel_rfl) (by kernel_rfl)
noncomputable def Tryz.ti547 : TI := TI.mk Tryz.t3.desc 1 8 [.int .i64 0] false
theorem Tryz.tok547 : TIok Tryz.prog 547 Tryz.ti547 := TIok.of' (z := .int .i64 0) Tryz.underlying547 Tryz.type547 (by kernel_rfl) Tryz.types_size (by kernel_rfl) (by kernel_rfl)
noncomputable def Tryz.ti549 : TI := TI.mk Tryz.t549.desc 1 8 [.nilFunc] false
theorem Tryz.tok549 : TIok Tryz.prog 549 Tryz.ti549 := TIok.of' (z := .nilFunc) Tryz.underlying549 Tryz.type549 (by kernel_rfl) Tryz.types_size (by kernel_rfl) (by kernel_rfl)
noncomputable def Tryz.ti550 : TI := TI.mk Tryz.t550.desc 1 8 [.pointer none] false
theorem Tryz.tok550 : TIok Tryz.prog 550 Tryz.ti550 := TIok.of' (z := .pointer none) Tryz.underlying550 Tryz.type550 (by kernel_rfl) Tryz.types_size (by kernel_rfl) (by kernel_rfl)
noncomputable def Tryz.ti551 : TI := TI.mk Tryz.t551.desc 1 8 [.nilFunc] false
theorem Tryz.tok551 : TIok Tryz.prog 551 Tryz.ti551 := TIok.of' (z := .nilFunc) Tryz.underlying551 Tryz.type551 (by kernel_rfl) Tryz.types_size (by kernel_rfl) (by kernel_rfl)
noncomputable def Tryz.ti552 : TI := TI.mk Tryz.t552.desc 1 8 [.nilFunc] false
theorem Tryz.tok552 : TIok Tryz.prog 552 Tryz.ti552 := TIok.of' (z := .nilFunc) Tryz.underlying552 Tryz.type552 (by kernel_rfl) Tryz.types_size (by kernel_rfl) (by kernel_rfl)
noncomputable def Tryz.ti553 : TI := TI.mk Tryz.t553.desc 1 24 [.slice none 0 0] false
theorem Tryz.tok553 : TIok Tryz.prog 553 Tryz.ti553 := TIok.of' (z := .slice none 0 0) Tryz.underlying553 Tryz.type553 (by kernel_rfl) Tryz.types_size (by kernel_rfl) (by kernel_rfl)
noncomputable def Tryz.ti554 : TI := TI.mk Tryz.t554.desc 1 24 [.slice none 0 0] false
theorem Tryz.tok554 : TIok Tryz.prog 554 Tryz.ti554 := TIok.of' (z := .slice none 0 0) Tryz.underlying554 Tryz.type554 (by kernel_rfl) Tryz.types_size (by kernel_rfl) (by kernel_rfl)
noncomputable def Tryz.ti555 : TI := TI.mk Tryz.t555.desc 3 56 [.slice none 0 0, .slice none 0 0, .int .i64 0] true
theorem Tryz.tok555 : TIok Tryz.prog 555 Tryz.ti555 := TIok.of' (z := .agg ⟨[.slice none 0 0, .slice none 0 0, .int .i64 0]⟩) Tryz.underlying555 Tryz.type555 (by kernel_rfl) Tryz.types_size (by kernel_rfl) (by kernel_rfl)
noncomputable def Tryz.ti556 : TI := TI.mk Tryz.t555.desc 3 56 [.slice none 0 0, .slice none 0 0, .int .i64 0] true
theorem Tryz.tok556 : TIok Tryz.prog 556 Tryz.ti556 := TIok.of' (z := .agg ⟨[.slice none 0 0, .slice none 0 0, .int .i64 0]⟩) Tryz.underlying556 Tryz.type556 (by kernel_rfl) Tryz.types_size (by kernel_rfl) (by kernel_rfl)
noncomputable def Tryz.ti557 : TI := TI.mk Tryz.t557.desc 1 2 [.int .u16 0] false
theorem Tryz.tok557 : TIok Tryz.prog 557 Tryz.ti557 := TIok.of' (z := .int .u16 0) Tryz.underlying557 Tryz.type557 (by kernel_rfl) Tryz.types_size (by kernel_rfl) (by kernel_rfl)
noncomputable def Tryz.ti558 : TI := TI.mk Tryz.t558.desc 3 6 [.int .u16 0, .int .u16 0, .int .u16 0] true
theorem Tryz.tok558 : TIok Tryz.prog 558 Tryz.ti558 := TIok.of' (z := .agg ⟨[.int .u16 0, .int .u16 0, .int .u16 0]⟩) Tryz.underlying558 Tryz.type558 (by kernel_rfl) Tryz.types_size (by kernel_rfl) (by kernel_rfl)
noncomputable def Tryz.ti559 : TI := TI.mk Tryz.t558.desc 3 6 [.int .u16 0, .int .u16 0, .int .u16 0] true
theorem Tryz.tok559 : TIok Tryz.prog 559 Tryz.ti559 := TIok.of' (z := .agg ⟨[.int .u16 0, .int .u16 0, .int .u16 0]⟩) Tryz.underlying559 Tryz.type559 (by kernel_rfl) Tryz.types_size (by kernel_rfl) (by kernel_rfl)
noncomputable def Tryz.ti560 : TI := TI.mk Tryz.t560.desc 1 8 [.nilFunc] false
theorem Tryz.tok560 : TIok Tryz.prog 560 Tryz.ti560 := TIok.of' (z := .nilFunc) Tryz.underlying560 Tryz.type560 (by kernel_rfl) Tryz.types_size (by kernel_rfl) (by kernel_rfl)
noncomputable def Tryz.ti561 : TI := TI.mk Tryz.t561.desc 3 12 [.int .u32 0, .int .u32 0, .int .u32 0] true
theorem Tryz.tok561 : TIok Tryz.prog 561 Tryz.ti561 := TIok.of' (z := .agg ⟨[.int .u32 0, .int .u32 0, .int .u32 0]⟩) Tryz.underlying561 Tryz.type561 (by kernel_rfl) Tryz.types_size (by kernel_rfl) (by kernel_rfl)
noncomputable def Tryz.ti562 : TI := TI.mk Tryz.t561.desc 3 12 [.int .u32 0, .int .u32 0, .int .u32 0] true
theorem Tryz.tok562 : TIok Tryz.prog 562 Tryz.ti562 := TIok.of' (z := .agg ⟨[.int .u32 0, .int .u32 0, .int .u32 0]⟩) Tryz.underlying562 Tryz.type562 (by kernel_rfl) Tryz.types_size (by kernel_rfl) (by kernel_rfl)
noncomputable def Tryz.ti563 : TI := TI.mk Tryz.t563.desc 1 8 [.nilFunc] false
theorem Tryz.tok563 : TIok Tryz.prog 563 Tryz.ti563 := TIok.of' (z := .nilFunc) Tryz.underlying563 Tryz.type563 (by kernel_rfl) Tryz.types_size (by kernel_rfl) (by kernel_rfl)
noncomputable def Tryz.ti564 : TI := TI.mk Tryz.t564.desc 32 32 [.int .u8 0, .int .u8 0, .int .u8 0, .int .u8 0, .int .u8 0, .int .u8 0, .int .u8 0, .int .u8 0, .int .u8 0, .int .u8 0, .int .u8 0, .int .u8 0, .int .u8 0, .int .u8 0, .int .u8 0, .int .u8 0, .int .u8 0, .int .u8 0, .int .u8 0, .int .u8 0, .int .u8 0, .int .u8 0, .int .u8 0, .int .u8 0, .int .u8 0, .int .u8 0, .int .u8 0, .int .u8 0, .int .u8 0, .int .u8 0, .int .u8 0, .int .u8 0] true
theorem Tryz.tok564 : TIok Tryz.prog 564 Tryz.ti564 := TIok.of' (z := .agg ⟨[.int .u8 0, .int .u8 0, .int .u8 0, .int .u8 0, .int .u8 0, .int .u8 0, .int .u8 0, .int .u8 0, .int .u8 0, .int .u8 0, .int .u8 0, .int .u8 0, .int .u8 0, .int .u8 0, .int .u8 0, .int .u8 0, .int .u8 0, .int .u8 0, .int .u8 0, .int .u8 0, .int .u8 0, .int .u8 0, .int .u8 0, .int .u8 0, .int .u8 0, .int .u8 0, .int .u8 0, .int .u8 0, .int .u8 0, .int .u8 0, .int .u8 0, .int .u8 0]⟩) Tryz.underlying564 Tryz.type564 (by kernel_rfl) Tryz.types_size (by kernel_rfl) (by kernel_rfl)
noncomputable def Tryz.ti565 : TI := TI.mk Tryz.t565.desc 64 64 [.int .u8 0, .int .u8 0, .int .u8 0, .int .u8 0, .int .u8 0, .int .u8 0, .int .u8 0, .int .u8 0, .int .u8 0, .int .u8 0, .int .u8 0, .int .u8 0, .int .u8 0, .int .u8 0, .int .u8 0, .int .u8 0, .int .u8 0, .int .u8 0, .int .u8 0, .int .u8 0, .int .u8 0, .int .u8 0, .int .u8 0, .int .u8 0, .int .u8 0, .int .u8 0, .int .u8 0, .int .u8 0, .int .u8 0, .int .u8 0, .int .u8 0, .int .u8 0, .int .u8 0, .int .u8 0, .int .u8 0, .int .u8 0, .int .u8 0, .int .u8 0, .int .u8 0, .int .u8 0, .int .u8 0, .int .u8 0, .int .u8 0, .int .u8 0, .int .u8 0, .int .u8 0, .int .u8 0, .int .u8 0, .int .u8 0, .int .u8 0, .int .u8 0, .int .u8 0, .int .u8 0, .int .u8 0, .int .u8 0, .int .u8 0, .int .u8 0, .int .u8 0, .int .u8 0, .int .u8 0, .int .u8 0, .int .u8 0, .int .u8 0, .int .u8 0] true
theorem Tryz.tok565 : TIok Tryz.prog 565 Tryz.ti565 := TIok.of' (z := .agg ⟨[.int .u8 0, .int .u8 0, .int .u8 0, .int .u8 0, .int .u8 0, .int .u8 0, .int .u8 0, .int .u8 0, .int .u8 0, .int .u8 0, .int .u8 0, .int .u8 0, .int .u8 0, .int .u8 0, .int .u8 0, .int .u8 0, .int .u8 0, .int .u8 0, .int .u8 0, .int .u8 0, .int .u8 0, .int .u8 0, .int .u8 0, .int .u8 0, .int .u8 0, .int .u8 0, .int .u8 0, .int .u8 0, .int .u8 0, .int .u8 0, .int .u8 0, .int .u8 0, .int .u8 0, .int .u8 0, .int .u8 0, .int .u8 0, .int .u8 0, .int .u8 0, .int .u8 0, .int .u8 0, .int .u8 0, .int .u8 0, .int .u8 0, .int .u8 0, .int .u8 0, .int .u8 0, .int .u8 0, .int .u8 0, .int .u8 0, .int .u8 0, .int .u8 0, .int .u8 0, .int .u8 0, .int .u8 0, .int .u8 0, .int .u8 0, .int .u8 0, .int .u8 0, .int .u8 0, .int .u8 0, .int .u8 0, .int .u8 0, .int .u8 0, .int .u8 0]⟩) Tryz.underlying565 Tryz.type565 (by kernel_rfl) Tryz.types_size (by kernel_rfl) (by kernel_rfl)
noncomputable def Tryz.ti566 : TI := TI.mk Tryz.t566.desc 1 8 [.pointer none] false
theorem Tryz.tok566 : TIok Tryz.prog 566 Tryz.ti566 := TIok.of' (z := .pointer none) Tryz.underlying566 Tryz.type566 (by kernel_rfl) Tryz.types_size (by kernel_rfl) (by kernel_rfl)
noncomputable def Tryz.ti567 : TI := TI.mk Tryz.t567.desc 1 8 [.nilFunc] false
theorem Tryz.tok567 : TIok Tryz.prog 567 Tryz.ti567 := TIok.of' (z := .nilFunc) Tryz.underlying567 Tryz.type567 (by kernel_rfl) Tryz.types_size (by kernel_rfl) (by kernel_rfl)
noncomputable def Tryz.ti568 : TI := TI.mk Tryz.t568.desc 1 8 [.nilFunc] false
theorem Tryz.tok568 : TIok Tryz.prog 568 Tryz.ti568 := TIok.of' (z := .nilFunc) Tryz.underlying568 Tryz.type568 (by kernel_rfl) Tryz.types_size (by kernel_rfl) (by kernel_rfl)
noncomputable def Tryz.ti569 : TI := TI.mk Tryz.t569.desc 1 8 [.pointer none] false
theorem Tryz.tok569 : TIok Tryz.prog 569 Tryz.ti569 := TIok.of' (z := .pointer none) Tryz.underlying569 Tryz.type569 (by kernel_rfl) Tryz.types_size (by kernel_rfl) (by kernel_rfl)
noncomputable def Tryz.ti570 : TI := TI.mk Tryz.t570.desc 1 8 [.nilFunc] false
theorem Tryz.tok570 : TIok Tryz.prog 570 Tryz.ti570 := TIok.of' (z := .nilFunc) Tryz.underlying570 Tryz.type570 (by kernel_rfl) Tryz.types_size (by kernel_rfl) (by kernel_rfl)
noncomputable def Tryz.ti571 : TI := TI.mk Tryz.t571.desc 2 24 [.pointer none, .string ⟨⟨[]⟩⟩] true
theorem Tryz.tok571 : TIok Tryz.prog 571 Tryz.ti571 := TIok.of' (z := .agg ⟨[.pointer none, .string ⟨⟨[]⟩⟩]⟩) Tryz.underlying571 Tryz.type571 (by kernel_rfl) Tryz.types_size (by kernel_rfl) (by kernel_rfl)
noncomputable def Tryz.ti572 : TI := TI.mk Tryz.t571.desc 2 24 [.pointer none, .string ⟨⟨[]⟩⟩] true
theorem Tryz.tok572 : TIok Tryz.prog 572 Tryz.ti572 := TIok.of' (z := .agg ⟨[.pointer none, .string ⟨⟨[]⟩⟩]⟩) Tryz.underlying572 Tryz.type572 (by kernel_rfl) Tryz.types_size (by kernel_rfl) (by kernel_rfl)
noncomputable def Tryz.ti573 : TI := TI.mk Tryz.t573.desc 1 8 [.pointer none] false
theorem Tryz.tok573 : TIok Tryz.prog 573 Tryz.ti573 := TIok.of' (z := .pointer none) Tryz.underlying573 Tryz.type573 (by kernel_rfl) Tryz.types_size (by kernel_rfl) (by kernel_rfl)
noncomputable def Tryz.ti574 : TI := TI.mk Tryz.t574.desc 1 24 [.slice none 0 0] false
theorem Tryz.tok574 : TIok Tryz.prog 574 Tryz.ti574 := TIok.of' (z := .slice none 0 0) Tryz.underlying574 Tryz.type574 (by kernel_rfl) Tryz.types_size (by kernel_rfl) (by kernel_rfl)
noncomputable def Tryz.ti575 : TI := TI.mk Tryz.t575.desc 5 72 [.string ⟨⟨[]⟩⟩, .int .i64 0, .string ⟨⟨[]⟩⟩, .pointer none, .slice none 0 0] true
theorem Tryz.tok575 : TIok Tryz.prog 575 Tryz.ti575 := TIok.of' (z := .agg ⟨[.string ⟨⟨[]⟩⟩, .int .i64 0, .string ⟨⟨[]⟩⟩, .pointer none, .slice none 0 0]⟩) Tryz.underlying575 Tryz.type575 (by kernel_rfl) Tryz.types_size (by kernel_rfl) (by kernel_rfl)
noncomputable def Tryz.ti576 : TI := TI.mk Tryz.t575.desc 5 72 [.string ⟨⟨[]⟩⟩, .int .i64 0, .string ⟨⟨[]⟩⟩, .pointer none, .slice none 0 0] true
theorem Tryz.tok576 : TIok Tryz.prog 576 Tryz.ti576 := TIok.of' (z := .agg ⟨[.string ⟨⟨[]⟩⟩, .int .i64 0, .string ⟨⟨[]⟩⟩, .pointer none, .slice none 0 0]⟩) Tryz.underlying576 Tryz.type576 (by kernel_rfl) Tryz.types_size (by kernel_rfl) (by kernel_rfl)
noncomputable def Tryz.ti579 : TI := TI.mk Tryz.t579.desc 1 8 [.nilFunc] false
theorem Tryz.tok579 : TIok Tryz.prog 579 Tryz.ti579 := TIok.of' (z := .nilFunc) Tryz.underlying579 Tryz.type579 (by kernel_rfl) Tryz.types_size (by kernel_rfl) (by kernel_rfl)
noncomputable def Tryz.ti580 : TI := TI.mk Tryz.t580.desc 1 8 [.nilFunc] false
theorem Tryz.tok580 : TIok Tryz.prog 580 Tryz.ti580 := TIok.of' (z := .nilFunc) Tryz.underlying580 Tryz.type580 (by kernel_rfl) Tryz.types_size (by kernel_rfl) (by kernel_rfl)
noncomputable def Tryz.ti581 : TI := TI.mk Tryz.t581.desc 1 8 [.nilFunc] false
theorem Tryz.tok581 : TIok Tryz.prog 581 Tryz.ti581 := TIok.of' (z := .nilFunc) Tryz.underlying581 Tryz.type581 (by kernel_rfl) Tryz.types_size (by kernel_rfl) (by kernel_rfl)
noncomputable def Tryz.ti582 : TI := TI.mk Tryz.t582.desc 3 48 [.string ⟨⟨[]⟩⟩, .string ⟨⟨[]⟩⟩, .nilIface] true
theorem Tryz.tok582 : TIok Tryz.prog 582 Tryz.ti582 := TIok.of' (z := .agg ⟨[.string ⟨⟨[]⟩⟩, .string ⟨⟨[]⟩⟩, .nilIface]⟩) Tryz.underlying582 Tryz.type582 (by kernel_rfl) Tryz.types_size (by kernel_rfl) (by kernel_rfl)
noncomputable def Tryz.ti583 : TI := TI.mk Tryz.t582.desc 3 48 [.string ⟨⟨[]⟩⟩, .string ⟨⟨[]⟩⟩, .nilIface] true
theorem Tryz.tok583 : TIok Tryz.prog 583 Tryz.ti583 := TIok.of' (z := .agg ⟨[.string ⟨⟨[]⟩⟩, .string ⟨⟨[]⟩⟩, .nilIface]⟩) Tryz.underlying583 Tryz.type583 (by kernel_rfl) Tryz.types_size (by kernel_rfl) (by kernel_rfl)
noncomputable def Tryz.ti584 : TI := TI.mk Tryz.t584.desc 1 8 [.nilFunc] false
theorem Tryz.tok584 : TIok Tryz.prog 584 Tryz.ti584 := TIok.of' (z := .nilFunc) Tryz.underlying584 Tryz.type584 (by kernel_rfl) Tryz.types_size (by kernel_rfl) (by kernel_rfl)
noncomputable def Tryz.ti585 : TI := TI.mk Tryz.t585.desc 1 8 [.pointer none] false
theorem Tryz.tok585 : TIok Tryz.prog 585 Tryz.ti585 := TIok.of' (z := .pointer none) Tryz.underlying585 Tryz.type585 (by kernel_rfl) Tryz.types_size (by kernel_rfl) (by kernel_rfl)
noncomputable def Tryz.ti586 : TI := TI.mk Tryz.t586.desc 1 8 [.pointer none] false
theorem Tryz.tok586 : TIok Tryz.prog 586 Tryz.ti586 := TIok.of' (z := .pointer none) Tryz.underlying586 Tryz.type586 (by kernel_rfl) Tryz.types_size (by kernel_rfl) (by kernel_rfl)
noncomputable def Tryz.ti587 : TI := TI.mk Tryz.t587.desc 1 8 [.pointer none] false
theorem Tryz.tok587 : TIok Tryz.prog 587 Tryz.ti587 := TIok.of' (z := .pointer none) Tryz.underlying587 Tryz.type587 (by kernel_rfl) Tryz.types_size (by kernel_rfl) (by kernel_rfl)
noncomputable def Tryz.ti588 : TI := TI.mk Tryz.t588.desc 1 8 [.nilFunc] false
theorem Tryz.tok588 : TIok Tryz.prog 588 Tryz.ti588 := TIok.of' (z := .nilFunc) Tryz.underlying588 Tryz.type588 (by kernel_rfl) Tryz.types_size (by kernel_rfl) (by kernel_rfl)
noncomputable def Tryz.ti589 : TI := TI.mk Tryz.t589.desc 1 8 [.pointer none] false
theorem Tryz.tok589 : TIok Tryz.prog 589 Tryz.ti589 := TIok.of' (z := .pointer none) Tryz.underlying589 Tryz.type589 (by kernel_rfl) Tryz.types_size (by kernel_rfl) (by kernel_rfl)
noncomputable def Tryz.ti590 : TI := TI.mk Tryz.t590.desc 1 8 [.nilFunc] false
theorem Tryz.tok590 : TIok Tryz.prog 590 Tryz.ti590 := TIok.of' (z := .nilFunc) Tryz.underlying590 Tryz.type590 (by kernel_rfl) Tryz.types_size (by kernel_rfl) (by kernel_rfl)
noncomputable def Tryz.ti591 : TI := TI.mk Tryz.t591.desc 1 8 [.nilFunc] false
theorem Tryz.tok591 : TIok Tryz.prog 591 Tryz.ti591 := TIok.of' (z := .nilFunc) Tryz.underlying591 Tryz.type591 (by kernel_rfl) Tryz.types_size (by kernel_rfl) (by kernel_rfl)
noncomputable def Tryz.ti592 : TI := TI.mk Tryz.t592.desc 1 8 [.nilFunc] false
theorem Tryz.tok592 : TIok Tryz.prog 592 Tryz.ti592 := TIok.of' (z := .nilFunc) Tryz.underlying592 Tryz.type592 (by kernel_rfl) Tryz.types_size (by kernel_rfl) (by kernel_rfl)
noncomputable def Tryz.ti597 : TI := TI.mk Tryz.t597.desc 1 8 [.nilFunc] false
theorem Tryz.tok597 : TIok Tryz.prog 597 Tryz.ti597 := TIok.of' (z := .nilFunc) Tryz.underlying597 Tryz.type597 (by kernel_rfl) Tryz.types_size (by kernel_rfl) (by kernel_rfl)
noncomputable def Tryz.ti598 : TI := TI.mk Tryz.t598.desc 1 8 [.pointer none] false
theorem Tryz.tok598 : TIok Tryz.prog 598 Tryz.ti598 := TIok.of' (z := .pointer none) Tryz.underlying598 Tryz.type598 (by kernel_rfl) Tryz.types_size (by kernel_rfl) (by kernel_rfl)
noncomputable def Tryz.ti599 : TI := TI.mk Tryz.t599.desc 1 16 [.string ⟨⟨[]⟩⟩] true
theorem Tryz.tok599 : TIok Tryz.prog 599 Tryz.ti599 := TIok.of' (z := .agg ⟨[.string ⟨⟨[]⟩⟩]⟩) Tryz.underlying599 Tryz.type599 (by kernel_rfl) Tryz.types_size (by kernel_rfl) (by kernel_rfl)
noncomputable def Tryz.ti600 : TI := TI.mk Tryz.t599.desc 1 16 [.string ⟨⟨[]⟩⟩] true
theorem Tryz.tok600 : TIok Tryz.prog 600 Tryz.ti600 := TIok.of' (z := .agg ⟨[.string ⟨⟨[]⟩⟩]⟩) Tryz.underlying600 Tryz.type600 (by kernel_rfl) Tryz.types_size (by kernel_rfl) (by kernel_rfl)
noncomputable def Tryz.ti601 : TI := TI.mk Tryz.t601.desc 1 8 [.nilFunc] false
theorem Tryz.tok601 : TIok Tryz.prog 601 Tryz.ti601 := TIok.of' (z := .nilFunc) Tryz.underlying601 Tryz.type601 (by kernel_rfl) Tryz.types_size (by kernel_rfl) (by kernel_rfl)
noncomputable def Tryz.ti602 : TI := TI.mk Tryz.t602.desc 1 8 [.nilFunc] false
theorem Tryz.tok602 : TIok Tryz.prog 602 Tryz.ti602 := TIok.of' (z := .nilFunc) Tryz.underlying602 Tryz.type602 (by kernel_rfl) Tryz.types_size (by kernel_rfl) (by kernel_rfl)
noncomputable def Tryz.ti603 : TI := TI.mk Tryz.t603.desc 1 8 [.nilFunc] false
theorem Tryz.tok603 : TIok Tryz.prog 603 Tryz.ti603 := TIok.of' (z := .nilFunc) Tryz.underlying603 Tryz.type603 (by kernel_rfl) Tryz.types_size (by kernel_rfl) (by kernel_rfl)
noncomputable def Tryz.ti604 : TI := TI.mk Tryz.t604.desc 4 40 [.pointer none, .pointer none, .pointer none, .string ⟨⟨[]⟩⟩] true
theorem Tryz.tok604 : TIok Tryz.prog 604 Tryz.ti604 := TIok.of' (z := .agg ⟨[.pointer none, .pointer none, .pointer none, .string ⟨⟨[]⟩⟩]⟩) Tryz.underlying604 Tryz.type604 (by kernel_rfl) Tryz.types_size (by kernel_rfl) (by kernel_rfl)
noncomputable def Tryz.ti605 : TI := TI.mk Tryz.t604.desc 4 40 [.pointer none, .pointer none, .pointer none, .string ⟨⟨[]⟩⟩] true
theorem Tryz.tok605 : TIok Tryz.prog 605 Tryz.ti605 := TIok.of' (z := .agg ⟨[.pointer none, .pointer none, .pointer none, .string ⟨⟨[]⟩⟩]⟩) Tryz.underlying605 Tryz.type605 (by kernel_rfl) Tryz.types_size (by kernel_rfl) (by kernel_rfl)
noncomputable def Tryz.ti606 : TI := TI.mk Tryz.t606.desc 0 0 [] true
theorem Tryz.tok606 : TIok Tryz.prog 606 Tryz.ti606 := TIok.of' (z := .agg ⟨[]⟩) Tryz.underlying606 Tryz.type606 (by kernel_rfl) Tryz.types_size (by kernel_rfl) (by kernel_rfl)
noncomputable def Tryz.ti607 : TI := TI.mk Tryz.t607.desc 0 0 [] true
theorem Tryz.tok607 : TIok Tryz.prog 607 Tryz.ti607 := TIok.of' (z := .agg ⟨[]⟩) Tryz.underlying607 Tryz.type607 (by kernel_rfl) Tryz.types_size (by kernel_rfl) (by kernel_rfl)
noncomputable def Tryz.ti608 : TI := TI.mk Tryz.t607.desc 0 0 [] true
theorem Tryz.tok608 : TIok Tryz.prog 608 Tryz.ti608 := TIok.of' (z := .agg ⟨[]⟩) Tryz.underlying608 Tryz.type608 (by kernel_rfl) Tryz.types_size (by kernel_rfl) (by kernel_rfl)
noncomputable def Tryz.ti609 : TI := TI.mk Tryz.t5.desc 1 1 [.int .u8 0] false
theorem Tryz.tok609 : TIok Tryz.prog 609 Tryz.ti609 := TIok.of' (z := .int .u8 0) Tryz.underlying609 Tryz.type609 (by kernel_rfl) Tryz.types_size (by kernel_rfl) (by kernel_rfl)
noncomputable def Tryz.ti610 : TI := TI.mk Tryz.t5.desc 1 1 [.int .u8 0] false
theorem Tryz.tok610 : TIok Tryz.prog 610 Tryz.ti610 := TIok.of' (z := .int .u8 0) Tryz.underlying610 Tryz.type610 (by kernel_rfl) Tryz.types_size (by kernel_rfl) (by kernel_rfl)
noncomputable def Tryz.ti611 : TI := TI.mk Tryz.t611.desc 1 8 [.nilFunc] false
theorem Tryz.tok611 : TIok Tryz.prog 611 Tryz.ti611 := TIok.of' (z := .nilFunc) Tryz.underlying611 Tryz.type611 (by kernel_rfl) Tryz.types_size (by kernel_rfl) (by kernel_rfl)
noncomputable def Tryz.ti612 : TI := TI.mk Tryz.t21.desc 1 4 [.int .i32 0] false
theorem Tryz.tok612 : TIok Tryz.prog 612 Tryz.ti612 := TIok.of' (z := .int .i32 0) Tryz.underlying612 Tryz.type612 (by kernel_rfl) Tryz.types_size (by kernel_rfl) (by kernel_rfl)
noncomputable def Tryz.ti613 : TI := TI.mk Tryz.t21.desc 1 4 [.int .i32 0] false
theorem Tryz.tok613 : TIok Tryz.prog 613 Tryz.ti613 := TIok.of' (z := .int .i32 0) Tryz.underlying613 Tryz.type613 (by kernel_rfl) Tryz.types_size (by kernel_rfl) (by kernel_rfl)
noncomputable def Tryz.ti614 : TI := TI.mk Tryz.t614.desc 11 48 [.int .u64 0, .int .u64 0, .int .u32 0, .int .u8 0, .int .u8 0, .int .u8 0, .int .u8 0, .nilFunc, .pointer none, .int .i32 0, .int .i32 0] true
theorem Tryz.tok614 : TIok Tryz.prog 614 Tryz.ti614 := TIok.of' (z := .agg ⟨[.int .u64 0, .int .u64 0, .int .u32 0, .int .u8 0, .int .u8 0, .int .u8 0, .int .u8 0, .nilFunc, .pointer none, .int .i32 0, .int .i32 0]⟩) Tryz.underlying614 Tryz.type614 (by kernel_rfl) Tryz.types_size (by kernel_rfl) (by kernel_rfl)
noncomputable def Tryz.ti615 : TI := TI.mk Tryz.t614.desc 11 48 [.int .u64 0, .int .u64 0, .int .u32 0, .int .u8 0, .int .u8 0, .int .u8 0, .int .u8 0, .nilFunc, .pointer none, .int .i32 0, .int .i32 0] true
theorem Tryz.tok615 : TIok Tryz.prog 615 Tryz.ti615 := TIok.of' (z := .agg ⟨[.int .u64 0, .int .u64 0, .int .u32 0, .int .u8 0, .int .u8 0, .int .u8 0, .int .u8 0, .nilFunc, .pointer none, .int .i32 0, .int .i32 0]⟩) Tryz.underlying615 Tryz.type615 (by kernel_rfl) Tryz.types_size (by kernel_rfl) (by kernel_rfl)
noncomputable def Tryz.ti616 : TI := TI.mk Tryz.t616.desc 1 8 [.nilFunc] false
theorem Tryz.tok616 : TIok Tryz.prog 616 Tryz.ti616 := TIok.of' (z := .nilFunc) Tryz.underlying616 Tryz.type616 (by kernel_rfl) Tryz.types_size (by kernel_rfl) (by kernel_rfl)
noncomputable def Tryz.ti617 : TI := TI.mk Tryz.t617.desc 1 8 [.nilFunc] false
theorem Tryz.tok617 : TIok Tryz.prog 617 Tryz.ti617 := TIok.of' (z := .nilFunc) Tryz.underlying617 Tryz.type617 (by kernel_rfl) Tryz.types_size (by kernel_rfl) (by kernel_rfl)
noncomputable def Tryz.ti618 : TI := TI.mk Tryz.t177.desc 1 24 [.slice none 0 0] false
theorem Tryz.tok618 : TIok Tryz.prog 618 Tryz.ti618 := TIok.of' (z := .slice none 0 0) Tryz.underlying618 Tryz.type618 (by kernel_rfl) Tryz.types_size (by kernel_rfl) (by kernel_rfl)
noncomputable def Tryz.ti619 : TI := TI.mk Tryz.t619.desc 1 8 [.pointer none] false
theorem Tryz.tok619 : TIok Tryz.prog 619 Tryz.ti619 := TIok.of' (z := .pointer none) Tryz.underlying619 Tryz.type619 (by kernel_rfl) Tryz.types_size (by kernel_rfl) (by kernel_rfl)
noncomputable def Tryz.ti620 : TI := TI.mk Tryz.t620.desc 1 16 [.nilIface] false
theorem Tryz.tok620 : TIok Tryz.prog 620 Tryz.ti620 := TIok.of' (z := .nilIface) Tryz.underlying620 Tryz.type620 (by kernel_rfl) Tryz.types_size (by kernel_rfl) (by kernel_rfl)
noncomputable def Tryz.ti621 : TI := TI.mk Tryz.t620.desc 1 16 [.nilIface] false
theorem Tryz.tok621 : TIok Tryz.prog 621 Tryz.ti621 := TIok.of' (z := .nilIface) Tryz.underlying621 Tryz.type621 (by kernel_rfl) Tryz.types_size (by kernel_rfl) (by kernel_rfl)
noncomputable def Tryz.ti622 : TI := TI.mk Tryz.t622.desc 1 16 [.nilIface] false
theorem Tryz.tok622 : TIok Tryz.prog 622 Tryz.ti622 := TIok.of' (z := .nilIface) Tryz.underlying622 Tryz.type622 (by kernel_rfl) Tryz.types_size (by kernel_rfl) (by kernel_rfl)
noncomputable def Tryz.ti623 : TI := TI.mk Tryz.t622.desc 1 16 [.nilIface] false
theorem Tryz.tok623 : TIok Tryz.prog 623 Tryz.ti623 := TIok.of' (z := .nilIface) Tryz.underlying623 Tryz.type623 (by kernel_rfl) Tryz.types_size (by kernel_rfl) (by kernel_rfl)
noncomputable def Tryz.ti624 : TI := TI.mk Tryz.t624.desc 1 8 [.nilFunc] false
theorem Tryz.tok624 : TIok Tryz.prog 624 Tryz.ti624 := TIok.of' (z := .nilFunc) Tryz.underlying624 Tryz.type624 (by kernel_rfl) Tryz.types_size (by kernel_rfl) (by kernel_rfl)
noncomputable def Tryz.ti626 : TI := TI.mk Tryz.t626.desc 1 8 [.nilFunc] false
theorem Tryz.tok626 : TIok Tryz.prog 626 Tryz.ti626 := TIok.of' (z := .nilFunc) Tryz.underlying626 Tryz.type626 (by kernel_rfl) Tryz.types_size (by kernel_rfl) (by kernel_rfl)
noncomputable def Tryz.ti628 : TI := TI.mk Tryz.t628.desc 1 16 [.nilIface] true
theorem Tryz.tok628 : TIok Tryz.prog 628 Tryz.ti628 := TIok.of' (z := .agg ⟨[.nilIface]⟩) Tryz.underlying628 Tryz.type628 (by kernel_rfl) Tryz.types_size (by kernel_rfl) (by kernel_rfl)
noncomputable def Tryz.ti629 : TI := TI.mk Tryz.t628.desc 1 16 [.nilIface] true
theorem Tryz.tok629 : TIok Tryz.prog 629 Tryz.ti629 := TIok.of' (z := .agg ⟨[.nilIface]⟩) Tryz.underlying629 Tryz.type629 (by kernel_rfl) Tryz.types_size (by kernel_rfl) (by kernel_rfl)
noncomputable def Tryz.ti630 : TI := TI.mk Tryz.t630.desc 1 8 [.nilFunc] false
theorem Tryz.tok630 : TIok Tryz.prog 630 Tryz.ti630 := TIok.of' (z := .nilFunc) Tryz.underlying630 Tryz.type630 (by kernel_rfl) Tryz.types_size (by kernel_rfl) (by kernel_rfl)
theorem Tryz.fok3 : FnOk Tryz.prog 3 Tryz.f3 := FnOk.of Tryz.func3 (by kernel_rfl) (by kernel_rfl)
theorem Tryz.fok4 : FnOk Tryz.prog 4 Tryz.f4 := FnOk.of Tryz.func4 (by kernel_rfl) (by kernel_rfl)
theorem Tryz.fok5 : FnOk Tryz.prog 5 Tryz.f5 := FnOk.of Tryz.func5 (by kernel_rfl) (by kernel_rfl)
theorem Tryz.fok6 : FnOk Tryz.prog 6 Tryz.f6 := FnOk.of Tryz.func6 (by kernel_rfl) (by kernel_rfl)
theorem Tryz.fok7 : FnOk Tryz.prog 7 Tryz.f7 := FnOk.of Tryz.func7 (by kernel_rfl) (by kernel_rfl)
theorem Tryz.fok8 : FnOk Tryz.prog 8 Tryz.f8 := FnOk.of Tryz.func8 (by kernel_rfl) (by kernel_rfl)
theorem Tryz.fok9 : FnOk Tryz.prog 9 Tryz.f9 := FnOk.of Tryz.func9 (by kernel_rfl) (by kernel_rfl)
theorem Tryz.fok10 : FnOk Tryz.prog 10 Tryz.f10 := FnOk.of Tryz.func10 (by kernel_rfl) (by kernel_rfl)
theorem Tryz.fok11 : FnOk Tryz.prog 11 Tryz.f11 := FnOk.of Tryz.func11 (by kernel_rfl) (by kernel_rfl)
theorem Tryz.fok12 : FnOk Tryz.prog 12 Tryz.f12 := FnOk.of Tryz.func12 (by kernel_rfl) (by kernel_rfl)
theorem Tryz.fok13 : FnOk Tryz.prog 13 Tryz.f13 := FnOk.of Tryz.func13 (by kernel_rfl) (by kernel_rfl)
theorem Tryz.fok14 : FnOk Tryz.prog 14 Tryz.f14 := FnOk.of Tryz.func14 (by kernel_rfl) (by kernel_rfl)
theorem Tryz.fok15 : FnOk Tryz.prog 15 Tryz.f15 := FnOk.of Tryz.func15 (by kernel_rfl) (by kernel_rfl)
theorem Tryz.fok16 : FnOk Tryz.prog 16 Tryz.f16 := FnOk.of Tryz.func16 (by kernel_rfl) (by kernel_rfl)
theorem Tryz.fok17 : FnOk Tryz.prog 17 Tryz.f17 := FnOk.of Tryz.func17 (by kernel_rfl) (by kernel_rfl)
theorem Tryz.fok19 : FnOk Tryz.prog 19 Tryz.f19 := FnOk.of Tryz.func19 (by kernel_rfl) (by kernel_rfl)
theorem Tryz.fok22 : FnOk Tryz.prog 22 Tryz.f22 := FnOk.of Tryz.func22 (by kernel_rfl) (by kernel_rfl)
theorem Tryz.fok23 : FnOk Tryz.prog 23 Tryz.f23 := FnOk.of Tryz.func23 (by kernel_rfl) (by kernel_rfl)
theorem Tryz.fok24 : FnOk Tryz.prog 24 Tryz.f24 := FnOk.of Tryz.func24 (by kernel_rfl) (by kernel_rfl)
theorem Tryz.fok26 : FnOk Tryz.prog 26 Tryz.f26 := FnOk.of Tryz.func26 (by kernel_rfl) (by kernel_rfl)
theorem Tryz.fok27 : FnOk Tryz.prog 27 Tryz.f27 := FnOk.of Tryz.func27 (by kernel_rfl) (by kernel_rfl)
theorem Tryz.fok28 : FnOk Tryz.prog 28 Tryz.f28 := FnOk.of Tryz.func28 (by kernel_rfl) (by kernel_rfl)
theorem Tryz.fok34 : FnOk Tryz.prog 34 Tryz.f34 := FnOk.of Tryz.func34 (by kernel_rfl) (by kernel_rfl)
theorem Tryz.fok35 : FnOk Tryz.prog 35 Tryz.f35 := FnOk.of Tryz.func35 (by kernel_rfl) (by kernel_rfl)
theorem Tryz.fok36 : FnOk Tryz.prog 36 Tryz.f36 := FnOk.of Tryz.func36 (by kernel_rfl) (by kernel_rfl)
theorem Tryz.fok37 : FnOk Tryz.prog 37 Tryz.f37 := FnOk.of Tryz.func37 (by kernel_rfl) (by kernel_rfl)
theorem Tryz.fok38 : FnOk Tryz.prog 38 Tryz.f38 := FnOk.of Tryz.func38 (by kernel_rfl) (by kernel_rfl)
theorem Tryz.fok39 : FnOk Tryz.prog 39 Tryz.f39 := FnOk.of Tryz.func39 (by kernel_rfl) (by kernel_rfl)
theorem Tryz.fok40 : FnOk Tryz.prog 40 Tryz.f40 := FnOk.of Tryz.func40 (by kernel_rfl) (by kernel_rfl)
theorem Tryz.fok43 : FnOk Tryz.prog 43 Tryz.f43 := FnOk.of Tryz.func43 (by kernel_rfl) (by kernel_rfl)
theorem Tryz.fok44 : FnOk Tryz.prog 44 Tryz.f44 := FnOk.of Tryz.func44 (by kernel_rfl) (by kernel_rfl)
theorem Tryz.fok45 : FnOk Tryz.prog 45 Tryz.f45 := FnOk.of Tryz.func45 (by kernel_rfl) (by kernel_rfl)
theorem Tryz.fok46 : FnOk Tryz.prog 46 Tryz.f46 := FnOk.of Tryz.func46 (by kernel_rfl) (by kernel_rfl)
theorem Tryz.fok47 : FnOk Tryz.prog 47 Tryz.f47 := FnOk.of Tryz.func47 (by kernel_rfl) (by kernel_rfl)
theorem Tryz.fok49 : FnOk Tryz.prog 49 Tryz.f49 := FnOk.of Tryz.func49 (by kernel_rfl) (by kernel_rfl)
theorem Tryz.fok51 : FnOk Tryz.prog 51 Tryz.f51 := FnOk.of Tryz.func51 (by kernel_rfl) (by kernel_rfl)
theorem Tryz.fok52 : FnOk Tryz.prog 52 Tryz.f52 := FnOk.of Tryz.func52 (by kernel_rfl) (by kernel_rfl)
theorem Tryz.fok54 : FnOk Tryz.prog 54 Tryz.f54 := FnOk.of Tryz.func54 (by kernel_rfl) (by kernel_rfl)
theorem Tryz.fok56 : FnOk Tryz.prog 56 Tryz.f56 := FnOk.of Tryz.func56 (by kernel_rfl) (by kernel_rfl)
theorem Tryz.fok64 : FnOk Tryz.prog 64 Tryz.f64 := FnOk.of Tryz.func64 (by kernel_rfl) (by kernel_rfl)
theorem Tryz.fok65 : FnOk Tryz.prog 65 Tryz.f65 := FnOk.of Tryz.func65 (by kernel_rfl) (by kernel_rfl)
theorem Tryz.fok66 : FnOk Tryz.prog 66 Tryz.f66 := FnOk.of Tryz.func66 (by kernel_rfl) (by kernel_rfl)
theorem Tryz.fok69 : FnOk Tryz.prog 69 Tryz.f69 := FnOk.of Tryz.func69 (by kernel_rfl) (by kernel_rfl)
theorem Tryz.fok70 : FnOk Tryz.prog 70 Tryz.f70 := FnOk.of Tryz.func70 (by kernel_rfl) (by kernel_rfl)
theorem Tryz.fok71 : FnOk Tryz.prog 71 Tryz.f71 := FnOk.of Tryz.func71 (by kernel_rfl) (by kernel_rfl)
theorem Tryz.fok72 : FnOk Tryz.prog 72 Tryz.f72 := FnOk.of Tryz.func72 (by kernel_rfl) (by kernel_rfl)
theorem Tryz.fok73 : FnOk Tryz.prog 73 Tryz.f73 := FnOk.of Tryz.func73 (by kernel_rfl) (by kernel_rfl)
theorem Tryz.fok74 : FnOk Tryz.prog 74 Tryz.f74 := FnOk.of Tryz.func74 (by kernel_rfl) (by kernel_rfl)
theorem Tryz.fok75 : FnOk Tryz.prog 75 Tryz.f75 := FnOk.of Tryz.func75 (by kernel_rfl) (by kernel_rfl)
theorem Tryz.fok76 : FnOk Tryz.prog 76 Tryz.f76 := FnOk.of Tryz.func76 (by kernel_rfl) (by kernel_rfl)
theorem Tryz.fok77 : FnOk Tryz.prog 77 Tryz.f77 := FnOk.of Tryz.func77 (by kernel_rfl) (by kernel_rfl)
theorem Tryz.fok78 : FnOk Tryz.prog 78 Tryz.f78 := FnOk.of Tryz.func78 (by kernel_rfl) (by kernel_rfl)
theorem Tryz.fok79 : FnOk Tryz.prog 79 Tryz.f79 := FnOk.of Tryz.func79 (by kernel_rfl) (by kernel_rfl)
theorem Tryz.fok80 : FnOk Tryz.prog 80 Tryz.f80 := FnOk.of Tryz.func80 (by kernel_rfl) (by kernel_rfl)
theorem Tryz.fok82 : FnOk Tryz.prog 82 Tryz.f82 := FnOk.of Tryz.func82 (by kernel_rfl) (by kernel_rfl)
theorem Tryz.fok85 : FnOk Tryz.prog 85 Tryz.f85 := FnOk.of Tryz.func85 (by kernel_rfl) (by kernel_rfl)
theorem Tryz.fok86 : FnOk Tryz.prog 86 Tryz.f86 := FnOk.of Tryz.func86 (by kernel_rfl) (by kernel_rfl)
theorem Tryz.fok87 : FnOk Tryz.prog 87 Tryz.f87 := FnOk.of Tryz.func87 (by kernel_rfl) (by kernel_rfl)
theorem Tryz.fok88 : FnOk Tryz.prog 88 Tryz.f88 := FnOk.of Tryz.func88 (by kernel_rfl) (by kernel_rfl)
theorem Tryz.fok90 : FnOk Tryz.prog 90 Tryz.f90 := FnOk.of Tryz.func90 (by kernel_rfl) (by kernel_rfl)
theorem Tryz.fok95 : FnOk Tryz.prog 95 Tryz.f95 := FnOk.of Tryz.func95 (by kernel_rfl) (by kernel_rfl)
theorem Tryz.fok96 : FnOk Tryz.prog 96 Tryz.f96 := FnOk.of Tryz.func96 (by kernel_rfl) (by kernel_rfl)
theorem Tryz.fok97 : FnOk Tryz.prog 97 Tryz.f97 := FnOk.of Tryz.func97 (by kernel_rfl) (by kernel_rfl)
theorem Tryz.fok98 : FnOk Tryz.prog 98 Tryz.f98 := FnOk.of Tryz.func98 (by kernel_rfl) (by kernel_rfl)
theorem Tryz.fok99 : FnOk Tryz.prog 99 Tryz.f99 := FnOk.of Tryz.func99 (by kernel_rfl) (by kernel_rfl)
theorem Tryz.fok100 : FnOk Tryz.prog 100 Tryz.f100 := FnOk.of Tryz.func100 (by kernel_rfl) (by kernel_rfl)
theorem Tryz.fok101 : FnOk Tryz.prog 101 Tryz.f101 := FnOk.of Tryz.func101 (by kernel_rfl) (by kernel_rfl)
theorem Tryz.fok102 : FnOk Tryz.prog 102 Tryz.f102 := FnOk.of Tryz.func102 (by kernel_rfl) (by kernel_rfl)
theorem Tryz.fok103 : FnOk Tryz.prog 103 Tryz.f103 := FnOk.of Tryz.func103 (by kernel_rfl) (by kernel_rfl)
theorem Tryz.fok104 : FnOk Tryz.prog 104 Tryz.f104 := FnOk.of Tryz.func104 (by kernel_rfl) (by kernel_rfl)
theorem Tryz.fok105 : FnOk Tryz.prog 105 Tryz.f105 := FnOk.of Tryz.func105 (by kernel_rfl) (by kernel_rfl)
theorem Tryz.fok107 : FnOk Tryz.prog 107 Tryz.f107 := FnOk.of Tryz.func107 (by kernel_rfl) (by kernel_rfl)
theorem Tryz.fok108 : FnOk Tryz.prog 108 Tryz.f108 := FnOk.of Tryz.func108 (by kernel_rfl) (by kernel_rfl)
theorem Tryz.fok109 : FnOk Tryz.prog 109 Tryz.f109 := FnOk.of Tryz.func109 (by kernel_rfl) (by kernel_rfl)
theorem Tryz.fok110 : FnOk Tryz.prog 110 Tryz.f110 := FnOk.of Tryz.func110 (by kernel_rfl) (by kernel_rfl)
theorem Tryz.fok111 : FnOk Tryz.prog 111 Tryz.f111 := FnOk.of Tryz.func111 (by kernel_rfl) (by kernel_rfl)
theorem Tryz.fok112 : FnOk Tryz.prog 112 Tryz.f112 := FnOk.of Tryz.func112 (by kernel_rfl) (by kernel_rfl)
theorem Tryz.fok114 : FnOk Tryz.prog 114 Tryz.f114 := FnOk.of Tryz.func114 (by kernel_rfl) (by kernel_rfl)
theorem Tryz.fok115 : FnOk Tryz.prog 115 Tryz.f115 := FnOk.of Tryz.func115 (by kernel_rfl) (by kernel_rfl)
theorem Tryz.fok116 : FnOk Tryz.prog 116 Tryz.f116 := FnOk.of Tryz.func116 (by kernel_rfl) (by kernel_rfl)
theorem Tryz.fok117 : FnOk Tryz.prog 117 Tryz.f117 := FnOk.of Tryz.func117 (by kernel_rfl) (by kernel_rfl)
theorem Tryz.fok118 : FnOk Tryz.prog 118 Tryz.f118 := FnOk.of Tryz.func118 (by kernel_rfl) (by kernel_rfl)
theorem Tryz.fok119 : FnOk Tryz.prog 119 Tryz.f119 := FnOk.of Tryz.func119 (by kernel_rfl) (by kernel_rfl)
theorem Tryz.fok124 : FnOk Tryz.prog 124 Tryz.f124 := FnOk.of Tryz.func124 (by kernel_rfl) (by kernel_rfl)
theorem Tryz.fok125 : FnOk Tryz.prog 125 Tryz.f125 := FnOk.of Tryz.func125 (by kernel_rfl) (by kernel_rfl)
theorem Tryz.fok128 : FnOk Tryz.prog 128 Tryz.f128 := FnOk.of Tryz.func128 (by kernel_rfl) (by kernel_rfl)
theorem Tryz.fok129 : FnOk Tryz.prog 129 Tryz.f129 := FnOk.of Tryz.func129 (by kernel_rfl) (by kernel_rfl)
theorem Tryz.fok131 : FnOk Tryz.prog 131 Tryz.f131 := FnOk.of Tryz.func131 (by kernel_rfl) (by kernel_rfl)
theorem Tryz.fok132 : FnOk Tryz.prog 132 Tryz.f132 := FnOk.of Tryz.func132 (by kernel_rfl) (by kernel_rfl)
theorem Tryz.fok133 : FnOk Tryz.prog 133 Tryz.f133 := FnOk.of Tryz.func133 (by kernel_rfl) (by kernel_rfl)
theorem Tryz.fok136 : FnOk Tryz.prog 136 Tryz.f136 := FnOk.of Tryz.func136 (by kernel_rfl) (by kernel_rfl)
theorem Tryz.fok137 : FnOk Tryz.prog 137 Tryz.f137 := FnOk.of Tryz.func137 (by kernel_rfl) (by kernel_rfl)
theorem Tryz.fok138 : FnOk Tryz.prog 138 Tryz.f138 := FnOk.of Tryz.func138 (by kernel_rfl) (by kernel_rfl)
theorem Tryz.fok139 : FnOk Tryz.prog 139 Tryz.f139 := FnOk.of Tryz.func139 (by kernel_rfl) (by kernel_rfl)
theorem Tryz.fok140 : FnOk Tryz.prog 140 Tryz.f140 := FnOk.of Tryz.func140 (by kernel_rfl) (by kernel_rfl)
theorem Tryz.fok141 : FnOk Tryz.prog 141 Tryz.f141 := FnOk.of Tryz.func141 (by kernel_rfl) (by kernel_rfl)
theorem Tryz.fok144 : FnOk Tryz.prog 144 Tryz.f144 := FnOk.of Tryz.func144 (by kernel_rfl) (by kernel_rfl)
theorem Tryz.fok145 : FnOk Tryz.prog 145 Tryz.f145 := FnOk.of Tryz.func145 (by kernel_rfl) (by kernel_rfl)
theorem Tryz.fok146 : FnOk Tryz.prog 146 Tryz.f146 := FnOk.of Tryz.func146 (by kernel_rfl) (by kernel_rfl)
theorem Tryz.fok147 : FnOk Tryz.prog 147 Tryz.f147 := FnOk.of Tryz.func147 (by kernel_rfl) (by kernel_rfl)
theorem Tryz.fok148 : FnOk Tryz.prog 148 Tryz.f148 := FnOk.of Tryz.func148 (by kernel_rfl) (by kernel_rfl)
theorem Tryz.fok149 : FnOk Tryz.prog 149 Tryz.f149 := FnOk.of Tryz.func149 (by kernel_rfl) (by kernel_rfl)
theorem Tryz.fok150 : FnOk Tryz.prog 150 Tryz.f150 := FnOk.of Tryz.func150 (by kernel_rfl) (by kernel_rfl)
theorem Tryz.fok151 : FnOk Tryz.prog 151 Tryz.f151 := FnOk.of Tryz.func151 (by kernel_rfl) (by kernel_rfl)
theorem Tryz.fok152 : FnOk Tryz.prog 152 Tryz.f152 := FnOk.of Tryz.func152 (by kernel_rfl) (by kernel_rfl)
theorem Tryz.fok153 : FnOk Tryz.prog 153 Tryz.f153 := FnOk.of Tryz.func153 (by kernel_rfl) (by kernel_rfl)
theorem Tryz.fok154 : FnOk Tryz.prog 154 Tryz.f154 := FnOk.of Tryz.func154 (by kernel_rfl) (by kernel_rfl)
theorem Tryz.fok155 : FnOk Tryz.prog 155 Tryz.f155 := FnOk.of Tryz.func155 (by kernel_rfl) (by kernel_rfl)
theorem Tryz.fok156 : FnOk Tryz.prog 156 Tryz.f156 := FnOk.of Tryz.func156 (by kernel_rfl) (by kernel_rfl)
theorem Tryz.fok157 : FnOk Tryz.prog 157 Tryz.f157 := FnOk.of Tryz.func157 (by kernel_rfl) (by kernel_rfl)
theorem Tryz.fok159 : FnOk Tryz.prog 159 Tryz.f159 := FnOk.of Tryz.func159 (by kernel_rfl) (by kernel_rfl)
theorem Tryz.fok160 : FnOk Tryz.prog 160 Tryz.f160 := FnOk.of Tryz.func160 (by kernel_rfl) (by kernel_rfl)
theorem Tryz.fok161 : FnOk Tryz.prog 161 Tryz.f161 := FnOk.of Tryz.func161 (by kernel_rfl) (by kernel_rfl)
theorem Tryz.fok164 : FnOk Tryz.prog 164 Tryz.f164 := FnOk.of Tryz.func164 (by kernel_rfl) (by kernel_rfl)
theorem Tryz.fok165 : FnOk Tryz.prog 165 Tryz.f165 := FnOk.of Tryz.func165 (by kernel_rfl) (by kernel_rfl)
theorem Tryz.fok171 : FnOk Tryz.prog 171 Tryz.f171 := FnOk.of Tryz.func171 (by kernel_rfl) (by kernel_rfl)
theorem Tryz.fok175 : FnOk Tryz.prog 175 Tryz.f175 := FnOk.of Tryz.func175 (by kernel_rfl) (by kernel_rfl)
theorem Tryz.fok176 : FnOk Tryz.prog 176 Tryz.f176 := FnOk.of Tryz.func176 (by kernel_rfl) (by kernel_rfl)
theorem Tryz.fok177 : FnOk Tryz.prog 177 Tryz.f177 := FnOk.of Tryz.func177 (by kernel_rfl) (by kernel_rfl)
theorem Tryz.fok178 : FnOk Tryz.prog 178 Tryz.f178 := FnOk.of Tryz.func178 (by kernel_rfl) (by kernel_rfl)
theorem Tryz.fok181 : FnOk Tryz.prog 181 Tryz.f181 := FnOk.of Tryz.func181 (by kernel_rfl) (by kernel_rfl)
theorem Tryz.fok183 : FnOk Tryz.prog 183 Tryz.f183 := FnOk.of Tryz.func183 (by kernel_rfl) (by kernel_rfl)
theorem Tryz.fok184 : FnOk Tryz.prog 184 Tryz.f184 := FnOk.of Tryz.func184 (by kernel_rfl) (by kernel_rfl)
theorem Tryz.fok185 : FnOk Tryz.prog 185 Tryz.f185 := FnOk.of Tryz.func185 (by kernel_rfl) (by kernel_rfl)
theorem Tryz.fok188 : FnOk Tryz.prog 188 Tryz.f188 := FnOk.of Tryz.func188 (by kernel_rfl) (by kernel_rfl)
theorem Tryz.fok189 : FnOk Tryz.prog 189 Tryz.f189 := FnOk.of Tryz.func189 (by kernel_rfl) (by kernel_rfl)
theorem Tryz.fok190 : FnOk Tryz.prog 190 Tryz.f190 := FnOk.of Tryz.func190 (by kernel_rfl) (by kernel_rfl)
theorem Tryz.fok191 : FnOk Tryz.prog 191 Tryz.f191 := FnOk.of Tryz.func191 (by kernel_rfl) (by kernel_rfl)
theorem Tryz.fok192 : FnOk Tryz.prog 192 Tryz.f192 := FnOk.of Tryz.func192 (by kernel_rfl) (by kernel_rfl)
theorem Tryz.fok193 : FnOk Tryz.prog 193 Tryz.f193 := FnOk.of Tryz.func193 (by kernel_rfl) (by kernel_rfl)
theorem Tryz.fok194 : FnOk Tryz.prog 194 Tryz.f194 := FnOk.of Tryz.func194 (by kernel_rfl) (by kernel_rfl)
theorem Tryz.fok195 : FnOk Tryz.prog 195 Tryz.f195 := FnOk.of Tryz.func195 (by kernel_rfl) (by kernel_rfl)
theorem Tryz.fok196 : FnOk Tryz.prog 196 Tryz.f196 := FnOk.of Tryz.func196 (by kernel_rfl) (by kernel_rfl)
theorem Tryz.fok197 : FnOk Tryz.prog 197 Tryz.f197 := FnOk.of Tryz.func197 (by kernel_rfl) (by kernel_rfl)
theorem Tryz.fok198 : FnOk Tryz.prog 198 Tryz.f198 := FnOk.of Tryz.func198 (by kernel_rfl) (by kernel_rfl)
theorem Tryz.fok199 : FnOk Tryz.prog 199 Tryz.f199 := FnOk.of Tryz.func199 (by kernel_rfl) (by kernel_rfl)
theorem Tryz.fok201 : FnOk Tryz.prog 201 Tryz.f201 := FnOk.of Tryz.func201 (by kernel_rfl) (by kernel_rfl)
theorem Tryz.fok202 : FnOk Tryz.prog 202 Tryz.f202 := FnOk.of Tryz.func202 (by kernel_rfl) (by kernel_rfl)
theorem Tryz.fok210 : FnOk Tryz.prog 210 Tryz.f210 := FnOk.of Tryz.func210 (by kernel_rfl) (by kernel_rfl)
theorem Tryz.fok211 : FnOk Tryz.prog 211 Tryz.f211 := FnOk.of Tryz.func211 (by kernel_rfl) (by kernel_rfl)
theorem Tryz.fok212 : FnOk Tryz.prog 212 Tryz.f212 := FnOk.of Tryz.func212 (by kernel_rfl) (by kernel_rfl)
theorem Tryz.fok213 : FnOk Tryz.prog 213 Tryz.f213 := FnOk.of Tryz.func213 (by kernel_rfl) (by kernel_rfl)
theorem Tryz.fok215 : FnOk Tryz.prog 215 Tryz.f215 := FnOk.of Tryz.func215 (by kernel_rfl) (by kernel_rfl)
theorem Tryz.fok217 : FnOk Tryz.prog 217 Tryz.f217 := FnOk.noEscape Tryz.func217 (by kernel_rfl) (by kernel_rfl) (by kernel_rfl) (by kernel_rfl)
theorem Tryz.fok218 : FnOk Tryz.prog 218 Tryz.f218 := FnOk.of Tryz.func218 (by kernel_rfl) (by kernel_rfl)
theorem Tryz.fok221 : FnOk Tryz.prog 221 Tryz.f221 := FnOk.of Tryz.func221 (by kernel_rfl) (by kernel_rfl)
theorem Tryz.fok227 : FnOk Tryz.prog 227 Tryz.f227 := FnOk.of Tryz.func227 (by kernel_rfl) (by kernel_rfl)
theorem Tryz.fok228 : FnOk Tryz.prog 228 Tryz.f228 := FnOk.of Tryz.func228 (by kernel_rfl) (by kernel_rfl)
theorem Tryz.fok229 : FnOk Tryz.prog 229 Tryz.f229 := FnOk.of Tryz.func229 (by kernel_rfl) (by kernel_rfl)
theorem Tryz.fok231 : FnOk Tryz.prog 231 Tryz.f231 := FnOk.of Tryz.func231 (by kernel_rfl) (by kernel_rfl)
theorem Tryz.fok232 : FnOk Tryz.prog 232 Tryz.f232 := FnOk.of Tryz.func232 (by kernel_rfl) (by kernel_rfl)
theorem Tryz.fok233 : FnOk Tryz.prog 233 Tryz.f233 := FnOk.of Tryz.func233 (by kernel_rfl) (by kernel_rfl)
theorem Tryz.fok234 : FnOk Tryz.prog 234 Tryz.f234 := FnOk.of Tryz.func234 (by kernel_rfl) (by kernel_rfl)
theorem Tryz.fok235 : FnOk Tryz.prog 235 Tryz.f235 := FnOk.of Tryz.func235 (by kernel_rfl) (by kernel_rfl)
theorem Tryz.fok236 : FnOk Tryz.prog 236 Tryz.f236 := FnOk.of Tryz.func236 (by kernel_rfl) (by kernel_rfl)
theorem Tryz.fok237 : FnOk Tryz.prog 237 Tryz.f237 := FnOk.of Tryz.func237 (by kernel_rfl) (by kernel_rfl)
theorem Tryz.fok238 : FnOk Tryz.prog 238 Tryz.f238 := FnOk.of Tryz.func238 (by kernel_rfl) (by kernel_rfl)
theorem Tryz.fok239 : FnOk Tryz.prog 239 Tryz.f239 := FnOk.of Tryz.func239 (by kernel_rfl) (by kernel_rfl)
theorem Tryz.fok244 : FnOk Tryz.prog 244 Tryz.f244 := FnOk.of Tryz.func244 (by kernel_rfl) (by kernel_rfl)
theorem Tryz.fok247 : FnOk Tryz.prog 247 Tryz.f247 := FnOk.of Tryz.func247 (by kernel_rfl) (by kernel_rfl)
theorem Tryz.fok250 : FnOk Tryz.prog 250 Tryz.f250 := FnOk.of Tryz.func250 (by kernel_rfl) (by kernel_rfl)
theorem Tryz.fok255 : FnOk Tryz.prog 255 Tryz.f255 := FnOk.of Tryz.func255 (by kernel_rfl) (by kernel_rfl)
theorem Tryz.fok256 : FnOk Tryz.prog 256 Tryz.f256 := FnOk.of Tryz.func256 (by kernel_rfl) (by kernel_rfl)
theorem Tryz.fok261 : FnOk Tryz.prog 261 Tryz.f261 := FnOk.of Tryz.func261 (by kernel_rfl) (by kernel_rfl)
theorem Tryz.fok262 : FnOk Tryz.prog 262 Tryz.f262 := FnOk.of Tryz.func262 (by kernel_rfl) (by kernel_rfl)
theorem Tryz.fok266 : FnOk Tryz.prog 266 Tryz.f266 := FnOk.of Tryz.func266 (by kernel_rfl) (by kernel_rfl)
theorem Tryz.fok267 : FnOk Tryz.prog 267 Tryz.f267 := FnOk.of Tryz.func267 (by kernel_rfl) (by kernel_rfl)
theorem Tryz.fok268 : FnOk Tryz.prog 268 Tryz.f268 := FnOk.of Tryz.func268 (by kernel_rfl) (by kernel_rfl)
theorem Tryz.fok270 : FnOk Tryz.prog 270 Tryz.f270 := FnOk.of Tryz.func270 (by kernel_rfl) (by kernel_rfl)
theorem Tryz.fok271 : FnOk Tryz.prog 271 Tryz.f271 := FnOk.of Tryz.func271 (by kernel_rfl) (by kernel_rfl)
theorem Tryz.fok272 : FnOk Tryz.prog 272 Tryz.f272 := FnOk.of Tryz.func272 (by kernel_rfl) (by kernel_rfl)
theorem Tryz.fok273 : FnOk Tryz.prog 273 Tryz.f273 := FnOk.of Tryz.func273 (by kernel_rfl) (by kernel_rfl)
theorem Tryz.fok274 : FnOk Tryz.prog 274 Tryz.f274 := FnOk.of Tryz.func274 (by kernel_rfl) (by kernel_rfl)
theorem Tryz.fok275 : FnOk Tryz.prog 275 Tryz.f275 := FnOk.of Tryz.func275 (by kernel_rfl) (by kernel_rfl)
theorem Tryz.fok276 : FnOk Tryz.prog 276 Tryz.f276 := FnOk.of Tryz.func276 (by kernel_rfl) (by kernel_rfl)
theorem Tryz.fok280 : FnOk Tryz.prog 280 Tryz.f280 := FnOk.of Tryz.func280 (by kernel_rfl) (by kernel_rfl)
theorem Tryz.fok281 : FnOk Tryz.prog 281 Tryz.f281 := FnOk.of Tryz.func281 (by kernel_rfl) (by kernel_rfl)
theorem Tryz.fok282 : FnOk Tryz.prog 282 Tryz.f282 := FnOk.of Tryz.func282 (by kernel_rfl) (by kernel_rfl)
theorem Tryz.fok283 : FnOk Tryz.prog 283 Tryz.f283 := FnOk.of Tryz.func283 (by kernel_rfl) (by kernel_rfl)
theorem Tryz.fok285 : FnOk Tryz.prog 285 Tryz.f285 := FnOk.of Tryz.func285 (by kernel_rfl) (by kernel_rfl)
theorem Tryz.fok286 : FnOk Tryz.prog 286 Tryz.f286 := FnOk.of Tryz.func286 (by kernel_rfl) (by kernel_rfl)
theorem Tryz.fok289 : FnOk Tryz.prog 289 Tryz.f289 := FnOk.of Tryz.func289 (by kernel_rfl) (by kernel_rfl)
theorem Tryz.fok290 : FnOk Tryz.prog 290 Tryz.f290 := FnOk.of Tryz.func290 (by kernel_rfl) (by kernel_rfl)
theorem Tryz.fok296 : FnOk Tryz.prog 296 Tryz.f296 := FnOk.of Tryz.func296 (by kernel_rfl) (by kernel_rfl)
theorem Tryz.fok306 : FnOk Tryz.prog 306 Tryz.f306 := FnOk.of Tryz.func306 (by kernel_rfl) (by kernel_rfl)
theorem Tryz.fok307 : FnOk Tryz.prog 307 Tryz.f307 := FnOk.of Tryz.func307 (by kernel_rfl) (by kernel_rfl)
theorem Tryz.fok308 : FnOk Tryz.prog 308 Tryz.f308 := FnOk.of Tryz.func308 (by kernel_rfl) (by kernel_rfl)
theorem Tryz.fok311 : FnOk Tryz.prog 311 Tryz.f311 := FnOk.of Tryz.func311 (by kernel_rfl) (by kernel_rfl)
theorem Tryz.fok313 : FnOk Tryz.prog 313 Tryz.f313 := FnOk.of Tryz.func313 (by kernel_rfl) (by kernel_rfl)
theorem Tryz.fok316 : FnOk Tryz.prog 316 Tryz.f316 := FnOk.of Tryz.func316 (by kernel_rfl) (by kernel_rfl)
theorem Tryz.fok317 : FnOk Tryz.prog 317 Tryz.f317 := FnOk.of Tryz.func317 (by kernel_rfl) (by kernel_rfl)
theorem Tryz.fok326 : FnOk Tryz.prog 326 Tryz.f326 := FnOk.of Tryz.func326 (by kernel_rfl) (by kernel_rfl)
theorem Tryz.fok327 : FnOk Tryz.prog 327 Tryz.f327 := FnOk.of Tryz.func327 (by kernel_rfl) (by kernel_rfl)
theorem Tryz.fok328 : FnOk Tryz.prog 328 Tryz.f328 := FnOk.of Tryz.func328 (by kernel_rfl) (by kernel_rfl)
theorem Tryz.fok330 : FnOk Tryz.prog 330 Tryz.f330 := FnOk.of Tryz.func330 (by kernel_rfl) (by kernel_rfl)
theorem Tryz.fok331 : FnOk Tryz.prog 331 Tryz.f331 := FnOk.of Tryz.func331 (by kernel_rfl) (by kernel_rfl)
theorem Tryz.fok336 : FnOk Tryz.prog 336 Tryz.f336 := FnOk.of Tryz.func336 (by kernel_rfl) (by kernel_rfl)
theorem Tryz.fok338 : FnOk Tryz.prog 338 Tryz.f338 := FnOk.of Tryz.func338 (by kernel_rfl) (by kernel_rfl)
theorem Tryz.fok345 : FnOk Tryz.prog 345 Tryz.f345 := FnOk.of Tryz.func345 (by kernel_rfl) (by kernel_rfl)
theorem Tryz.fok346 : FnOk Tryz.prog 346 Tryz.f346 := FnOk.of Tryz.func346 (by kernel_rfl) (by kernel_rfl)
theorem Tryz.fok347 : FnOk Tryz.prog 347 Tryz.f347 := FnOk.of Tryz.func347 (by kernel_rfl) (by kernel_rfl)
theorem Tryz.fok348 : FnOk Tryz.prog 348 Tryz.f348 := FnOk.of Tryz.func348 (by kernel_rfl) (by kernel_rfl)
theorem Tryz.fok352 : FnOk Tryz.prog 352 Tryz.f352 := FnOk.of Tryz.func352 (by kernel_rfl) (by kernel_rfl)
theorem Tryz.fok355 : FnOk Tryz.prog 355 Tryz.f355 := FnOk.of Tryz.func355 (by kernel_rfl) (by kernel_rfl)
theorem Tryz.fok357 : FnOk Tryz.prog 357 Tryz.f357 := FnOk.of Tryz.func357 (by kernel_rfl) (by kernel_rfl)
theorem Tryz.fok358 : FnOk Tryz.prog 358 Tryz.f358 := FnOk.of Tryz.func358 (by kernel_rfl) (by kernel_rfl)
theorem Tryz.fok372 : FnOk Tryz.prog 372 Tryz.f372 := FnOk.of Tryz.func372 (by kernel_rfl) (by kernel_rfl)
theorem Tryz.fok374 : FnOk Tryz.prog 374 Tryz.f374 := FnOk.of Tryz.func374 (by kernel_rfl) (by kernel_rfl)
theorem Tryz.fok383 : FnOk Tryz.prog 383 Tryz.f383 := FnOk.of Tryz.func383 (by kernel_rfl) (by kernel_rfl)
theorem Tryz.fok384 : FnOk Tryz.prog 384 Tryz.f384 := FnOk.of Tryz.func384 (by kernel_rfl) (by kernel_rfl)
theorem Tryz.fok385 : FnOk Tryz.prog 385 Tryz.f385 := FnOk.of Tryz.func385 (by kernel_rfl) (by kernel_rfl)
theorem Tryz.fok388 : FnOk Tryz.prog 388 Tryz.f388 := FnOk.of Tryz.func388 (by kernel_rfl) (by kernel_rfl)
theorem Tryz.fok389 : FnOk Tryz.prog 389 Tryz.f389 := FnOk.of Tryz.func389 (by kernel_rfl) (by kernel_rfl)
theorem Tryz.fok396 : FnOk Tryz.prog 396 Tryz.f396 := FnOk.of Tryz.func396 (by kernel_rfl) (by kernel_rfl)
theorem Tryz.fok397 : FnOk Tryz.prog 397 Tryz.f397 := FnOk.of Tryz.func397 (by kernel_rfl) (by kernel_rfl)
theorem Tryz.fok398 : FnOk Tryz.prog 398 Tryz.f398 := FnOk.of Tryz.func398 (by kernel_rfl) (by kernel_rfl)
theorem Tryz.fok407 : FnOk Tryz.prog 407 Tryz.f407 := FnOk.of Tryz.func407 (by kernel_rfl) (by kernel_rfl)
theorem Tryz.fok430 : FnOk Tryz.prog 430 Tryz.f430 := FnOk.of Tryz.func430 (by kernel_rfl) (by kernel_rfl)
theorem Tryz.fok433 : FnOk Tryz.prog 433 Tryz.f433 := FnOk.of Tryz.func433 (by kernel_rfl) (by kernel_rfl)
theorem Tryz.fok439 : FnOk Tryz.prog 439 Tryz.f439 := FnOk.of Tryz.func439 (by kernel_rfl) (by kernel_rfl)
theorem Tryz.fok440 : FnOk Tryz.prog 440 Tryz.f440 := FnOk.of Tryz.func440 (by kernel_rfl) (by kernel_rfl)
noncomputable def Tryz.etyl0 : N43 TI := (N4.mk (N4.mk (N4.mk none (some Tryz.ti1) (some Tryz.ti2) (some Tryz.ti3)) (N4.mk (some Tryz.ti4) (some Tryz.ti5) (some Tryz.ti6) (some Tryz.ti7)) (N4.mk (some Tryz.ti8) (some Tryz.ti9) (some Tryz.ti10) (some Tryz.ti11)) (N4.mk (some Tryz.ti12) (some Tryz.ti13) (some Tryz.ti14) (some Tryz.ti15))) (N4.mk (N4.mk (some Tryz.ti16) (some Tryz.ti17) (some Tryz.ti18) (some Tryz.ti19)) (N4.mk (some Tryz.ti20) (some Tryz.ti21) (some Tryz.ti22) (some Tryz.ti23)) (N4.mk (some Tryz.ti24) (some Tryz.ti25) (some Tryz.ti26) none) (N4.mk (some Tryz.ti28) none (some Tryz.ti30) (some Tryz.ti31))) (N4.mk (N4.mk (some Tryz.ti32) (some Tryz.ti33) (some Tryz.ti34) (some Tryz.ti35)) (N4.mk (some Tryz.ti36) (some Tryz.ti37) (some Tryz.ti38) (some Tryz.ti39)) (N4.mk (some Tryz.ti40) (some Tryz.ti41) (some Tryz.ti42) (some Tryz.ti43)) (N4.mk (some Tryz.ti44) (some Tryz.ti45) (some Tryz.ti46) (some Tryz.ti47))) (N4.mk (N4.mk (some Tryz.ti48) (some Tryz.ti49) (some Tryz.ti50) (some Tryz.ti51)) (N4.mk (some Tryz.ti52) (some Tryz.ti53) (some Tryz.ti54) (some Tryz.ti55)) (N4.mk (some Tryz.ti56) (some Tryz.ti57) (some Tryz.ti58) (some Tryz.ti59)) (N4.mk (some Tryz.ti60) (some Tryz.ti61) (some Tryz.ti62) (some Tryz.ti63))))
noncomputable def Tryz.etyl1 : N43 TI := (N4.mk (N4.mk (N4.mk (some Tryz.ti64) (some Tryz.ti65) (some Tryz.ti66) (some Tryz.ti67)) (N4.mk (some Tryz.ti68) (some Tryz.ti69) (some Tryz.ti70) (some Tryz.ti71)) (N4.mk (some Tryz.ti72) (some Tryz.ti73) (some Tryz.ti74) (some Tryz.ti75)) (N4.mk (some Tryz.ti76) (some Tryz.ti77) (some Tryz.ti78) (some Tryz.ti79))) (N4.mk (N4.mk none (some Tryz.ti81) none (some Tryz.ti83)) (N4.mk (some Tryz.ti84) none (some Tryz.ti86) (some Tryz.ti87)) (N4.mk (some Tryz.ti88) (some Tryz.ti89) (some Tryz.ti90) (some Tryz.ti91)) (N4.mk (some Tryz.ti92) (some Tryz.ti93) (some Tryz.ti94) (some Tryz.ti95))) (N4.mk (N4.mk (some Tryz.ti96) (some Tryz.ti97) (some Tryz.ti98) none) (N4.mk (some Tryz.ti100) (some Tryz.ti101) none (some Tryz.ti103)) (N4.mk (some Tryz.ti104) (some Tryz.ti105) (some Tryz.ti106) (some Tryz.ti107)) (N4.mk (some Tryz.ti108) (some Tryz.ti109) (some Tryz.ti110) (some Tryz.ti111))) (N4.mk (N4.mk (some Tryz.ti112) (some Tryz.ti113) (some Tryz.ti114) (some Tryz.ti115)) (N4.mk none (some Tryz.ti117) (some Tryz.ti118) (some Tryz.ti119)) (N4.mk (some Tryz.ti120) (some Tryz.ti121) (some Tryz.ti122) (some Tryz.ti123)) (N4.mk (some Tryz.ti124) (some Tryz.ti125) (some Tryz.ti126) (some Tryz.ti127))))
noncomputable def Tryz.etyl2 : N43 TI := (N4.mk (N4.mk (N4.mk (some Tryz.ti128) (some Tryz.ti129) (some Tryz.ti130) (some Tryz.ti131)) (N4.mk (some Tryz.ti132) (some Tryz.ti133) (some Tryz.ti134) (some Tryz.ti135)) (N4.mk (some Tryz.ti136) (some Tryz.ti137) (some Tryz.ti138) (some Tryz.ti139)) (N4.mk (some Tryz.ti140) (some Tryz.ti141) (some Tryz.ti142) (some Tryz.ti143))) (N4.mk (N4.mk (some Tryz.ti144) none (some Tryz.ti146) (some Tryz.ti147)) (N4.mk (some Tryz.ti148) (some Tryz.ti149) (some Tryz.ti150) none) (N4.mk (some Tryz.ti152) none (some Tryz.ti154) (some Tryz.ti155)) (N4.mk (some Tryz.ti156) (some Tryz.ti157) (some Tryz.ti158) (some Tryz.ti159))) (N4.mk (N4.mk (some Tryz.ti160) (some Tryz.ti161) none (some Tryz.ti163)) (N4.mk none (some Tryz.ti165) none (some Tryz.ti167)) (N4.mk (some Tryz.ti168) none (some Tryz.ti170) (some Tryz.ti171)) (N4.mk (some Tryz.ti172) none (some Tryz.ti174) (some Tryz.ti175))) (N4.mk (N4.mk (some Tryz.ti176) (some Tryz.ti177) (some Tryz.ti178) (some Tryz.ti179)) (N4.mk (some Tryz.ti180) (some Tryz.ti181) (some Tryz.ti182) (some Tryz.ti183)) (N4.mk none (some Tryz.ti185) (some Tryz.ti186) (some Tryz.ti187)) (N4.mk (some Tryz.ti188) (some Tryz.ti189) (some Tryz.ti190) (some Tryz.ti191))))
noncomputable def Tryz.etyl3 : N43 TI := (N4.mk (N4.mk (N4.mk (some Tryz.ti192) (some Tryz.ti193) (some Tryz.ti194) (some Tryz.ti195)) (N4.mk (some Tryz.ti196) (some Tryz.ti197) (some Tryz.ti198) (some Tryz.ti199)) (N4.mk (some Tryz.ti200) (some Tryz.ti201) (some Tryz.ti202) (some Tryz.ti203)) (N4.mk (some Tryz.ti204) none (some Tryz.ti206) none)) (N4.mk (N4.mk (some Tryz.ti208) (some Tryz.ti209) (some Tryz.ti210) (some Tryz.ti211)) (N4.mk none (some Tryz.ti213) (some Tryz.ti214) (some Tryz.ti215)) (N4.mk (some Tryz.ti216) (some Tryz.ti217) (some Tryz.ti218) (some Tryz.ti219)) (N4.mk (some Tryz.ti220) none (some Tryz.ti222) (some Tryz.ti223))) (N4.mk (N4.mk (some Tryz.ti224) (some Tryz.ti225) (some Tryz.ti226) (some Tryz.ti227)) (N4.mk (some Tryz.ti228) (some Tryz.ti229) (some Tryz.ti230) (some Tryz.ti231)) (N4.mk (some Tryz.ti232) (some Tryz.ti233) (some Tryz.ti234) (some Tryz.ti235)) (N4.mk none (some Tryz.ti237) (some Tryz.ti238) (some Tryz.ti239))) (N4.mk (N4.mk (some Tryz.ti240) (some Tryz.ti241) (some Tryz.ti242) (some Tryz.ti243)) (N4.mk (some Tryz.ti244) (some Tryz.ti245) (some Tryz.ti246) (some Tryz.ti247)) (N4.mk (some Tryz.ti248) (some Tryz.ti249) (some Tryz.ti250) none) (N4.mk (some Tryz.ti252) (some Tryz.ti253) none (some Tryz.ti255))))
noncomputable def Tryz.etyl4 : N43 TI := (N4.mk (N4.mk (N4.mk (some Tryz.ti256) (some Tryz.ti257) (some Tryz.ti258) (some Tryz.ti259)) (N4.mk (some Tryz.ti260) (some Tryz.ti261) (some Tryz.ti262) (some Tryz.ti263)) (N4.mk none (some Tryz.ti265) (some Tryz.ti266) (some Tryz.ti267)) (N4.mk (some Tryz.ti268) (some Tryz.ti269) (some Tryz.ti270) (some Tryz.ti271))) (N4.mk (N4.mk (some Tryz.ti272) (some Tryz.ti273) (some Tryz.ti274) (some Tryz.ti275)) (N4.mk (some Tryz.ti276) none (some Tryz.ti278) (some Tryz.ti279)) (N4.mk (some Tryz.ti280) (some Tryz.ti281) none (some Tryz.ti283)) (N4.mk (some Tryz.ti284) (some Tryz.ti285) (some Tryz.ti286) (some Tryz.ti287))) (N4.mk (N4.mk (some Tryz.ti288) (some Tryz.ti289) (some Tryz.ti290) (some Tryz.ti291)) (N4.mk (some Tryz.ti292) (some Tryz.ti293) none (some Tryz.ti295)) (N4.mk (some Tryz.ti296) (some Tryz.ti297) (some Tryz.ti298) (some Tryz.ti299)) (N4.mk none (some Tryz.ti301) (some Tryz.ti302) (some Tryz.ti303))) (N4.mk (N4.mk (some Tryz.ti304) (some Tryz.ti305) (some Tryz.ti306) (some Tryz.ti307)) (N4.mk (some Tryz.ti308) (some Tryz.ti309) (some Tryz.ti310) (some Tryz.ti311)) (N4.mk (some Tryz.ti312) (some Tryz.ti313) (some Tryz.ti314) (some Tryz.ti315)) (N4.mk (some Tryz.ti316) (some Tryz.ti317) (some Tryz.ti318) (some Tryz.ti319))))
noncomputable def Tryz.etyl5 : N43 TI := (N4.mk (N4.mk (N4.mk (some Tryz.ti320) (some Tryz.ti321) (some Tryz.ti322) (some Tryz.ti323)) (N4.mk (some Tryz.ti324) (some Tryz.ti325) (some Tryz.ti326) (some Tryz.ti327)) (N4.mk (some Tryz.ti328) (some Tryz.ti329) (some Tryz.ti330) none) (N4.mk (some Tryz.ti332) (some Tryz.ti333) (some Tryz.ti334) (some Tryz.ti335))) (N4.mk (N4.mk (some Tryz.ti336) (some Tryz.ti337) (some Tryz.ti338) (some Tryz.ti339)) (N4.mk (some Tryz.ti340) (some Tryz.ti341) (some Tryz.ti342) (some Tryz.ti343)) (N4.mk (some Tryz.ti344) (some Tryz.ti345) (some Tryz.ti346) (some Tryz.ti347)) (N4.mk (some Tryz.ti348) (some Tryz.ti349) (some Tryz.ti350) (some Tryz.ti351))) (N4.mk (N4.mk (some Tryz.ti352) (some Tryz.ti353) (some Tryz.ti354) (some Tryz.ti355)) (N4.mk (some Tryz.ti356) (some Tryz.ti357) (some Tryz.ti358) (some Tryz.ti359)) (N4.mk (some Tryz.ti360) (some Tryz.ti361) (some Tryz.ti362) (some Tryz.ti363)) (N4.mk (some Tryz.ti364) (some Tryz.ti365) (some Tryz.ti366) none)) (N4.mk (N4.mk (some Tryz.ti368) (some Tryz.ti369) (some Tryz.ti370) (some Tryz.ti371)) (N4.mk (some Tryz.ti372) (some Tryz.ti373) (some Tryz.ti374) (some Tryz.ti375)) (N4.mk (some Tryz.ti376) (some Tryz.ti377) (some Tryz.ti378) (some Tryz.ti379)) (N4.mk (some Tryz.ti380) (some Tryz.ti381) (some Tryz.ti382) (some Tryz.ti383))))
noncomputable def Tryz.etyl6 : N43 TI := (N4.mk (N4.mk (N4.mk (some Tryz.ti384) (some Tryz.ti385) (some Tryz.ti386) (some Tryz.ti387)) (N4.mk (some Tryz.ti388) (some Tryz.ti389) (some Tryz.ti390) (some Tryz.ti391)) (N4.mk (some Tryz.ti392) (some Tryz.ti393) (some Tryz.ti394) (some Tryz.ti395)) (N4.mk (some Tryz.ti396) (some Tryz.ti397) (some Tryz.ti398) (some Tryz.ti399))) (N4.mk (N4.mk (some Tryz.ti400) (some Tryz.ti401) (some Tryz.ti402) none) (N4.mk (some Tryz.ti404) (some Tryz.ti405) (some Tryz.ti406) (some Tryz.ti407)) (N4.mk (some Tryz.ti408) (some Tryz.ti409) (some Tryz.ti410) (some Tryz.ti411)) (N4.mk (some Tryz.ti412) (some Tryz.ti413) (some Tryz.ti414) (some Tryz.ti415))) (N4.mk (N4.mk (some Tryz.ti416) (some Tryz.ti417) none (some Tryz.ti419)) (N4.mk (some Tryz.ti420) (some Tryz.ti421) (some Tryz.ti422) (some Tryz.ti423)) (N4.mk (some Tryz.ti424) (some Tryz.ti425) (some Tryz.ti426) (some Tryz.ti427)) (N4.mk none (some Tryz.ti429) (some Tryz.ti430) (some Tryz.ti431))) (N4.mk (N4.mk (some Tryz.ti432) (some Tryz.ti433) (some Tryz.ti434) (some Tryz.ti435)) (N4.mk (some Tryz.ti436) (some Tryz.ti437) (some Tryz.ti438) (some Tryz.ti439)) (N4.mk (some Tryz.ti440) (some Tryz.ti441) (some Tryz.ti442) (some Tryz.ti443)) (N4.mk (some Tryz.ti444) (some Tryz.ti445) none (some Tryz.ti447))))
noncomputable def Tryz.etyl7 : N43 TI := (N4.mk (N4.mk (N4.mk (some Tryz.ti448) (some Tryz.ti449) none (some Tryz.ti451)) (N4.mk none (some Tryz.ti453) (some Tryz.ti454) (some Tryz.ti455)) (N4.mk (some Tryz.ti456) (some Tryz.ti457) (some Tryz.ti458) (some Tryz.ti459)) (N4.mk (some Tryz.ti460) none (some Tryz.ti462) (some Tryz.ti463))) (N4.mk (N4.mk (some Tryz.ti464) (some Tryz.ti465) (some Tryz.ti466) (some Tryz.ti467)) (N4.mk (some Tryz.ti468) (some Tryz.ti469) (some Tryz.ti470) (some Tryz.ti471)) (N4.mk (some Tryz.ti472) (some Tryz.ti473) (some Tryz.ti474) (some Tryz.ti475)) (N4.mk (some Tryz.ti476) (some Tryz.ti477) (some Tryz.ti478) (some Tryz.ti479))) (N4.mk (N4.mk (some Tryz.ti480) (some Tryz.ti481) (some Tryz.ti482) (some Tryz.ti483)) (N4.mk (some Tryz.ti484) (some Tryz.ti485) (some Tryz.ti486) (some Tryz.ti487)) (N4.mk (some Tryz.ti488) (some Tryz.ti489) (some Tryz.ti490) (some Tryz.ti491)) (N4.mk none (some Tryz.ti493) (some Tryz.ti494) (some Tryz.ti495))) (N4.mk (N4.mk (some Tryz.ti496) (some Tryz.ti497) (some Tryz.ti498) (some Tryz.ti499)) (N4.mk (some Tryz.ti500) (some Tryz.ti501) (some Tryz.ti502) (some Tryz.ti503)) (N4.mk (some Tryz.ti504) (some Tryz.ti505) (some Tryz.ti506) none) (N4.mk (some Tryz.ti508) (some Tryz.ti509) none none)))
noncomputable def Tryz.etyl8 : N43 TI := (N4.mk (N4.mk (N4.mk (some Tryz.ti512) none (some Tryz.ti514) (some Tryz.ti515)) (N4.mk (some Tryz.ti516) (some Tryz.ti517) none (some Tryz.ti519)) (N4.mk (some Tryz.ti520) (some Tryz.ti521) (some Tryz.ti522) (some Tryz.ti523)) (N4.mk (some Tryz.ti524) (some Tryz.ti525) (some Tryz.ti526) (some Tryz.ti527))) (N4.mk (N4.mk (some Tryz.ti528) (some Tryz.ti529) (some Tryz.ti530) (some Tryz.ti531)) (N4.mk (some Tryz.ti532) (some Tryz.ti533) (some Tryz.ti534) (some Tryz.ti535)) (N4.mk (some Tryz.ti536) (some Tryz.ti537) (some Tryz.ti538) (some Tryz.ti539)) (N4.mk none (some Tryz.ti541) none none)) (N4.mk (N4.mk none (some Tryz.ti545) none (some Tryz.ti547)) (N4.mk none (some Tryz.ti549) (some Tryz.ti550) (some Tryz.ti551)) (N4.mk (some Tryz.ti552) (some Tryz.ti553) (some Tryz.ti554) (some Tryz.ti555)) (N4.mk (some Tryz.ti556) (some Tryz.ti557) (some Tryz.ti558) (some Tryz.ti559))) (N4.mk (N4.mk (some Tryz.ti560) (some Tryz.ti561) (some Tryz.ti562) (some Tryz.ti563)) (N4.mk (some Tryz.ti564) (some Tryz.ti565) (some Tryz.ti566) (some Tryz.ti567)) (N4.mk (some Tryz.ti568) (some Tryz.ti569) (some Tryz.ti570) (some Tryz.ti571)) (N4.mk (some Tryz.ti572) (some Tryz.ti573) (some Tryz.ti574) (some Tryz.ti575))))
noncomputable def Tryz.etyl9 : N43 TI := (N4.mk (N4.mk (N4.mk (some Tryz.ti576) none none (some Tryz.ti579)) (N4.mk (some Tryz.ti580) (some Tryz.ti581) (some Tryz.ti582) (some Tryz.ti583)) (N4.mk (some Tryz.ti584) (some Tryz.ti585) (some Tryz.ti586) (some Tryz.ti587)) (N4.mk (some Tryz.ti588) (some Tryz.ti589) (some Tryz.ti590) (some Tryz.ti591))) (N4.mk (N4.mk (some Tryz.ti592) none none none) (N4.mk none (some Tryz.ti597) (some Tryz.ti598) (some Tryz.ti599)) (N4.mk (some Tryz.ti600) (some Tryz.ti601) (some Tryz.ti602) (some Tryz.ti603)) (N4.mk (some Tryz.ti604) (some Tryz.ti605) (some Tryz.ti606) (some Tryz.ti607))) (N4.mk (N4.mk (some Tryz.ti608) (some Tryz.ti609) (some Tryz.ti610) (some Tryz.ti611)) (N4.mk (some Tryz.ti612) (some Tryz.ti613) (some Tryz.ti614) (some Tryz.ti615)) (N4.mk (some Tryz.ti616) (some Tryz.ti617) (some Tryz.ti618) (some Tryz.ti619)) (N4.mk (some Tryz.ti620) (some Tryz.ti621) (some Tryz.ti622) (some Tryz.ti623))) (N4.mk (N4.mk (some Tryz.ti624) none (some Tryz.ti626) none) (N4.mk (some Tryz.ti628) (some Tryz.ti629) (some Tryz.ti630) none) (N4.mk none none none none) (N4.mk none none none none)))
noncomputable def Tryz.ety : Tr TI := ⟨Tryz.etyl0, (N4.mk (N4.mk (N4.mk z3 Tryz.etyl1 Tryz.etyl2 Tryz.etyl3) (N4.mk Tryz.etyl4 Tryz.etyl5 Tryz.etyl6 Tryz.etyl7) (N4.mk Tryz.etyl8 Tryz.etyl9 z3 z3) (N4.mk z3 z3 z3 z3)) (N4.mk (N4.mk z3 z3 z3 z3) (N4.mk z3 z3 z3 z3) (N4.mk z3 z3 z3 z3) (N4.mk z3 z3 z3 z3)) (N4.mk (N4.mk z3 z3 z3 z3) (N4.mk z3 z3 z3 z3) (N4.mk z3 z3 z3 z3) (N4.mk z3 z3 z3 z3)) (N4.mk (N4.mk z3 z3 z3 z3) (N4.mk z3 z3 z3 z3) (N4.mk z3 z3 z3 z3) (N4.mk z3 z3 z3 z3))), []⟩
noncomputable def Tryz.efnl0 : N43 Func := (N4.mk (N4.mk (N4.mk none none none (some Tryz.f3)) (N4.mk (some Tryz.f4) (some Tryz.f5) (some Tryz.f6) (some Tryz.f7)) (N4.mk (some Tryz.f8) (some Tryz.f9) (some Tryz.f10) (some Tryz.f11)) (N4.mk (some Tryz.f12) (some Tryz.f13) (some Tryz.f14) (some Tryz.f15))) (N4.mk (N4.mk (some Tryz.f16) (some Tryz.f17) none (some Tryz.f19)) (N4.mk none none (some Tryz.f22) (some Tryz.f23)) (N4.mk (some Tryz.f24) none (some Tryz.f26) (some Tryz.f27)) (N4.mk (some Tryz.f28) none none none)) (N4.mk (N4.mk none none (some Tryz.f34) (some Tryz.f35)) (N4.mk (some Tryz.f36) (some Tryz.f37) (some Tryz.f38) (some Tryz.f39)) (N4.mk (some Tryz.f40) none none (some Tryz.f43)) (N4.mk (some Tryz.f44) (some Tryz.f45) (some Tryz.f46) (some Tryz.f47))) (N4.mk (N4.mk none (some Tryz.f49) none (some Tryz.f51)) (N4.mk (some Tryz.f52) none (some Tryz.f54) none) (N4.mk (some Tryz.f56) none none none) (N4.mk none none none none)))
noncomputable def Tryz.efnl1 : N43 Func := (N4.mk (N4.mk (N4.mk (some Tryz.f64) (some Tryz.f65) (some Tryz.f66) none) (N4.mk none (some Tryz.f69) (some Tryz.f70) (some Tryz.f71)) (N4.mk (some Tryz.f72) (some Tryz.f73) (some Tryz.f74) (some Tryz.f75)) (N4.mk (some Tryz.f76) (some Tryz.f77) (some Tryz.f78) (some Tryz.f79))) (N4.mk (N4.mk (some Tryz.f80) none (some Tryz.f82) none) (N4.mk none (some Tryz.f85) (some Tryz.f86) (some Tryz.f87)) (N4.mk (some Tryz.f88) none (some Tryz.f90) none) (N4.mk none none none (some Tryz.f95))) (N4.mk (N4.mk (some Tryz.f96) (some Tryz.f97) (some Tryz.f98) (some Tryz.f99)) (N4.mk (some Tryz.f100) (some Tryz.f101) (some Tryz.f102) (some Tryz.f103)) (N4.mk (some Tryz.f104) (some Tryz.f105) none (some Tryz.f107)) (N4.mk (some Tryz.f108) (some Tryz.f109) (some Tryz.f110) (some Tryz.f111))) (N4.mk (N4.mk (some Tryz.f112) none (some Tryz.f114) (some Tryz.f115)) (N4.mk (some Tryz.f116) (some Tryz.f117) (some Tryz.f118) (some Tryz.f119)) (N4.mk none none none none) (N4.mk (some Tryz.f124) (some Tryz.f125) none none)))
noncomputable def Tryz.efnl2 : N43 Func := (N4.mk (N4.mk (N4.mk (some Tryz.f128) (some Tryz.f129) none (some Tryz.f131)) (N4.mk (some Tryz.f132) (some Tryz.f133) none none) (N4.mk (some Tryz.f136) (some Tryz.f137) (some Tryz.f138) (some Tryz.f139)) (N4.mk (some Tryz.f140) (some Tryz.f141) none none)) (N4.mk (N4.mk (some Tryz.f144) (some Tryz.f145) (some Tryz.f146) (some Tryz.f147)) (N4.mk (some Tryz.f148) (some Tryz.f149) (some Tryz.f150) (some Tryz.f151)) (N4.mk (some Tryz.f152) (some Tryz.f153) (some Tryz.f154) (some Tryz.f155)) (N4.mk (some Tryz.f156) (some Tryz.f157) none (some Tryz.f159))) (N4.mk (N4.mk (some Tryz.f160) (some Tryz.f161) none none) (N4.mk (some Tryz.f164) (some Tryz.f165) none none) (N4.mk none none none (some Tryz.f171)) (N4.mk none none none (some Tryz.f175))) (N4.mk (N4.mk (some Tryz.f176) (some Tryz.f177) (some Tryz.f178) none) (N4.mk none (some Tryz.f181) none (some Tryz.f183)) (N4.mk (some Tryz.f184) (some Tryz.f185) none none) (N4.mk (some Tryz.f188) (some Tryz.f189) (some Tryz.f190) (some Tryz.f191))))
noncomputable def Tryz.efnl3 : N43 Func := (N4.mk (N4.mk (N4.mk (some Tryz.f192) (some Tryz.f193) (some Tryz.f194) (some Tryz.f195)) (N4.mk (some Tryz.f196) (some Tryz.f197) (some Tryz.f198) (some Tryz.f199)) (N4.mk none (some Tryz.f201) (some Tryz.f202) none) (N4.mk none none none none)) (N4.mk (N4.mk none none (some Tryz.f210) (some Tryz.f211)) (N4.mk (some Tryz.f212) (some Tryz.f213) none (some Tryz.f215)) (N4.mk none (some Tryz.f217) (some Tryz.f218) none) (N4.mk none (some Tryz.f221) none none)) (N4.mk (N4.mk none none none (some Tryz.f227)) (N4.mk (some Tryz.f228) (some Tryz.f229) none (some Tryz.f231)) (N4.mk (some Tryz.f232) (some Tryz.f233) (some Tryz.f234) (some Tryz.f235)) (N4.mk (some Tryz.f236) (some Tryz.f237) (some Tryz.f238) (some Tryz.f239))) (N4.mk (N4.mk none none none none) (N4.mk (some Tryz.f244) none none (some Tryz.f247)) (N4.mk none none (some Tryz.f250) none) (N4.mk none none none (some Tryz.f255))))
noncomputable def Tryz.efnl4 : N43 Func := (N4.mk (N4.mk (N4.mk (some Tryz.f256) none none none) (N4.mk none (some Tryz.f261) (some Tryz.f262) none) (N4.mk none none (some Tryz.f266) (some Tryz.f267)) (N4.mk (some Tryz.f268) none (some Tryz.f270) (some Tryz.f271))) (N4.mk (N4.mk (some Tryz.f272) (some Tryz.f273) (some Tryz.f274) (some Tryz.f275)) (N4.mk (some Tryz.f276) none none none) (N4.mk (some Tryz.f280) (some Tryz.f281) (some Tryz.f282) (some Tryz.f283)) (N4.mk none (some Tryz.f285) (some Tryz.f286) none)) (N4.mk (N4.mk none (some Tryz.f289) (some Tryz.f290) none) (N4.mk none none none none) (N4.mk (some Tryz.f296) none none none) (N4.mk none none none none)) (N4.mk (N4.mk none none (some Tryz.f306) (some Tryz.f307)) (N4.mk (some Tryz.f308) none none (some Tryz.f311)) (N4.mk none (some Tryz.f313) none none) (N4.mk (some Tryz.f316) (some Tryz.f317) none none)))
noncomputable def Tryz.efnl5 : N43 Func := (N4.mk (N4.mk (N4.mk none none none none) (N4.mk none none (some Tryz.f326) (some Tryz.f327)) (N4.mk (some Tryz.f328) none (some Tryz.f330) (some Tryz.f331)) (N4.mk none none none none)) (N4.mk (N4.mk (some Tryz.f336) none (some Tryz.f338) none) (N4.mk none none none none) (N4.mk none (some Tryz.f345) (some Tryz.f346) (some Tryz.f347)) (N4.mk (some Tryz.f348) none none none)) (N4.mk (N4.mk (some Tryz.f352) none none (some Tryz.f355)) (N4.mk none (some Tryz.f357) (some Tryz.f358) none) (N4.mk none none none none) (N4.mk none none none none)) (N4.mk (N4.mk none none none none) (N4.mk (some Tryz.f372) none (some Tryz.f374) none) (N4.mk none none none none) (N4.mk none none none (some Tryz.f383))))
noncomputable def Tryz.efnl6 : N43 Func := (N4.mk (N4.mk (N4.mk (some Tryz.f384) (some Tryz.f385) none none) (N4.mk (some Tryz.f388) (some Tryz.f389) none none) (N4.mk none none none none) (N4.mk (some Tryz.f396) (some Tryz.f397) (some Tryz.f398) none)) (N4.mk (N4.mk none none none none) (N4.mk none none none (some Tryz.f407)) (N4.mk none none none none) (N4.mk none none none none)) (N4.mk (N4.mk none none none none) (N4.mk none none none none) (N4.mk none none none none) (N4.mk none none (some Tryz.f430) none)) (N4.mk (N4.mk none (some Tryz.f433) none none) (N4.mk none none none (some Tryz.f439)) (N4.mk (some Tryz.f440) none none none) (N4.mk none none none none)))
noncomputable def Tryz.efn : Tr Func := ⟨Tryz.efnl0, (N4.mk (N4.mk (N4.mk z3 Tryz.efnl1 Tryz.efnl2 Tryz.efnl3) (N4.mk Tryz.efnl4 Tryz.efnl5 Tryz.efnl6 z3) (N4.mk z3 z3 z3 z3) (N4.mk z3 z3 z3 z3)) (N4.mk (N4.mk z3 z3 z3 z3) (N4.mk z3 z3 z3 z3) (N4.mk z3 z3 z3 z3) (N4.mk z3 z3 z3 z3)) (N4.mk (N4.mk z3 z3 z3 z3) (N4.mk z3 z3 z3 z3) (N4.mk z3 z3 z3 z3) (N4.mk z3 z3 z3 z3)) (N4.mk (N4.mk z3 z3 z3 z3) (N4.mk z3 z3 z3 z3) (N4.mk z3 z3 z3 z3) (N4.mk z3 z3 z3 z3))), []⟩
noncomputable def Tryz.env : Env := ⟨Tryz.ety, Tryz.efn, [(181, 1, 179), (180, 1, 179), (179, 0, 179), (178, 0, 179)], Tr.e⟩
noncomputable def Tryz.tl : List (Nat × TI) := [(1, Tryz.ti1), (2, Tryz.ti2), (3, Tryz.ti3), (4, Tryz.ti4), (5, Tryz.ti5), (6, Tryz.ti6), (7, Tryz.ti7), (8, Tryz.ti8), (9, Tryz.ti9), (10, Tryz.ti10), (11, Tryz.ti11), (12, Tryz.ti12), (13, Tryz.ti13), (14, Tryz.ti14), (15, Tryz.ti15), (16, Tryz.ti16), (17, Tryz.ti17), (18, Tryz.ti18), (19, Tryz.ti19), (20, Tryz.ti20), (21, Tryz.ti21), (22, Tryz.ti22), (23, Tryz.ti23), (24, Tryz.ti24), (25, Tryz.ti25), (26, Tryz.ti26), (28, Tryz.ti28), (30, Tryz.ti30), (31, Tryz.ti31), (32, Tryz.ti32), (33, Tryz.ti33), (34, Tryz.ti34), (35, Tryz.ti35), (36, Tryz.ti36), (37, Tryz.ti37), (38, Tryz.ti38), (39, Tryz.ti39), (40, Tryz.ti40), (41, Tryz.ti41), (42, Tryz.ti42), (43, Tryz.ti43), (44, Tryz.ti44), (45, Tryz.ti45), (46, Tryz.ti46), (47, Tryz.ti47), (48, Tryz.ti48), (49, Tryz.ti49), (50, Tryz.ti50), (51, Tryz.ti51), (52, Tryz.ti52), (53, Tryz.ti53), (54, Tryz.ti54), (55, Tryz.ti55), (56, Tryz.ti56), (57, Tryz.ti57), (58, Tryz.ti58), (59, Tryz.ti59), (60, Tryz.ti60), (61, Tryz.ti61), (62, Tryz.ti62), (63, Tryz.ti63), (64, Tryz.ti64), (65, Tryz.ti65), (66, Tryz.ti66), (67, Tryz.ti67), (68, Tryz.ti68), (69, Tryz.ti69), (70, Tryz.ti70), (71, Tryz.ti71), (72, Tryz.ti72), (73, Tryz.ti73), (74, Tryz.ti74), (75, Tryz.ti75), (76, Tryz.ti76), (77, Tryz.ti77), (78, Tryz.ti78), (79, Tryz.ti79), (81, Tryz.ti81), (83, Tryz.ti83), (84, Tryz.ti84), (86, Tryz.ti86), (87, Tryz.ti87), (88, Tryz.ti88), (89, Tryz.ti89), (90, Tryz.ti90), (91, Tryz.ti91), (92, Tryz.ti92), (93, Tryz.ti93), (94, Tryz.ti94), (95, Tryz.ti95), (96, Tryz.ti96), (97, Tryz.ti97), (98, Tryz.ti98), (100, Tryz.ti100), (101, Tryz.ti101), (103, Tryz.ti103), (104, Tryz.ti104), (105, Tryz.ti105), (106, Tryz.ti106), (107, Tryz.ti107), (108, Tryz.ti108), (109, Tryz.ti109), (110, Tryz.ti110), (111, Tryz.ti111), (112, Tryz.ti112), (113, Tryz.ti113), (114, Tryz.ti114), (115, Tryz.ti115), (117, Tryz.ti117), (118, Tryz.ti118), (119, Tryz.ti119), (120, Tryz.ti120), (121, Tryz.ti121), (122, Tryz.ti122), (123, Tryz.ti123), (124, Tryz.ti124), (125, Tryz.ti125), (126, Tryz.ti126), (127, Tryz.ti127), (128, Tryz.ti128), (129, Tryz.ti129), (130, Tryz.ti130), (131, Tryz.ti131), (132, Tryz.ti132), (133, Tryz.ti133), (134, Tryz.ti134), (135, Tryz.ti135), (136, Tryz.ti136), (137, Tryz.ti137), (138, Tryz.ti138), (139, Tryz.ti139), (140, Tryz.ti140), (141, Tryz.ti141), (142, Tryz.ti142), (143, Tryz.ti143), (144, Tryz.ti144), (146, Tryz.ti146), (147, Tryz.ti147), (148, Tryz.ti148), (149, Tryz.ti149), (150, Tryz.ti150), (152, Tryz.ti152), (154, Tryz.ti154), (155, Tryz.ti155), (156, Tryz.ti156), (157, Tryz.ti157), (158, Tryz.ti158), (159, Tryz.ti159), (160, Tryz.ti160), (161, Tryz.ti161), (163, Tryz.ti163), (165, Tryz.ti165), (167, Tryz.ti167), (168, Tryz.ti168), (170, Tryz.ti170), (171, Tryz.ti171), (172, Tryz.ti172), (174, Tryz.ti174), (175, Tryz.ti175), (176, Tryz.ti176), (177, Tryz.ti177), (178, Tryz.ti178), (179, Tryz.ti179), (180, Tryz.ti180), (181, Tryz.ti181), (182, Tryz.ti182), (183, Tryz.ti183), (185, Tryz.ti185), (186, Tryz.ti186), (187, Tryz.ti187), (188, Tryz.ti188), (189, Tryz.ti189), (190, Tryz.ti190), (191, Tryz.ti191), (192, Tryz.ti192), (193, Tryz.ti193), (194, Tryz.ti194), (195, Tryz.ti195), (196, Tryz.ti196), (197, Tryz.ti197), (198, Tryz.ti198), (199, Tryz.ti199), (200, Tryz.ti200), (201, Tryz.ti201), (202, Tryz.ti202), (203, Tryz.ti203), (204, Tryz.ti204), (206, Tryz.ti206), (208, Tryz.ti208), (209, Tryz.ti209), (210, Tryz.ti210), (211, Tryz.ti211), (213, Tryz.ti213), (214, Tryz.ti214), (215, Tryz.ti215), (216, Tryz.ti216), (217, Tryz.ti217), (218, Tryz.ti218), (219, Tryz.ti219), (220, Tryz.ti220), (222, Tryz.ti222), (223, Tryz.ti223), (224, Tryz.ti224), (225, Tryz.ti225), (226, Tryz.ti226), (227, Tryz.ti227), (228, Tryz.ti228), (229, Tryz.ti229), (230, Tryz.ti230), (231, Tryz.ti231), (232, Tryz.ti232), (233, Tryz.ti233), (234, Tryz.ti234), (235, Tryz.ti235), (237, Tryz.ti237), (238, Tryz.ti238), (239, Tryz.ti239), (240, Tryz.ti240), (241, Tryz.ti241), (242, Tryz.ti242), (243, Tryz.ti243), (244, Tryz.ti244), (245, Tryz.ti245), (246, Tryz.ti246), (247, Tryz.ti247), (248, Tryz.ti248), (249, Tryz.ti249), (250, Tryz.ti250), (252, Tryz.ti252), (253, Tryz.ti253), (255, Tryz.ti255), (256, Tryz.ti256), (257, Tryz.ti257), (258, Tryz.ti258), (259, Tryz.ti259), (260, Tryz.ti260), (261, Tryz.ti261), (262, Tryz.ti262), (263, Tryz.ti263), (265, Tryz.ti265), (266, Tryz.ti266), (267, Tryz.ti267), (268, Tryz.ti268), (269, Tryz.ti269), (270, Tryz.ti270), (271, Tryz.ti271), (272, Tryz.ti272), (273, Tryz.ti273), (274, Tryz.ti274), (275, Tryz.ti275), (276, Tryz.ti276), (278, Tryz.ti278), (279, Tryz.ti279), (280, Tryz.ti280), (281, Tryz.ti281), (283, Tryz.ti283), (284, Tryz.ti284), (285, Tryz.ti285), (286, Tryz.ti286), (287, Tryz.ti287), (288, Tryz.ti288), (289, Tryz.ti289), (290, Tryz.ti290), (291, Tryz.ti291), (292, Tryz.ti292), (293, Tryz.ti293), (295, Tryz.ti295), (296, Tryz.ti296), (297, Tryz.ti297), (298, Tryz.ti298), (299, Tryz.ti299), (301, Tryz.ti301), (302, Tryz.ti302), (303, Tryz.ti303), (304, Tryz.ti304), (305, Tryz.ti305), (306, Tryz.ti306), (307, Tryz.ti307), (308, Tryz.ti308), (309, Tryz.ti309), (310, Tryz.ti310), (311, Tryz.ti311), (312, Tryz.ti312), (313, Tryz.ti313), (314, Tryz.ti314), (315, Tryz.ti315), (316, Tryz.ti316), (317, Tryz.ti317), (318, Tryz.ti318), (319, Tryz.ti319), (320, Tryz.ti320), (321, Tryz.ti321), (322, Tryz.ti322), (323, Tryz.ti323), (324, Tryz.ti324), (325, Tryz.ti325), (326, Tryz.ti326), (327, Tryz.ti327), (328, Tryz.ti328), (329, Tryz.ti329), (330, Tryz.ti330), (332, Tryz.ti332), (333, Tryz.ti333), (334, Tryz.ti334), (335, Tryz.ti335), (336, Tryz.ti336), (337, Tryz.ti337), (338, Tryz.ti338), (339, Tryz.ti339), (340, Tryz.ti340), (341, Tryz.ti341), (342, Tryz.ti342), (343, Tryz.ti343), (344, Tryz.ti344), (345, Tryz.ti345), (346, Tryz.ti346), (347, Tryz.ti347), (348, Tryz.ti348), (349, Tryz.ti349), (350, Tryz.ti350), (351, Tryz.ti351), (352, Tryz.ti352), (353, Tryz.ti353), (354, Tryz.ti354), (355, Tryz.ti355), (356, Tryz.ti356), (357, Tryz.ti357), (358, Tryz.ti358), (359, Tryz.ti359), (360, Tryz.ti360), (361, Tryz.ti361), (362, Tryz.ti362), (363, Tryz.ti363), (364, Tryz.ti364), (365, Tryz.ti365), (366, Tryz.ti366), (368, Tryz.ti368), (369, Tryz.ti369), (370, Tryz.ti370), (371, Tryz.ti371), (372, Tryz.ti372), (373, Tryz.ti373), (374, Tryz.ti374), (375, Tryz.ti375), (376, Tryz.ti376), (377, Tryz.ti377), (378, Tryz.ti378), (379, Tryz.ti379), (380, Tryz.ti380), (381, Tryz.ti381), (382, Tryz.ti382), (383, Tryz.ti383), (384, Tryz.ti384), (385, Tryz.ti385), (386, Tryz.ti386), (387, Tryz.ti387), (388, Tryz.ti388), (389, Tryz.ti389), (390, Tryz.ti390), (391, Tryz.ti391), (392, Tryz.ti392), (393, Tryz.ti393), (394, Tryz.ti394), (395, Tryz.ti395), (396, Tryz.ti396), (397, Tryz.ti397), (398, Tryz.ti398), (399, Tryz.ti399), (400, Tryz.ti400), (401, Tryz.ti401), (402, Tryz.ti402), (404, Tryz.ti404), (405, Tryz.ti405), (406, Tryz.ti406), (407, Tryz.ti407), (408, Tryz.ti408), (409, Tryz.ti409), (410, Tryz.ti410), (411, Tryz.ti411), (412, Tryz.ti412), (413, Tryz.ti413), (414, Tryz.ti414), (415, Tryz.ti415), (416, Tryz.ti416), (417, Tryz.ti417), (419, Tryz.ti419), (420, Tryz.ti420), (421, Tryz.ti421), (422, Tryz.ti422), (423, Tryz.ti423), (424, Tryz.ti424), (425, Tryz.ti425), (426, Tryz.ti426), (427, Tryz.ti427), (429, Tryz.ti429), (430, Tryz.ti430), (431, Tryz.ti431), (432, Tryz.ti432), (433, Tryz.ti433), (434, Tryz.ti434), (435, Tryz.ti435), (436, Tryz.ti436), (437, Tryz.ti437), (438, Tryz.ti438), (439, Tryz.ti439), (440, Tryz.ti440), (441, Tryz.ti441), (442, Tryz.ti442), (443, Tryz.ti443), (444, Tryz.ti444), (445, Tryz.ti445), (447, Tryz.ti447), (448, Tryz.ti448), (449, Tryz.ti449), (451, Tryz.ti451), (453, Tryz.ti453), (454, Tryz.ti454), (455, Tryz.ti455), (456, Tryz.ti456), (457, Tryz.ti457), (458, Tryz.ti458), (459, Tryz.ti459), (460, Tryz.ti460), (462, Tryz.ti462), (463, Tryz.ti463), (464, Tryz.ti464), (465, Tryz.ti465), (466, Tryz.ti466), (467, Tryz.ti467), (468, Tryz.ti468), (469, Tryz.ti469), (470, Tryz.ti470), (471, Tryz.ti471), (472, Tryz.ti472), (473, Tryz.ti473), (474, Tryz.ti474), (475, Tryz.ti475), (476, Tryz.ti476), (477, Tryz.ti477), (478, Tryz.ti478), (479, Tryz.ti479), (480, Tryz.ti480), (481, Tryz.ti481), (482, Tryz.ti482), (483, Tryz.ti483), (484, Tryz.ti484), (485, Tryz.ti485), (486, Tryz.ti486), (487, Tryz.ti487), (488, Tryz.ti488), (489, Tryz.ti489), (490, Tryz.ti490), (491, Tryz.ti491), (493, Tryz.ti493), (494, Tryz.ti494), (495, Tryz.ti495), (496, Tryz.ti496), (497, Tryz.ti497), (498, Tryz.ti498), (499, Tryz.ti499), (500, Tryz.ti500), (501, Tryz.ti501), (502, Tryz.ti502), (503, Tryz.ti503), (504, Tryz.ti504), (505, Tryz.ti505), (506, Tryz.ti506), (508, Tryz.ti508), (509, Tryz.ti509), (512, Tryz.ti512), (514, Tryz.ti514), (515, Tryz.ti515), (516, Tryz.ti516), (517, Tryz.ti517), (519, Tryz.ti519), (520, Tryz.ti520), (521, Tryz.ti521), (522, Tryz.ti522), (523, Tryz.ti523), (524, Tryz.ti524), (525, Tryz.ti525), (526, Tryz.ti526), (527, Tryz.ti527), (528, Tryz.ti528), (529, Tryz.ti529), (530, Tryz.ti530), (531, Tryz.ti531), (532, Tryz.ti532), (533, Tryz.ti533), (534, Tryz.ti534), (535, Tryz.ti535), (536, Tryz.ti536), (537, Tryz.ti537), (538, Tryz.ti538), (539, Tryz.ti539), (541, Tryz.ti541), (545, Tryz.ti545), (547, Tryz.ti547), (549, Tryz.ti549), (550, Tryz.ti550), (551, Tryz.ti551), (552, Tryz.ti552), (553, Tryz.ti553), (554, Tryz.ti554), (555, Tryz.ti555), (556, Tryz.ti556), (557, Tryz.ti557), (558, Tryz.ti558), (559, Tryz.ti559), (560, Tryz.ti560), (561, Tryz.ti561), (562, Tryz.ti562), (563, Tryz.ti563), (564, Tryz.ti564), (565, Tryz.ti565), (566, Tryz.ti566), (567, Tryz.ti567), (568, Tryz.ti568), (569, Tryz.ti569), (570, Tryz.ti570), (571, Tryz.ti571), (572, Tryz.ti572), (573, Tryz.ti573), (574, Tryz.ti574), (575, Tryz.ti575), (576, Tryz.ti576), (579, Tryz.ti579), (580, Tryz.ti580), (581, Tryz.ti581), (582, Tryz.ti582), (583, Tryz.ti583), (584, Tryz.ti584), (585, Tryz.ti585), (586, Tryz.ti586), (587, Tryz.ti587), (588, Tryz.ti588), (589, Tryz.ti589), (590, Tryz.ti590), (591, Tryz.ti591), (592, Tryz.ti592), (597, Tryz.ti597), (598, Tryz.ti598), (599, Tryz.ti599), (600, Tryz.ti600), (601, Tryz.ti601), (602, Tryz.ti602), (603, Tryz.ti603), (604, Tryz.ti604), (605, Tryz.ti605), (606, Tryz.ti606), (607, Tryz.ti607), (608, Tryz.ti608), (609, Tryz.ti609), (610, Tryz.ti610), (611, Tryz.ti611), (612, Tryz.ti612), (613, Tryz.ti613), (614, Tryz.ti614), (615, Tryz.ti615), (616, Tryz.ti616), (617, Tryz.ti617), (618, Tryz.ti618), (619, Tryz.ti619), (620, Tryz.ti620), (621, Tryz.ti621), (622, Tryz.ti622), (623, Tryz.ti623), (624, Tryz.ti624), (626, Tryz.ti626), (628, Tryz.ti628), (629, Tryz.ti629), (630, Tryz.ti630)]
noncomputable def Tryz.fl : List (Nat × Func) := [(3, Tryz.f3), (4, Tryz.f4), (5, Tryz.f5), (6, Tryz.f6), (7, Tryz.f7), (8, Tryz.f8), (9, Tryz.f9), (10, Tryz.f10), (11, Tryz.f11), (12, Tryz.f12), (13, Tryz.f13), (14, Tryz.f14), (15, Tryz.f15), (16, Tryz.f16), (17, Tryz.f17), (19, Tryz.f19), (22, Tryz.f22), (23, Tryz.f23), (24, Tryz.f24), (26, Tryz.f26), (27, Tryz.f27), (28, Tryz.f28), (34, Tryz.f34), (35, Tryz.f35), (36, Tryz.f36), (37, Tryz.f37), (38, Tryz.f38), (39, Tryz.f39), (40, Tryz.f40), (43, Tryz.f43), (44, Tryz.f44), (45, Tryz.f45), (46, Tryz.f46), (47, Tryz.f47), (49, Tryz.f49), (51, Tryz.f51), (52, Tryz.f52), (54, Tryz.f54), (56, Tryz.f56), (64, Tryz.f64), (65, Tryz.f65), (66, Tryz.f66), (69, Tryz.f69), (70, Tryz.f70), (71, Tryz.f71), (72, Tryz.f72), (73, Tryz.f73), (74, Tryz.f74), (75, Tryz.f75), (76, Tryz.f76), (77, Tryz.f77), (78, Tryz.f78), (79, Tryz.f79), (80, Tryz.f80), (82, Tryz.f82), (85, Tryz.f85), (86, Tryz.f86), (87, Tryz.f87), (88, Tryz.f88), (90, Tryz.f90), (95, Tryz.f95), (96, Tryz.f96), (97, Tryz.f97), (98, Tryz.f98), (99, Tryz.f99), (100, Tryz.f100), (101, Tryz.f101), (102, Tryz.f102), (103, Tryz.f103), (104, Tryz.f104), (105, Tryz.f105), (107, Tryz.f107), (108, Tryz.f108), (109, Tryz.f109), (110, Tryz.f110), (111, Tryz.f111), (112, Tryz.f112), (114, Tryz.f114), (115, Tryz.f115), (116, Tryz.f116), (117, Tryz.f117), (118, Tryz.f118), (119, Tryz.f119), (124, Tryz.f124), (125, Tryz.f125), (128, Tryz.f128), (129, Tryz.f129), (131, Tryz.f131), (132, Tryz.f132), (133, Tryz.f133), (136, Tryz.f136), (137, Tryz.f137), (138, Tryz.f138), (139, Tryz.f139), (140, Tryz.f140), (141, Tryz.f141), (144, Tryz.f144), (145, Tryz.f145), (146, Tryz.f146), (147, Tryz.f147), (148, Tryz.f148), (149, Tryz.f149), (150, Tryz.f150), (151, Tryz.f151), (152, Tryz.f152), (153, Tryz.f153), (154, Tryz.f154), (155, Tryz.f155), (156, Tryz.f156), (157, Tryz.f157), (159, Tryz.f159), (160, Tryz.f160), (161, Tryz.f161), (164, Tryz.f164), (165, Tryz.f165), (171, Tryz.f171), (175, Tryz.f175), (176, Tryz.f176), (177, Tryz.f177), (178, Tryz.f178), (181, Tryz.f181), (183, Tryz.f183), (184, Tryz.f184), (185, Tryz.f185), (188, Tryz.f188), (189, Tryz.f189), (190, Tryz.f190), (191, Tryz.f191), (192, Tryz.f192), (193, Tryz.f193), (194, Tryz.f194), (195, Tryz.f195), (196, Tryz.f196), (197, Tryz.f197), (198, Tryz.f198), (199, Tryz.f199), (201, Tryz.f201), (202, Tryz.f202), (210, Tryz.f210), (211, Tryz.f211), (212, Tryz.f212), (213, Tryz.f213), (215, Tryz.f215), (217, Tryz.f217), (218, Tryz.f218), (221, Tryz.f221), (227, Tryz.f227), (228, Tryz.f228), (229, Tryz.f229), (231, Tryz.f231), (232, Tryz.f232), (233, Tryz.f233), (234, Tryz.f234), (235, Tryz.f235), (236, Tryz.f236), (237, Tryz.f237), (238, Tryz.f238), (239, Tryz.f239), (244, Tryz.f244), (247, Tryz.f247), (250, Tryz.f250), (255, Tryz.f255), (256, Tryz.f256), (261, Tryz.f261), (262, Tryz.f262), (266, Tryz.f266), (267, Tryz.f267), (268, Tryz.f268), (270, Tryz.f270), (271, Tryz.f271), (272, Tryz.f272), (273, Tryz.f273), (274, Tryz.f274), (275, Tryz.f275), (276, Tryz.f276), (280, Tryz.f280), (281, Tryz.f281), (282, Tryz.f282), (283, Tryz.f283), (285, Tryz.f285), (286, Tryz.f286), (289, Tryz.f289), (290, Tryz.f290), (296, Tryz.f296), (306, Tryz.f306), (307, Tryz.f307), (308, Tryz.f308), (311, Tryz.f311), (313, Tryz.f313), (316, Tryz.f316), (317, Tryz.f317), (326, Tryz.f326), (327, Tryz.f327), (328, Tryz.f328), (330, Tryz.f330), (331, Tryz.f331), (336, Tryz.f336), (338, Tryz.f338), (345, Tryz.f345), (346, Tryz.f346), (347, Tryz.f347), (348, Tryz.f348), (352, Tryz.f352), (355, Tryz.f355), (357, Tryz.f357), (358, Tryz.f358), (372, Tryz.f372), (374, Tryz.f374), (383, Tryz.f383), (384, Tryz.f384), (385, Tryz.f385), (388, Tryz.f388), (389, Tryz.f389), (396, Tryz.f396), (397, Tryz.f397), (398, Tryz.f398), (407, Tryz.f407), (430, Tryz.f430), (433, Tryz.f433), (439, Tryz.f439), (440, Tryz.f440)]
theorem Tryz.ety_eq : Tryz.ety = ofList Tryz.tl := by kernel_rfl
theorem Tryz.efn_eq : Tryz.efn = ofList Tryz.fl := by kernel_rfl
theorem Tryz.tall : AllL (fun p => TIok Tryz.prog p.1 p.2) Tryz.tl := AllL.cons _ _ Tryz.tok1 <| AllL.cons _ _ Tryz.tok2 <| AllL.cons _ _ Tryz.tok3 <| AllL.cons _ _ Tryz.tok4 <| AllL.cons _ _ Tryz.tok5 <| AllL.cons _ _ Tryz.tok6 <| AllL.cons _ _ Tryz.tok7 <| AllL.cons _ _ Tryz.tok8 <| AllL.cons _ _ Tryz.tok9 <| AllL.cons _ _ Tryz.tok10 <| AllL.cons _ _ Tryz.tok11 <| AllL.cons _ _ Tryz.tok12 <| AllL.cons _ _ Tryz.tok13 <| AllL.cons _ _ Tryz.tok14 <| AllL.cons _ _ Tryz.tok15 <| AllL.cons _ _ Tryz.tok16 <| AllL.cons _ _ Tryz.tok17 <| AllL.cons _ _ Tryz.tok18 <| AllL.cons _ _ Tryz.tok19 <| AllL.cons _ _ Tryz.tok20 <| AllL.cons _ _ Tryz.tok21 <| AllL.cons _ _ Tryz.tok22 <| AllL.cons _ _ Tryz.tok23 <| AllL.cons _ _ Tryz.tok24 <| AllL.cons _ _ Tryz.tok25 <| AllL.cons _ _ Tryz.tok26 <| AllL.cons _ _ Tryz.tok28 <| AllL.cons _ _ Tryz.tok30 <| AllL.cons _ _ Tryz.tok31 <| AllL.cons _ _ Tryz.tok32 <| AllL.cons _ _ Tryz.tok33 <| AllL.cons _ _ Tryz.tok34 <| AllL.cons _ _ Tryz.tok35 <| AllL.cons _ _ Tryz.tok36 <| AllL.cons _ _ Tryz.tok37 <| AllL.cons _ _ Tryz.tok38 <| AllL.cons _ _ Tryz.tok39 <| AllL.cons _ _ Tryz.tok40 <| AllL.cons _ _ Tryz.tok41 <| AllL.cons _ _ Tryz.tok42 <| AllL.cons _ _ Tryz.tok43 <| AllL.cons _ _ Tryz.tok44 <| AllL.cons _ _ Tryz.tok45 <| AllL.cons _ _ Tryz.tok46 <| AllL.cons _ _ Tryz.tok47 <| AllL.cons _ _ Tryz.tok48 <| AllL.cons _ _ Tryz.tok49 <| AllL.cons _ _ Tryz.tok50 <| AllL.cons _ _ Tryz.tok51 <| AllL.cons _ _ Tryz.tok52 <| AllL.cons _ _ Tryz.tok53 <| AllL.cons _ _ Tryz.tok54 <| AllL.cons _ _ Tryz.tok55 <| AllL.cons _ _ Tryz.tok56 <| AllL.cons _ _ Tryz.tok57 <| AllL.cons _ _ Tryz.tok58 <| AllL.cons _ _ Tryz.tok59 <| AllL.cons _ _ Tryz.tok60 <| AllL.cons _ _ Tryz.tok61 <| AllL.cons _ _ Tryz.tok62 <| AllL.cons _ _ Tryz.tok63 <| AllL.cons _ _ Tryz.tok64 <| AllL.cons _ _ Tryz.tok65 <| AllL.cons _ _ Tryz.tok66 <| AllL.cons _ _ Tryz.tok67 <| AllL.cons _ _ Tryz.tok68 <| AllL.cons _ _ Tryz.tok69 <| AllL.cons _ _ Tryz.tok70 <| AllL.cons _ _ Tryz.tok71 <| AllL.cons _ _ Tryz.tok72 <| AllL.cons _ _ Tryz.tok73 <| AllL.cons _ _ Tryz.tok74 <| AllL.cons _ _ Tryz.tok75 <| AllL.cons _ _ Tryz.tok76 <| AllL.cons _ _ Tryz.tok77 <| AllL.cons _ _ Tryz.tok78 <| AllL.cons _ _ Tryz.tok79 <| AllL.cons _ _ Tryz.tok81 <| AllL.cons _ _ Tryz.tok83 <| AllL.cons _ _ Tryz.tok84 <| AllL.cons _ _ Tryz.tok86 <| AllL.cons _ _ Tryz.tok87 <| AllL.cons _ _ Tryz.tok88 <| AllL.cons _ _ Tryz.tok89 <| AllL.cons _ _ Tryz.tok90 <| AllL.cons _ _ Tryz.tok91 <| AllL.cons _ _ Tryz.tok92 <| AllL.cons _ _ Tryz.tok93 <| AllL.cons _ _ Tryz.tok94 <| AllL.cons _ _ Tryz.tok95 <| AllL.cons _ _ Tryz.tok96 <| AllL.cons _ _ Tryz.tok97 <| AllL.cons _ _ Tryz.tok98 <| AllL.cons _ _ Tryz.tok100 <| AllL.cons _ _ Tryz.tok101 <| AllL.cons _ _ Tryz.tok103 <| AllL.cons _ _ Tryz.tok104 <| AllL.cons _ _ Tryz.tok105 <| AllL.cons _ _ Tryz.tok106 <| AllL.cons _ _ Tryz.tok107 <| AllL.cons _ _ Tryz.tok108 <| AllL.cons _ _ Tryz.tok109 <| AllL.cons _ _ Tryz.tok110 <| AllL.cons _ _ Tryz.tok111 <| AllL.cons _ _ Tryz.tok112 <| AllL.cons _ _ Tryz.tok113 <| AllL.cons _ _ Tryz.tok114 <| AllL.cons _ _ Tryz.tok115 <| AllL.cons _ _ Tryz.tok117 <| AllL.cons _ _ Tryz.tok118 <| AllL.cons _ _ Tryz.tok119 <| AllL.cons _ _ Tryz.tok120 <| AllL.cons _ _ Tryz.tok121 <| AllL.cons _ _ Tryz.tok122 <| AllL.cons _ _ Tryz.tok123 <| AllL.cons _ _ Tryz.tok124 <| AllL.cons _ _ Tryz.tok125 <| AllL.cons _ _ Tryz.tok126 <| AllL.cons _ _ Tryz.tok127 <| AllL.cons _ _ Tryz.tok128 <| AllL.cons _ _ Tryz.tok129 <| AllL.cons _ _ Tryz.tok130 <| AllL.cons _ _ Tryz.tok131 <| AllL.cons _ _ Tryz.tok132 <| AllL.cons _ _ Tryz.tok133 <| AllL.cons _ _ Tryz.tok134 <| AllL.cons _ _ Tryz.tok135 <| AllL.cons _ _ Tryz.tok136 <| AllL.cons _ _ Tryz.tok137 <| AllL.cons _ _ Tryz.tok138 <| AllL.cons _ _ Tryz.tok139 <| AllL.cons _ _ Tryz.tok140 <| AllL.cons _ _ Tryz.tok141 <| AllL.cons _ _ Tryz.tok142 <| AllL.cons _ _ Tryz.tok143 <| AllL.cons _ _ Tryz.tok144 <| AllL.cons _ _ Tryz.tok146 <| AllL.cons _ _ Tryz.tok147 <| AllL.cons _ _ Tryz.tok148 <| AllL.cons _ _ Tryz.tok149 <| AllL.cons _ _ Tryz.tok150 <| AllL.cons _ _ Tryz.tok152 <| AllL.cons _ _ Tryz.tok154 <| AllL.cons _ _ Tryz.tok155 <| AllL.cons _ _ Tryz.tok156 <| AllL.cons _ _ Tryz.tok157 <| AllL.cons _ _ Tryz.tok158 <| AllL.cons _ _ Tryz.tok159 <| AllL.cons _ _ Tryz.tok160 <| AllL.cons _ _ Tryz.tok161 <| AllL.cons _ _ Tryz.tok163 <| AllL.cons _ _ Tryz.tok165 <| AllL.cons _ _ Tryz.tok167 <| AllL.cons _ _ Tryz.tok168 <| AllL.cons _ _ Tryz.tok170 <| AllL.cons _ _ Tryz.tok171 <| AllL.cons _ _ Tryz.tok172 <| AllL.cons _ _ Tryz.tok174 <| AllL.cons _ _ Tryz.tok175 <| AllL.cons _ _ Tryz.tok176 <| AllL.cons _ _ Tryz.tok177 <| AllL.cons _ _ Tryz.tok178 <| AllL.cons _ _ Tryz.tok179 <| AllL.cons _ _ Tryz.tok180 <| AllL.cons _ _ Tryz.tok181 <| AllL.cons _ _ Tryz.tok182 <| AllL.cons _ _ Tryz.tok183 <| AllL.cons _ _ Tryz.tok185 <| AllL.cons _ _ Tryz.tok186 <| AllL.cons _ _ Tryz.tok187 <| AllL.cons _ _ Tryz.tok188 <| AllL.cons _ _ Tryz.tok189 <| AllL.cons _ _ Tryz.tok190 <| AllL.cons _ _ Tryz.tok191 <| AllL.cons _ _ Tryz.tok192 <| AllL.cons _ _ Tryz.tok193 <| AllL.cons _ _ Tryz.tok194 <| AllL.cons _ _ Tryz.tok195 <| AllL.cons _ _ Tryz.tok196 <| AllL.cons _ _ Tryz.tok197 <| AllL.cons _ _ Tryz.tok198 <| AllL.cons _ _ Tryz.tok199 <| AllL.cons _ _ Tryz.tok200 <| AllL.cons _ _ Tryz.tok201 <| AllL.cons _ _ Tryz.tok202 <| AllL.cons _ _ Tryz.tok203 <| AllL.cons _ _ Tryz.tok204 <| AllL.cons _ _ Tryz.tok206 <| AllL.cons _ _ Tryz.tok208 <| AllL.cons _ _ Tryz.tok209 <| AllL.cons _ _ Tryz.tok210 <| AllL.cons _ _ Tryz.tok211 <| AllL.cons _ _ Tryz.tok213 <| AllL.cons _ _ Tryz.tok214 <| AllL.cons _ _ Tryz.tok215 <| AllL.cons _ _ Tryz.tok216 <| AllL.cons _ _ Tryz.tok217 <| AllL.cons _ _ Tryz.tok218 <| AllL.cons _ _ Tryz.tok219 <| AllL.cons _ _ Tryz.tok220 <| AllL.cons _ _ Tryz.tok222 <| AllL.cons _ _ Tryz.tok223 <| AllL.cons _ _ Tryz.tok224 <| AllL.cons _ _ Tryz.tok225 <| AllL.cons _ _ Tryz.tok226 <| AllL.cons _ _ Tryz.tok227 <| AllL.cons _ _ Tryz.tok228 <| AllL.cons _ _ Tryz.tok229 <| AllL.cons _ _ Tryz.tok230 <| AllL.cons _ _ Tryz.tok231 <| AllL.cons _ _ Tryz.tok232 <| AllL.cons _ _ Tryz.tok233 <| AllL.cons _ _ Tryz.tok234 <| AllL.cons _ _ Tryz.tok235 <| AllL.cons _ _ Tryz.tok237 <| AllL.cons _ _ Tryz.tok238 <| AllL.cons _ _ Tryz.tok239 <| AllL.cons _ _ Tryz.tok240 <| AllL.cons _ _ Tryz.tok241 <| AllL.cons _ _ Tryz.tok242 <| AllL.cons _ _ Tryz.tok243 <| AllL.cons _ _ Tryz.tok244 <| AllL.cons _ _ Tryz.tok245 <| AllL.cons _ _ Tryz.tok246 <| AllL.cons _ _ Tryz.tok247 <| AllL.cons _ _ Tryz.tok248 <| AllL.cons _ _ Tryz.tok249 <| AllL.cons _ _ Tryz.tok250 <| AllL.cons _ _ Tryz.tok252 <| AllL.cons _ _ Tryz.tok253 <| AllL.cons _ _ Tryz.tok255 <| AllL.cons _ _ Tryz.tok256 <| AllL.cons _ _ Tryz.tok257 <| AllL.cons _ _ Tryz.tok258 <| AllL.cons _ _ Tryz.tok259 <| AllL.cons _ _ Tryz.tok260 <| AllL.cons _ _ Tryz.tok261 <| AllL.cons _ _ Tryz.tok262 <| AllL.cons _ _ Tryz.tok263 <| AllL.cons _ _ Tryz.tok265 <| AllL.cons _ _ Tryz.tok266 <| AllL.cons _ _ Tryz.tok267 <| AllL.cons _ _ Tryz.tok268 <| AllL.cons _ _ Tryz.tok269 <| AllL.cons _ _ Tryz.tok270 <| AllL.cons _ _ Tryz.tok271 <| AllL.cons _ _ Tryz.tok272 <| AllL.cons _ _ Tryz.tok273 <| AllL.cons _ _ Tryz.tok274 <| AllL.cons _ _ Tryz.tok275 <| AllL.cons _ _ Tryz.tok276 <| AllL.cons _ _ Tryz.tok278 <| AllL.cons _ _ Tryz.tok279 <| AllL.cons _ _ Tryz.tok280 <| AllL.cons _ _ Tryz.tok281 <| AllL.cons _ _ Tryz.tok283 <| AllL.cons _ _ Tryz.tok284 <| AllL.cons _ _ Tryz.tok285 <| AllL.cons _ _ Tryz.tok286 <| AllL.cons _ _ Tryz.tok287 <| AllL.cons _ _ Tryz.tok288 <| AllL.cons _ _ Tryz.tok289 <| AllL.cons _ _ Tryz.tok290 <| AllL.cons _ _ Tryz.tok291 <| AllL.cons _ _ Tryz.tok292 <| AllL.cons _ _ Tryz.tok293 <| AllL.cons _ _ Tryz.tok295 <| AllL.cons _ _ Tryz.tok296 <| AllL.cons _ _ Tryz.tok297 <| AllL.cons _ _ Tryz.tok298 <| AllL.cons _ _ Tryz.tok299 <| AllL.cons _ _ Tryz.tok301 <| AllL.cons _ _ Tryz.tok302 <| AllL.cons _ _ Tryz.tok303 <| AllL.cons _ _ Tryz.tok304 <| AllL.cons _ _ Tryz.tok305 <| AllL.cons _ _ Tryz.tok306 <| AllL.cons _ _ Tryz.tok307 <| AllL.cons _ _ Tryz.tok308 <| AllL.cons _ _ Tryz.tok309 <| AllL.cons _ _ Tryz.tok310 <| AllL.cons _ _ Tryz.tok311 <| AllL.cons _ _ Tryz.tok312 <| AllL.cons _ _ Tryz.tok313 <| AllL.cons _ _ Tryz.tok314 <| AllL.cons _ _ Tryz.tok315 <| AllL.cons _ _ Tryz.tok316 <| AllL.cons _ _ Tryz.tok317 <| AllL.cons _ _ Tryz.tok318 <| AllL.cons _ _ Tryz.tok319 <| AllL.cons _ _ Tryz.tok320 <| AllL.cons _ _ Tryz.tok321 <| AllL.cons _ _ Tryz.tok322 <| AllL.cons _ _ Tryz.tok323 <| AllL.cons _ _ Tryz.tok324 <| AllL.cons _ _ Tryz.tok325 <| AllL.cons _ _ Tryz.tok326 <| AllL.cons _ _ Tryz.tok327 <| AllL.cons _ _ Tryz.tok328 <| AllL.cons _ _ Tryz.tok329 <| AllL.cons _ _ Tryz.tok330 <| AllL.cons _ _ Tryz.tok332 <| AllL.cons _ _ Tryz.tok333 <| AllL.cons _ _ Tryz.tok334 <| AllL.cons _ _ Tryz.tok335 <| AllL.cons _ _ Tryz.tok336 <| AllL.cons _ _ Tryz.tok337 <| AllL.cons _ _ Tryz.tok338 <| AllL.cons _ _ Tryz.tok339 <| AllL.cons _ _ Tryz.tok340 <| AllL.cons _ _ Tryz.tok341 <| AllL.cons _ _ Tryz.tok342 <| AllL.cons _ _ Tryz.tok343 <| AllL.cons _ _ Tryz.tok344 <| AllL.cons _ _ Tryz.tok345 <| AllL.cons _ _ Tryz.tok346 <| AllL.cons _ _ Tryz.tok347 <| AllL.cons _ _ Tryz.tok348 <| AllL.cons _ _ Tryz.tok349 <| AllL.cons _ _ Tryz.tok350 <| AllL.cons _ _ Tryz.tok351 <| AllL.cons _ _ Tryz.tok352 <| AllL.cons _ _ Tryz.tok353 <| AllL.cons _ _ Tryz.tok354 <| AllL.cons _ _ Tryz.tok355 <| AllL.cons _ _ Tryz.tok356 <| AllL.cons _ _ Tryz.tok357 <| AllL.cons _ _ Tryz.tok358 <| AllL.cons _ _ Tryz.tok359 <| AllL.cons _ _ Tryz.tok360 <| AllL.cons _ _ Tryz.tok361 <| AllL.cons _ _ Tryz.tok362 <| AllL.cons _ _ Tryz.tok363 <| AllL.cons _ _ Tryz.tok364 <| AllL.cons _ _ Tryz.tok365 <| AllL.cons _ _ Tryz.tok366 <| AllL.cons _ _ Tryz.tok368 <| AllL.cons _ _ Tryz.tok369 <| AllL.cons _ _ Tryz.tok370 <| AllL.cons _ _ Tryz.tok371 <| AllL.cons _ _ Tryz.tok372 <| AllL.cons _ _ Tryz.tok373 <| AllL.cons _ _ Tryz.tok374 <| AllL.cons _ _ Tryz.tok375 <| AllL.cons _ _ Tryz.tok376 <| AllL.cons _ _ Tryz.tok377 <| AllL.cons _ _ Tryz.tok378 <| AllL.cons _ _ Tryz.tok379 <| AllL.cons _ _ Tryz.tok380 <| AllL.cons _ _ Tryz.tok381 <| AllL.cons _ _ Tryz.tok382 <| AllL.cons _ _ Tryz.tok383 <| AllL.cons _ _ Tryz.tok384 <| AllL.cons _ _ Tryz.tok385 <| AllL.cons _ _ Tryz.tok386 <| AllL.cons _ _ Tryz.tok387 <| AllL.cons _ _ Tryz.tok388 <| AllL.cons _ _ Tryz.tok389 <| AllL.cons _ _ Tryz.tok390 <| AllL.cons _ _ Tryz.tok391 <| AllL.cons _ _ Tryz.tok392 <| AllL.cons _ _ Tryz.tok393 <| AllL.cons _ _ Tryz.tok394 <| AllL.cons _ _ Tryz.tok395 <| AllL.cons _ _ Tryz.tok396 <| AllL.cons _ _ Tryz.tok397 <| AllL.cons _ _ Tryz.tok398 <| AllL.cons _ _ Tryz.tok399 <| AllL.cons _ _ Tryz.tok400 <| AllL.cons _ _ Tryz.tok401 <| AllL.cons _ _ Tryz.tok402 <| AllL.cons _ _ Tryz.tok404 <| AllL.cons _ _ Tryz.tok405 <| AllL.cons _ _ Tryz.tok406 <| AllL.cons _ _ Tryz.tok407 <| AllL.cons _ _ Tryz.tok408 <| AllL.cons _ _ Tryz.tok409 <| AllL.cons _ _ Tryz.tok410 <| AllL.cons _ _ Tryz.tok411 <| AllL.cons _ _ Tryz.tok412 <| AllL.cons _ _ Tryz.tok413 <| AllL.cons _ _ Tryz.tok414 <| AllL.cons _ _ Tryz.tok415 <| AllL.cons _ _ Tryz.tok416 <| AllL.cons _ _ Tryz.tok417 <| AllL.cons _ _ Tryz.tok419 <| AllL.cons _ _ Tryz.tok420 <| AllL.cons _ _ Tryz.tok421 <| AllL.cons _ _ Tryz.tok422 <| AllL.cons _ _ Tryz.tok423 <| AllL.cons _ _ Tryz.tok424 <| AllL.cons _ _ Tryz.tok425 <| AllL.cons _ _ Tryz.tok426 <| AllL.cons _ _ Tryz.tok427 <| AllL.cons _ _ Tryz.tok429 <| AllL.cons _ _ Tryz.tok430 <| AllL.cons _ _ Tryz.tok431 <| AllL.cons _ _ Tryz.tok432 <| AllL.cons _ _ Tryz.tok433 <| AllL.cons _ _ Tryz.tok434 <| AllL.cons _ _ Tryz.tok435 <| AllL.cons _ _ Tryz.tok436 <| AllL.cons _ _ Tryz.tok437 <| AllL.cons _ _ Tryz.tok438 <| AllL.cons _ _ Tryz.tok439 <| AllL.cons _ _ Tryz.tok440 <| AllL.cons _ _ Tryz.tok441 <| AllL.cons _ _ Tryz.tok442 <| AllL.cons _ _ Tryz.tok443 <| AllL.cons _ _ Tryz.tok444 <| AllL.cons _ _ Tryz.tok445 <| AllL.cons _ _ Tryz.tok447 <| AllL.cons _ _ Tryz.tok448 <| AllL.cons _ _ Tryz.tok449 <| AllL.cons _ _ Tryz.tok451 <| AllL.cons _ _ Tryz.tok453 <| AllL.cons _ _ Tryz.tok454 <| AllL.cons _ _ Tryz.tok455 <| AllL.cons _ _ Tryz.tok456 <| AllL.cons _ _ Tryz.tok457 <| AllL.cons _ _ Tryz.tok458 <| AllL.cons _ _ Tryz.tok459 <| AllL.cons _ _ Tryz.tok460 <| AllL.cons _ _ Tryz.tok462 <| AllL.cons _ _ Tryz.tok463 <| AllL.cons _ _ Tryz.tok464 <| AllL.cons _ _ Tryz.tok465 <| AllL.cons _ _ Tryz.tok466 <| AllL.cons _ _ Tryz.tok467 <| AllL.cons _ _ Tryz.tok468 <| AllL.cons _ _ Tryz.tok469 <| AllL.cons _ _ Tryz.tok470 <| AllL.cons _ _ Tryz.tok471 <| AllL.cons _ _ Tryz.tok472 <| AllL.cons _ _ Tryz.tok473 <| AllL.cons _ _ Tryz.tok474 <| AllL.cons _ _ Tryz.tok475 <| AllL.cons _ _ Tryz.tok476 <| AllL.cons _ _ Tryz.tok477 <| AllL.cons _ _ Tryz.tok478 <| AllL.cons _ _ Tryz.tok479 <| AllL.cons _ _ Tryz.tok480 <| AllL.cons _ _ Tryz.tok481 <| AllL.cons _ _ Tryz.tok482 <| AllL.cons _ _ Tryz.tok483 <| AllL.cons _ _ Tryz.tok484 <| AllL.cons _ _ Tryz.tok485 <| AllL.cons _ _ Tryz.tok486 <| AllL.cons _ _ Tryz.tok487 <| AllL.cons _ _ Tryz.tok488 <| AllL.cons _ _ Tryz.tok489 <| AllL.cons _ _ Tryz.tok490 <| AllL.cons _ _ Tryz.tok491 <| AllL.cons _ _ Tryz.tok493 <| AllL.cons _ _ Tryz.tok494 <| AllL.cons _ _ Tryz.tok495 <| AllL.cons _ _ Tryz.tok496 <| AllL.cons _ _ Tryz.tok497 <| AllL.cons _ _ Tryz.tok498 <| AllL.cons _ _ Tryz.tok499 <| AllL.cons _ _ Tryz.tok500 <| AllL.cons _ _ Tryz.tok501 <| AllL.cons _ _ Tryz.tok502 <| AllL.cons _ _ Tryz.tok503 <| AllL.cons _ _ Tryz.tok504 <| AllL.cons _ _ Tryz.tok505 <| AllL.cons _ _ Tryz.tok506 <| AllL.cons _ _ Tryz.tok508 <| AllL.cons _ _ Tryz.tok509 <| AllL.cons _ _ Tryz.tok512 <| AllL.cons _ _ Tryz.tok514 <| AllL.cons _ _ Tryz.tok515 <| AllL.cons _ _ Tryz.tok516 <| AllL.cons _ _ Tryz.tok517 <| AllL.cons _ _ Tryz.tok519 <| AllL.cons _ _ Tryz.tok520 <| AllL.cons _ _ Tryz.tok521 <| AllL.cons _ _ Tryz.tok522 <| AllL.cons _ _ Tryz.tok523 <| AllL.cons _ _ Tryz.tok524 <| AllL.cons _ _ Tryz.tok525 <| AllL.cons _ _ Tryz.tok526 <| AllL.cons _ _ Tryz.tok527 <| AllL.cons _ _ Tryz.tok528 <| AllL.cons _ _ Tryz.tok529 <| AllL.cons _ _ Tryz.tok530 <| AllL.cons _ _ Tryz.tok531 <| AllL.cons _ _ Tryz.tok532 <| AllL.cons _ _ Tryz.tok533 <| AllL.cons _ _ Tryz.tok534 <| AllL.cons _ _ Tryz.tok535 <| AllL.cons _ _ Tryz.tok536 <| AllL.cons _ _ Tryz.tok537 <| AllL.cons _ _ Tryz.tok538 <| AllL.cons _ _ Tryz.tok539 <| AllL.cons _ _ Tryz.tok541 <| AllL.cons _ _ Tryz.tok545 <| AllL.cons _ _ Tryz.tok547 <| AllL.cons _ _ Tryz.tok549 <| AllL.cons _ _ Tryz.tok550 <| AllL.cons _ _ Tryz.tok551 <| AllL.cons _ _ Tryz.tok552 <| AllL.cons _ _ Tryz.tok553 <| AllL.cons _ _ Tryz.tok554 <| AllL.cons _ _ Tryz.tok555 <| AllL.cons _ _ Tryz.tok556 <| AllL.cons _ _ Tryz.tok557 <| AllL.cons _ _ Tryz.tok558 <| AllL.cons _ _ Tryz.tok559 <| AllL.cons _ _ Tryz.tok560 <| AllL.cons _ _ Tryz.tok561 <| AllL.cons _ _ Tryz.tok562 <| AllL.cons _ _ Tryz.tok563 <| AllL.cons _ _ Tryz.tok564 <| AllL.cons _ _ Tryz.tok565 <| AllL.cons _ _ Tryz.tok566 <| AllL.cons _ _ Tryz.tok567 <| AllL.cons _ _ Tryz.tok568 <| AllL.cons _ _ Tryz.tok569 <| AllL.cons _ _ Tryz.tok570 <| AllL.cons _ _ Tryz.tok571 <| AllL.cons _ _ Tryz.tok572 <| AllL.cons _ _ Tryz.tok573 <| AllL.cons _ _ Tryz.tok574 <| AllL.cons _ _ Tryz.tok575 <| AllL.cons _ _ Tryz.tok576 <| AllL.cons _ _ Tryz.tok579 <| AllL.cons _ _ Tryz.tok580 <| AllL.cons _ _ Tryz.tok581 <| AllL.cons _ _ Tryz.tok582 <| AllL.cons _ _ Tryz.tok583 <| AllL.cons _ _ Tryz.tok584 <| AllL.cons _ _ Tryz.tok585 <| AllL.cons _ _ Tryz.tok586 <| AllL.cons _ _ Tryz.tok587 <| AllL.cons _ _ Tryz.tok588 <| AllL.cons _ _ Tryz.tok589 <| AllL.cons _ _ Tryz.tok590 <| AllL.cons _ _ Tryz.tok591 <| AllL.cons _ _ Tryz.tok592 <| AllL.cons _ _ Tryz.tok597 <| AllL.cons _ _ Tryz.tok598 <| AllL.cons _ _ Tryz.tok599 <| AllL.cons _ _ Tryz.tok600 <| AllL.cons _ _ Tryz.tok601 <| AllL.cons _ _ Tryz.tok602 <| AllL.cons _ _ Tryz.tok603 <| AllL.cons _ _ Tryz.tok604 <| AllL.cons _ _ Tryz.tok605 <| AllL.cons _ _ Tryz.tok606 <| AllL.cons _ _ Tryz.tok607 <| AllL.cons _ _ Tryz.tok608 <| AllL.cons _ _ Tryz.tok609 <| AllL.cons _ _ Tryz.tok610 <| AllL.cons _ _ Tryz.tok611 <| AllL.cons _ _ Tryz.tok612 <| AllL.cons _ _ Tryz.tok613 <| AllL.cons _ _ Tryz.tok614 <| AllL.cons _ _ Tryz.tok615 <| AllL.cons _ _ Tryz.tok616 <| AllL.cons _ _ Tryz.tok617 <| AllL.cons _ _ Tryz.tok618 <| AllL.cons _ _ Tryz.tok619 <| AllL.cons _ _ Tryz.tok620 <| AllL.cons _ _ Tryz.tok621 <| AllL.cons _ _ Tryz.tok622 <| AllL.cons _ _ Tryz.tok623 <| AllL.cons _ _ Tryz.tok624 <| AllL.cons _ _ Tryz.tok626 <| AllL.cons _ _ Tryz.tok628 <| AllL.cons _ _ Tryz.tok629 <| AllL.cons _ _ Tryz.tok630 <|  AllL.nil
theorem Tryz.fall : AllL (fun p => FnOk Tryz.prog p.1 p.2) Tryz.fl := AllL.cons _ _ Tryz.fok3 <| AllL.cons _ _ Tryz.fok4 <| AllL.cons _ _ Tryz.fok5 <| AllL.cons _ _ Tryz.fok6 <| AllL.cons _ _ Tryz.fok7 <| AllL.cons _ _ Tryz.fok8 <| AllL.cons _ _ Tryz.fok9 <| AllL.cons _ _ Tryz.fok10 <| AllL.cons _ _ Tryz.fok11 <| AllL.cons _ _ Tryz.fok12 <| AllL.cons _ _ Tryz.fok13 <| AllL.cons _ _ Tryz.fok14 <| AllL.cons _ _ Tryz.fok15 <| AllL.cons _ _ Tryz.fok16 <| AllL.cons _ _ Tryz.fok17 <| AllL.cons _ _ Tryz.fok19 <| AllL.cons _ _ Tryz.fok22 <| AllL.cons _ _ Tryz.fok23 <| AllL.cons _ _ Tryz.fok24 <| AllL.cons _ _ Tryz.fok26 <| AllL.cons _ _ Tryz.fok27 <| AllL.cons _ _ Tryz.fok28 <| AllL.cons _ _ Tryz.fok34 <| AllL.cons _ _ Tryz.fok35 <| AllL.cons _ _ Tryz.fok36 <| AllL.cons _ _ Tryz.fok37 <| AllL.cons _ _ Tryz.fok38 <| AllL.cons _ _ Tryz.fok39 <| AllL.cons _ _ Tryz.fok40 <| AllL.cons _ _ Tryz.fok43 <| AllL.cons _ _ Tryz.fok44 <| AllL.cons _ _ Tryz.fok45 <| AllL.cons _ _ Tryz.fok46 <| AllL.cons _ _ Tryz.fok47 <| AllL.cons _ _ Tryz.fok49 <| AllL.cons _ _ Tryz.fok51 <| AllL.cons _ _ Tryz.fok52 <| AllL.cons _ _ Tryz.fok54 <| AllL.cons _ _ Tryz.fok56 <| AllL.cons _ _ Tryz.fok64 <| AllL.cons _ _ Tryz.fok65 <| AllL.cons _ _ Tryz.fok66 <| AllL.cons _ _ Tryz.fok69 <| AllL.cons _ _ Tryz.fok70 <| AllL.cons _ _ Tryz.fok71 <| AllL.cons _ _ Tryz.fok72 <| AllL.cons _ _ Tryz.fok73 <| AllL.cons _ _ Tryz.fok74 <| AllL.cons _ _ Tryz.fok75 <| AllL.cons _ _ Tryz.fok76 <| AllL.cons _ _ Tryz.fok77 <| AllL.cons _ _ Tryz.fok78 <| AllL.cons _ _ Tryz.fok79 <| AllL.cons _ _ Tryz.fok80 <| AllL.cons _ _ Tryz.fok82 <| AllL.cons _ _ Tryz.fok85 <| AllL.cons _ _ Tryz.fok86 <| AllL.cons _ _ Tryz.fok87 <| AllL.cons _ _ Tryz.fok88 <| AllL.cons _ _ Tryz.fok90 <| AllL.cons _ _ Tryz.fok95 <| AllL.cons _ _ Tryz.fok96 <| AllL.cons _ _ Tryz.fok97 <| AllL.cons _ _ Tryz.fok98 <| AllL.cons _ _ Tryz.fok99 <| AllL.cons _ _ Tryz.fok100 <| AllL.cons _ _ Tryz.fok101 <| AllL.cons _ _ Tryz.fok102 <| AllL.cons _ _ Tryz.fok103 <| AllL.cons _ _ Tryz.fok104 <| AllL.cons _ _ Tryz.fok105 <| AllL.cons _ _ Tryz.fok107 <| AllL.cons _ _ Tryz.fok108 <| AllL.cons _ _ Tryz.fok109 <| AllL.cons _ _ Tryz.fok110 <| AllL.cons _ _ Tryz.fok111 <| AllL.cons _ _ Tryz.fok112 <| AllL.cons _ _ Tryz.fok114 <| AllL.cons _ _ Tryz.fok115 <| AllL.cons _ _ Tryz.fok116 <| AllL.cons _ _ Tryz.fok117 <| AllL.cons _ _ Tryz.fok118 <| AllL.cons _ _ Tryz.fok119 <| AllL.cons _ _ Tryz.fok124 <| AllL.cons _ _ Tryz.fok125 <| AllL.cons _ _ Tryz.fok128 <| AllL.cons _ _ Tryz.fok129 <| AllL.cons _ _ Tryz.fok131 <| AllL.cons _ _ Tryz.fok132 <| AllL.cons _ _ Tryz.fok133 <| AllL.cons _ _ Tryz.fok136 <| AllL.cons _ _ Tryz.fok137 <| AllL.cons _ _ Tryz.fok138 <| AllL.cons _ _ Tryz.fok139 <| AllL.cons _ _ Tryz.fok140 <| AllL.cons _ _ Tryz.fok141 <| AllL.cons _ _ Tryz.fok144 <| AllL.cons _ _ Tryz.fok145 <| AllL.cons _ _ Tryz.fok146 <| AllL.cons _ _ Tryz.fok147 <| AllL.cons _ _ Tryz.fok148 <| AllL.cons _ _ Tryz.fok149 <| AllL.cons _ _ Tryz.fok150 <| AllL.cons _ _ Tryz.fok151 <| AllL.cons _ _ Tryz.fok152 <| AllL.cons _ _ Tryz.fok153 <| AllL.cons _ _ Tryz.fok154 <| AllL.cons _ _ Tryz.fok155 <| AllL.cons _ _ Tryz.fok156 <| AllL.cons _ _ Tryz.fok157 <| AllL.cons _ _ Tryz.fok159 <| AllL.cons _ _ Tryz.fok160 <| AllL.cons _ _ Tryz.fok161 <| AllL.cons _ _ Tryz.fok164 <| AllL.cons _ _ Tryz.fok165 <| AllL.cons _ _ Tryz.fok171 <| AllL.cons _ _ Tryz.fok175 <| AllL.cons _ _ Tryz.fok176 <| AllL.cons _ _ Tryz.fok177 <| AllL.cons _ _ Tryz.fok178 <| AllL.cons _ _ Tryz.fok181 <| AllL.cons _ _ Tryz.fok183 <| AllL.cons _ _ Tryz.fok184 <| AllL.cons _ _ Tryz.fok185 <| AllL.cons _ _ Tryz.fok188 <| AllL.cons _ _ Tryz.fok189 <| AllL.cons _ _ Tryz.fok190 <| AllL.cons _ _ Tryz.fok191 <| AllL.cons _ _ Tryz.fok192 <| AllL.cons _ _ Tryz.fok193 <| AllL.cons _ _ Tryz.fok194 <| AllL.cons _ _ Tryz.fok195 <| AllL.cons _ _ Tryz.fok196 <| AllL.cons _ _ Tryz.fok197 <| AllL.cons _ _ Tryz.fok198 <| AllL.cons _ _ Tryz.fok199 <| AllL.cons _ _ Tryz.fok201 <| AllL.cons _ _ Tryz.fok202 <| AllL.cons _ _ Tryz.fok210 <| AllL.cons _ _ Tryz.fok211 <| AllL.cons _ _ Tryz.fok212 <| AllL.cons _ _ Tryz.fok213 <| AllL.cons _ _ Tryz.fok215 <| AllL.cons _ _ Tryz.fok217 <| AllL.cons _ _ Tryz.fok218 <| AllL.cons _ _ Tryz.fok221 <| AllL.cons _ _ Tryz.fok227 <| AllL.cons _ _ Tryz.fok228 <| AllL.cons _ _ Tryz.fok229 <| AllL.cons _ _ Tryz.fok231 <| AllL.cons _ _ Tryz.fok232 <| AllL.cons _ _ Tryz.fok233 <| AllL.cons _ _ Tryz.fok234 <| AllL.cons _ _ Tryz.fok235 <| AllL.cons _ _ Tryz.fok236 <| AllL.cons _ _ Tryz.fok237 <| AllL.cons _ _ Tryz.fok238 <| AllL.cons _ _ Tryz.fok239 <| AllL.cons _ _ Tryz.fok244 <| AllL.cons _ _ Tryz.fok247 <| AllL.cons _ _ Tryz.fok250 <| AllL.cons _ _ Tryz.fok255 <| AllL.cons _ _ Tryz.fok256 <| AllL.cons _ _ Tryz.fok261 <| AllL.cons _ _ Tryz.fok262 <| AllL.cons _ _ Tryz.fok266 <| AllL.cons _ _ Tryz.fok267 <| AllL.cons _ _ Tryz.fok268 <| AllL.cons _ _ Tryz.fok270 <| AllL.cons _ _ Tryz.fok271 <| AllL.cons _ _ Tryz.fok272 <| AllL.cons _ _ Tryz.fok273 <| AllL.cons _ _ Tryz.fok274 <| AllL.cons _ _ Tryz.fok275 <| AllL.cons _ _ Tryz.fok276 <| AllL.cons _ _ Tryz.fok280 <| AllL.cons _ _ Tryz.fok281 <| AllL.cons _ _ Tryz.fok282 <| AllL.cons _ _ Tryz.fok283 <| AllL.cons _ _ Tryz.fok285 <| AllL.cons _ _ Tryz.fok286 <| AllL.cons _ _ Tryz.fok289 <| AllL.cons _ _ Tryz.fok290 <| AllL.cons _ _ Tryz.fok296 <| AllL.cons _ _ Tryz.fok306 <| AllL.cons _ _ Tryz.fok307 <| AllL.cons _ _ Tryz.fok308 <| AllL.cons _ _ Tryz.fok311 <| AllL.cons _ _ Tryz.fok313 <| AllL.cons _ _ Tryz.fok316 <| AllL.cons _ _ Tryz.fok317 <| AllL.cons _ _ Tryz.fok326 <| AllL.cons _ _ Tryz.fok327 <| AllL.cons _ _ Tryz.fok328 <| AllL.cons _ _ Tryz.fok330 <| AllL.cons _ _ Tryz.fok331 <| AllL.cons _ _ Tryz.fok336 <| AllL.cons _ _ Tryz.fok338 <| AllL.cons _ _ Tryz.fok345 <| AllL.cons _ _ Tryz.fok346 <| AllL.cons _ _ Tryz.fok347 <| AllL.cons _ _ Tryz.fok348 <| AllL.cons _ _ Tryz.fok352 <| AllL.cons _ _ Tryz.fok355 <| AllL.cons _ _ Tryz.fok357 <| AllL.cons _ _ Tryz.fok358 <| AllL.cons _ _ Tryz.fok372 <| AllL.cons _ _ Tryz.fok374 <| AllL.cons _ _ Tryz.fok383 <| AllL.cons _ _ Tryz.fok384 <| AllL.cons _ _ Tryz.fok385 <| AllL.cons _ _ Tryz.fok388 <| AllL.cons _ _ Tryz.fok389 <| AllL.cons _ _ Tryz.fok396 <| AllL.cons _ _ Tryz.fok397 <| AllL.cons _ _ Tryz.fok398 <| AllL.cons _ _ Tryz.fok407 <| AllL.cons _ _ Tryz.fok430 <| AllL.cons _ _ Tryz.fok433 <| AllL.cons _ _ Tryz.fok439 <| AllL.cons _ _ Tryz.fok440 <|  AllL.nil
theorem Tryz.iall : AllL (fun p : TypeId × Nat × TypeId => liesAt Tryz.prog Tryz.prog.depth p.1 1 p.2.1 p.2.2 1 = true) Tryz.env.inn := AllL.cons _ _ (by kernel_rfl) <| AllL.cons _ _ (by kernel_rfl) <| AllL.cons _ _ (by kernel_rfl) <| AllL.cons _ _ (by kernel_rfl) <|  AllL.nil
theorem Tryz.eok : EOK Tryz.prog Tryz.env := EOK.of Tryz.ety_eq Tryz.efn_eq Tryz.tall Tryz.fall Tryz.iall (by kernel_rfl)
end Go.Proofs

