/-
  A part of the proof that virgatetop.ModeLoop answers true for every text and every fuel: texts of some lengths. No condition.
-/
import Derived.Test.YtlndamldkcangaaGreatDoorEnv
import Derived.KernelRfl
set_option linter.all false
set_option maxRecDepth 1000000
namespace Go.Proofs
open Go Go.Ev
noncomputable def Tryz.eC0 : Env := Tryz.env
theorem Tryz.eokC0 : EOK Tryz.prog Tryz.eC0 := Tryz.eok
theorem Tryz.ookC0 : OvOK Tryz.prog Tryz.eC0 := Tryz.ook
noncomputable def Tryz.K0 : ClsD := ⟨0, 0, subLC 0 0 Tryz.pre, dsA, 3, [(65, 5307, 65), (5397, 5398, 5387), (5537, 5642, 5494)]⟩
theorem Tryz.cls0 : clsOK Tryz.T ((lvl Tryz.eC0 100000).cd (Tryz.loopOf Tryz.f24)) Tryz.mp 5265 Tryz.pre Tryz.K0 = true := by kernel_rfl
noncomputable def Tryz.kW1 : Fk := ⟨[], 5313, none, 1, 8, 2, 0, [0, 3, 4], .slice (some ⟨5313, 0, some 3⟩) 2 2, 5314, [(5313, .cells ⟨[.complex .f64 10 16392, .int .i64 0, .complex .f64 1 3, .int .i64 0], 77, true, [], false, none⟩)], fun _ => [(5313, 5314, 5318)]⟩
theorem Tryz.fW1 : forkB Tryz.env (lvl Tryz.env 100000) Tryz.f124 (Tryz.bodyOf Tryz.f124) Tryz.kW1 [.complex .f64 2 1050625] [] = true := by kernel_rfl
noncomputable def Tryz.oW1 : List Value → S → Option (Value × S) := memL [Tryz.mem Tryz.kW1 [.complex .f64 2 1050625] []] Tryz.no
theorem Tryz.ofW1 : OvF Tryz.prog 124 Tryz.oW1 := OvF.memRun (by kernel_rfl) (fork_sound Tryz.eok Tryz.codeOK Tryz.func124 (ne_of_beq_false (by kernel_rfl)) (by kernel_rfl) (Nat.le_succ _) Tryz.fW1) (OvF.memNil _ (OvF.none _ _))
noncomputable def Tryz.pT1 : List (Nat × AB) := [(1086, .cells ⟨[.pointer (some ⟨1083, 0, none⟩), .slice (some ⟨5301, 0, some 2⟩) 2 2, .int .i64 3], 130, false, [], false, none⟩), (1087, .map [⟨.int .i64 0, .pointer (some ⟨5277, 0, none⟩), 0⟩] 1), (1088, .cells ⟨[.int .i64 1, .int .i64 0, .slice (some ⟨5279, 0, some 2⟩) 1 1, .int .i64 2, .slice (some ⟨5281, 0, some 2⟩) 1 1, .map (some 1087)], 199, false, [], false, none⟩), (1839, .cells ⟨[.slice none 0 0, .slice none 0 0, .string ⟨⟨[102, 117, 110]⟩⟩, .string ⟨⟨[102]⟩⟩, .string ⟨⟨[115]⟩⟩, .string ⟨⟨[]⟩⟩, .int .i64 0, .int .i64 0, .slice (some ⟨87, 0, none⟩) 2 2, .slice none 0 0, .string ⟨⟨[102, 110]⟩⟩, .string ⟨⟨[]⟩⟩, .int .i64 0, .slice (some ⟨84, 0, none⟩) 2 2, .slice (some ⟨83, 0, none⟩) 2 2, .slice (some ⟨86, 0, none⟩) 1 1, .slice none 0 0, .slice none 0 0, .slice none 0 0, .bool true, .bool true, .bool true, .int .i64 0, .int .i64 400, .string ⟨⟨[105, 110, 116]⟩⟩, .string ⟨⟨[]⟩⟩, .slice none 0 0, .slice (some ⟨5165, 0, some 2⟩) 1 1, .map (some 1838), .pointer (some ⟨1086, 0, none⟩), .int .i64 9, .int .i64 2, .int .i64 2, .slice (some ⟨5353, 0, some 5⟩) 6 6, .slice none 0 0, .string ⟨⟨[]⟩⟩, .string ⟨⟨[]⟩⟩, .pointer none, .int .i64 0, .pointer (some ⟨5381, 0, none⟩), .pointer (some ⟨5379, 0, none⟩), .int .i64 32, .int .i64 3, .slice (some ⟨5392, 0, some 6⟩) 4 5, .slice none 0 0], 81, false, [], false, none⟩), (5299, .cells ⟨[.int .i64 3, .int .i64 0, .slice (some ⟨5334, 0, some 2⟩) 1 1, .int .i64 3, .slice (some ⟨5336, 0, some 2⟩) 1 1, .map (some 5325)], 199, false, [], false, none⟩), (5301, .cells ⟨[.pointer (some ⟨1088, 0, none⟩), .pointer (some ⟨5299, 0, none⟩)], 195, true, [1090], false, none⟩), (5325, .map [⟨.int .i64 32, .pointer (some ⟨5332, 0, none⟩), 0⟩] 1), (5331, .cells ⟨[.complex .f64 10 16392, .int .i64 0, .complex .f64 1 3, .int .i64 0], 77, false, [], false, none⟩), (5332, .cells ⟨[.int .i64 32, .int .i64 4, .slice (some ⟨5331, 0, none⟩) 2 2], 377, false, [], false, none⟩)]
noncomputable def Tryz.G1 : Gk := ⟨1, 8, 5399, Tryz.pT1, (5331, 0), .pointer (some ⟨1839, 0, none⟩), .agg ⟨[.int .i64 32, .int .i64 3]⟩, 1, .tuple ⟨[.agg ⟨[.complex .f64 1 3, .int .i64 0]⟩, .bool true]⟩⟩
theorem Tryz.gok1 : gOK (lvl Tryz.env 100000) 194 Tryz.G1 = true := by kernel_rfl
noncomputable def Tryz.eG1 : Env := ⟨Tryz.env.ty, Tryz.env.fn, Tryz.env.inn, ofList [(194, ovG Tryz.G1)]⟩
theorem Tryz.eokG1 : EOK Tryz.prog Tryz.eG1 := Tryz.eok.ov _
theorem Tryz.ookG1 : OvOK Tryz.prog Tryz.eG1 := OvOK.of (l := [(194, ovG Tryz.G1)]) rfl (AllL.cons _ _ (qg_sound Tryz.eok Tryz.ook Tryz.gok1) AllL.nil)
noncomputable def Tryz.kT1 : Fk := ⟨[1086, 1087, 1088, 1839, 5299, 5301, 5325, 5331, 5332], 5399, (some (5331, 0)), 1, 8, 3, 1, [0, 3, 4, 5, 6, 7, 8, 9], .tuple ⟨[sy 3 1050625, .bool true]⟩, 5399, [], fun _ => []⟩
theorem Tryz.fT1 : forkB Tryz.eG1 (lvl Tryz.eG1 100000) Tryz.f189 (Tryz.bodyOf Tryz.f189) Tryz.kT1 [.pointer (some ⟨1839, 0, none⟩), .agg ⟨[.int .i64 32, .int .i64 3]⟩] Tryz.pT1 = true := by kernel_rfl
noncomputable def Tryz.oT1 : List Value → S → Option (Value × S) := memL [Tryz.mem Tryz.kT1 [.pointer (some ⟨1839, 0, none⟩), .agg ⟨[.int .i64 32, .int .i64 3]⟩] Tryz.pT1] Tryz.no
theorem Tryz.ofT1 : OvF Tryz.prog 189 Tryz.oT1 := OvF.memRun (by kernel_rfl) (fork_sound Tryz.eokG1 (lvl_sound Tryz.eokG1 Tryz.ookG1 (drawnOK Tryz.eokG1) (rgOK Tryz.eokG1) 100000).2 Tryz.func189 (ne_of_beq_false (by kernel_rfl)) (by kernel_rfl) (Nat.le_refl _) Tryz.fT1) (OvF.memNil _ (OvF.none _ _))
noncomputable def Tryz.kD1 : Fk := ⟨[], 5419, none, 1, 8, 0, 0, [0], sy 3 1, 5419, [], fun _ => []⟩
theorem Tryz.fD1 : forkB Tryz.env (lvl Tryz.env 100000) Tryz.f188 (Tryz.bodyOf Tryz.f188) Tryz.kD1 [.complex .f64 10 16396] [] = true := by kernel_rfl
noncomputable def Tryz.oD1 : List Value → S → Option (Value × S) := memL [Tryz.mem Tryz.kD1 [.complex .f64 10 16396] []] Tryz.no
theorem Tryz.ofD1 : OvF Tryz.prog 188 Tryz.oD1 := OvF.memRun (by kernel_rfl) (fork_sound Tryz.eok Tryz.codeOK Tryz.func188 (ne_of_beq_false (by kernel_rfl)) (by kernel_rfl) (Nat.le_refl _) Tryz.fD1) (OvF.memNil _ (OvF.none _ _))
noncomputable def Tryz.olC1 : List (Nat × (List Value → S → Option (Value × S))) := [(124, Tryz.oW1), (189, Tryz.oT1), (188, Tryz.oD1)]
noncomputable def Tryz.eC1 : Env := ⟨Tryz.env.ty, Tryz.env.fn, Tryz.env.inn, ofList Tryz.olC1⟩
theorem Tryz.eokC1 : EOK Tryz.prog Tryz.eC1 := Tryz.eok.ov _
theorem Tryz.ookC1 : OvOK Tryz.prog Tryz.eC1 := OvOK.of (l := Tryz.olC1) rfl (AllL.cons _ _ Tryz.ofW1 <| AllL.cons _ _ Tryz.ofT1 <| AllL.cons _ _ Tryz.ofD1 <| AllL.nil)
noncomputable def Tryz.K1 : ClsD := ⟨1, 8, subLC 1 8 Tryz.pre, dsA, 3, [(65, 5307, 65), (5397, 5398, 5392), (5537, 5642, 5489)]⟩
theorem Tryz.cls1 : clsOK Tryz.T ((lvl Tryz.eC1 100000).cd (Tryz.loopOf Tryz.f24)) Tryz.mp 5265 Tryz.pre Tryz.K1 = true := by kernel_rfl
end Go.Proofs

