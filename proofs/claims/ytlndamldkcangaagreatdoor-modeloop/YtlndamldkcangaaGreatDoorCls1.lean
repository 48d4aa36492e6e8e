/-
  A part of the proof that virgatetop.ModeLoop answers true for every text and every fuel: texts of some lengths. No condition.
-/
import Derived.Test.YtlndamldkcangaaGreatDoorEnv
import Derived.KernelRfl
set_option linter.all false
set_option maxRecDepth 1000000
namespace Go.Proofs
open Go Go.Ev
noncomputable def Tryz.kW2 : Fk := ⟨[], 5313, none, 9, 16, 2, 1, [0, 3, 4], .slice (some ⟨5313, 0, some 3⟩) 3 3, 5314, [(5313, .cells ⟨[.complex .f64 10 32840, .int .i64 0, .complex .f64 1 3, .int .i64 0, .complex .f64 1 3, .int .i64 0], 77, true, [], false, none⟩)], fun _ => [(5313, 5314, 5322)]⟩
theorem Tryz.fW2 : forkB Tryz.env (lvl Tryz.env 100000) Tryz.f124 (Tryz.bodyOf Tryz.f124) Tryz.kW2 [.complex .f64 2 1052681] [] = true := by kernel_rfl
noncomputable def Tryz.oW2 : List Value → S → Option (Value × S) := memL [Tryz.mem Tryz.kW2 [.complex .f64 2 1052681] []] Tryz.no
theorem Tryz.ofW2 : OvF Tryz.prog 124 Tryz.oW2 := OvF.memRun (by kernel_rfl) (fork_sound Tryz.eok Tryz.codeOK Tryz.func124 (ne_of_beq_false (by kernel_rfl)) (by kernel_rfl) (Nat.le_succ _) Tryz.fW2) (OvF.memNil _ (OvF.none _ _))
noncomputable def Tryz.pT2 : List (Nat × AB) := [(1086, .cells ⟨[.pointer (some ⟨1083, 0, none⟩), .slice (some ⟨5301, 0, some 2⟩) 2 2, .int .i64 3], 130, false, [], false, none⟩), (1087, .map [⟨.int .i64 0, .pointer (some ⟨5277, 0, none⟩), 0⟩] 1), (1088, .cells ⟨[.int .i64 1, .int .i64 0, .slice (some ⟨5279, 0, some 2⟩) 1 1, .int .i64 2, .slice (some ⟨5281, 0, some 2⟩) 1 1, .map (some 1087)], 199, false, [], false, none⟩), (1839, .cells ⟨[.slice none 0 0, .slice none 0 0, .string ⟨⟨[102, 117, 110]⟩⟩, .string ⟨⟨[102]⟩⟩, .string ⟨⟨[115]⟩⟩, .string ⟨⟨[]⟩⟩, .int .i64 0, .int .i64 0, .slice (some ⟨87, 0, none⟩) 2 2, .slice none 0 0, .string ⟨⟨[102, 110]⟩⟩, .string ⟨⟨[]⟩⟩, .int .i64 0, .slice (some ⟨84, 0, none⟩) 2 2, .slice (some ⟨83, 0, none⟩) 2 2, .slice (some ⟨86, 0, none⟩) 1 1, .slice none 0 0, .slice none 0 0, .slice none 0 0, .bool true, .bool true, .bool true, .int .i64 0, .int .i64 400, .string ⟨⟨[105, 110, 116]⟩⟩, .string ⟨⟨[]⟩⟩, .slice none 0 0, .slice (some ⟨5165, 0, some 2⟩) 1 1, .map (some 1838), .pointer (some ⟨1086, 0, none⟩), .int .i64 9, .int .i64 2, .int .i64 2, .slice (some ⟨5359, 0, some 5⟩) 6 6, .slice none 0 0, .string ⟨⟨[]⟩⟩, .string ⟨⟨[]⟩⟩, .pointer none, .int .i64 0, .pointer (some ⟨5387, 0, none⟩), .pointer (some ⟨5385, 0, none⟩), .int .i64 32, .int .i64 3, .slice (some ⟨5398, 0, some 6⟩) 4 5, .slice none 0 0], 81, false, [], false, none⟩), (5299, .cells ⟨[.int .i64 3, .int .i64 0, .slice (some ⟨5334, 0, some 2⟩) 1 1, .int .i64 4, .slice (some ⟨5336, 0, some 2⟩) 1 1, .map (some 5325)], 199, false, [], false, none⟩), (5301, .cells ⟨[.pointer (some ⟨1088, 0, none⟩), .pointer (some ⟨5299, 0, none⟩)], 195, true, [1090], false, none⟩), (5325, .map [⟨.int .i64 32, .pointer (some ⟨5332, 0, none⟩), 0⟩] 1), (5331, .cells ⟨[.complex .f64 10 32840, .int .i64 0, .complex .f64 1 3, .int .i64 0, .complex .f64 1 3, .int .i64 0], 77, false, [], false, none⟩), (5332, .cells ⟨[.int .i64 32, .int .i64 4, .slice (some ⟨5331, 0, none⟩) 3 3], 377, false, [], false, none⟩)]
noncomputable def Tryz.G2 : Gk := ⟨9, 16, 5405, Tryz.pT2, (5331, 0), .pointer (some ⟨1839, 0, none⟩), .agg ⟨[.int .i64 32, .int .i64 3]⟩, 2, .tuple ⟨[.agg ⟨[.complex .f64 1 3, .int .i64 0]⟩, .bool true]⟩⟩
theorem Tryz.gok2 : gOK (lvl Tryz.env 100000) 194 Tryz.G2 = true := by kernel_rfl
noncomputable def Tryz.eG2 : Env := ⟨Tryz.env.ty, Tryz.env.fn, Tryz.env.inn, ofList [(194, ovG Tryz.G2)]⟩
theorem Tryz.eokG2 : EOK Tryz.prog Tryz.eG2 := Tryz.eok.ov _
theorem Tryz.ookG2 : OvOK Tryz.prog Tryz.eG2 := OvOK.of (l := [(194, ovG Tryz.G2)]) rfl (AllL.cons _ _ (qg_sound Tryz.eok Tryz.ook Tryz.gok2) AllL.nil)
noncomputable def Tryz.kT2 : Fk := ⟨[1086, 1087, 1088, 1839, 5299, 5301, 5325, 5331, 5332], 5405, (some (5331, 0)), 9, 16, 3, 9, [0, 3, 4, 5, 6, 7, 8, 9], .tuple ⟨[sy 3 1052681, .bool true]⟩, 5405, [], fun _ => []⟩
theorem Tryz.fT2 : forkB Tryz.eG2 (lvl Tryz.eG2 100000) Tryz.f189 (Tryz.bodyOf Tryz.f189) Tryz.kT2 [.pointer (some ⟨1839, 0, none⟩), .agg ⟨[.int .i64 32, .int .i64 3]⟩] Tryz.pT2 = true := by kernel_rfl
noncomputable def Tryz.oT2 : List Value → S → Option (Value × S) := memL [Tryz.mem Tryz.kT2 [.pointer (some ⟨1839, 0, none⟩), .agg ⟨[.int .i64 32, .int .i64 3]⟩] Tryz.pT2] Tryz.no
theorem Tryz.ofT2 : OvF Tryz.prog 189 Tryz.oT2 := OvF.memRun (by kernel_rfl) (fork_sound Tryz.eokG2 (lvl_sound Tryz.eokG2 Tryz.ookG2 (drawnOK Tryz.eokG2) (rgOK Tryz.eokG2) 100000).2 Tryz.func189 (ne_of_beq_false (by kernel_rfl)) (by kernel_rfl) (Nat.le_refl _) Tryz.fT2) (OvF.memNil _ (OvF.none _ _))
noncomputable def Tryz.kD2 : Fk := ⟨[], 5425, none, 9, 16, 0, 0, [0], sy 3 2, 5425, [], fun _ => []⟩
theorem Tryz.fD2 : forkB Tryz.env (lvl Tryz.env 100000) Tryz.f188 (Tryz.bodyOf Tryz.f188) Tryz.kD2 [.complex .f64 10 32844] [] = true := by kernel_rfl
noncomputable def Tryz.oD2 : List Value → S → Option (Value × S) := memL [Tryz.mem Tryz.kD2 [.complex .f64 10 32844] []] Tryz.no
theorem Tryz.ofD2 : OvF Tryz.prog 188 Tryz.oD2 := OvF.memRun (by kernel_rfl) (fork_sound Tryz.eok Tryz.codeOK Tryz.func188 (ne_of_beq_false (by kernel_rfl)) (by kernel_rfl) (Nat.le_refl _) Tryz.fD2) (OvF.memNil _ (OvF.none _ _))
noncomputable def Tryz.olC2 : List (Nat × (List Value → S → Option (Value × S))) := [(124, Tryz.oW2), (189, Tryz.oT2), (188, Tryz.oD2)]
noncomputable def Tryz.eC2 : Env := ⟨Tryz.env.ty, Tryz.env.fn, Tryz.env.inn, ofList Tryz.olC2⟩
theorem Tryz.eokC2 : EOK Tryz.prog Tryz.eC2 := Tryz.eok.ov _
theorem Tryz.ookC2 : OvOK Tryz.prog Tryz.eC2 := OvOK.of (l := Tryz.olC2) rfl (AllL.cons _ _ Tryz.ofW2 <| AllL.cons _ _ Tryz.ofT2 <| AllL.cons _ _ Tryz.ofD2 <| AllL.nil)
noncomputable def Tryz.K2 : ClsD := ⟨9, 16, subLC 9 16 Tryz.pre, dsB, 4, [(65, 5307, 65), (5397, 5398, 5398), (5537, 5642, 5635)]⟩
theorem Tryz.cls2 : clsOK Tryz.T ((lvl Tryz.eC2 100000).cd (Tryz.loopOf Tryz.f24)) Tryz.mp 5265 Tryz.pre Tryz.K2 = true := by kernel_rfl
noncomputable def Tryz.kW3 : Fk := ⟨[], 5313, none, 17, 24, 2, 2, [0, 3, 4], .slice (some ⟨5313, 0, some 3⟩) 4 4, 5314, [(5313, .cells ⟨[.complex .f64 10 49288, .int .i64 0, .complex .f64 1 3, .int .i64 0, .complex .f64 1 3, .int .i64 0, .complex .f64 1 3, .int .i64 0], 77, true, [], false, none⟩)], fun _ => [(5313, 5314, 5326)]⟩
theorem Tryz.fW3 : forkB Tryz.env (lvl Tryz.env 100000) Tryz.f124 (Tryz.bodyOf Tryz.f124) Tryz.kW3 [.complex .f64 2 1054737] [] = true := by kernel_rfl
noncomputable def Tryz.oW3 : List Value → S → Option (Value × S) := memL [Tryz.mem Tryz.kW3 [.complex .f64 2 1054737] []] Tryz.no
theorem Tryz.ofW3 : OvF Tryz.prog 124 Tryz.oW3 := OvF.memRun (by kernel_rfl) (fork_sound Tryz.eok Tryz.codeOK Tryz.func124 (ne_of_beq_false (by kernel_rfl)) (by kernel_rfl) (Nat.le_succ _) Tryz.fW3) (OvF.memNil _ (OvF.none _ _))
noncomputable def Tryz.pT3 : List (Nat × AB) := [(1086, .cells ⟨[.pointer (some ⟨1083, 0, none⟩), .slice (some ⟨5301, 0, some 2⟩) 2 2, .int .i64 3], 130, false, [], false, none⟩), (1087, .map [⟨.int .i64 0, .pointer (some ⟨5277, 0, none⟩), 0⟩] 1), (1088, .cells ⟨[.int .i64 1, .int .i64 0, .slice (some ⟨5279, 0, some 2⟩) 1 1, .int .i64 2, .slice (some ⟨5281, 0, some 2⟩) 1 1, .map (some 1087)], 199, false, [], false, none⟩), (1839, .cells ⟨[.slice none 0 0, .slice none 0 0, .string ⟨⟨[102, 117, 110]⟩⟩, .string ⟨⟨[102]⟩⟩, .string ⟨⟨[115]⟩⟩, .string ⟨⟨[]⟩⟩, .int .i64 0, .int .i64 0, .slice (some ⟨87, 0, none⟩) 2 2, .slice none 0 0, .string ⟨⟨[102, 110]⟩⟩, .string ⟨⟨[]⟩⟩, .int .i64 0, .slice (some ⟨84, 0, none⟩) 2 2, .slice (some ⟨83, 0, none⟩) 2 2, .slice (some ⟨86, 0, none⟩) 1 1, .slice none 0 0, .slice none 0 0, .slice none 0 0, .bool true, .bool true, .bool true, .int .i64 0, .int .i64 400, .string ⟨⟨[105, 110, 116]⟩⟩, .string ⟨⟨[]⟩⟩, .slice none 0 0, .slice (some ⟨5165, 0, some 2⟩) 1 1, .map (some 1838), .pointer (some ⟨1086, 0, none⟩), .int .i64 9, .int .i64 2, .int .i64 2, .slice (some ⟨5365, 0, some 5⟩) 6 6, .slice none 0 0, .string ⟨⟨[]⟩⟩, .string ⟨⟨[]⟩⟩, .pointer none, .int .i64 0, .pointer (some ⟨5393, 0, none⟩), .pointer (some ⟨5391, 0, none⟩), .int .i64 32, .int .i64 3, .slice (some ⟨5404, 0, some 6⟩) 4 5, .slice none 0 0], 81, false, [], false, none⟩), (5299, .cells ⟨[.int .i64 3, .int .i64 0, .slice (some ⟨5334, 0, some 2⟩) 1 1, .int .i64 5, .slice (some ⟨5336, 0, some 2⟩) 1 1, .map (some 5325)], 199, false, [], false, none⟩), (5301, .cells ⟨[.pointer (some ⟨1088, 0, none⟩), .pointer (some ⟨5299, 0, none⟩)], 195, true, [1090], false, none⟩), (5325, .map [⟨.int .i64 32, .pointer (some ⟨5332, 0, none⟩), 0⟩] 1), (5331, .cells ⟨[.complex .f64 10 49288, .int .i64 0, .complex .f64 1 3, .int .i64 0, .complex .f64 1 3, .int .i64 0, .complex .f64 1 3, .int .i64 0], 77, false, [], false, none⟩), (5332, .cells ⟨[.int .i64 32, .int .i64 4, .slice (some ⟨5331, 0, none⟩) 4 4], 377, false, [], false, none⟩)]
noncomputable def Tryz.G3 : Gk := ⟨17, 24, 5411, Tryz.pT3, (5331, 0), .pointer (some ⟨1839, 0, none⟩), .agg ⟨[.int .i64 32, .int .i64 3]⟩, 3, .tuple ⟨[.agg ⟨[.complex .f64 1 3, .int .i64 0]⟩, .bool true]⟩⟩
theorem Tryz.gok3 : gOK (lvl Tryz.env 100000) 194 Tryz.G3 = true := by kernel_rfl
noncomputable def Tryz.eG3 : Env := ⟨Tryz.env.ty, Tryz.env.fn, Tryz.env.inn, ofList [(194, ovG Tryz.G3)]⟩
theorem Tryz.eokG3 : EOK Tryz.prog Tryz.eG3 := Tryz.eok.ov _
theorem Tryz.ookG3 : OvOK Tryz.prog Tryz.eG3 := OvOK.of (l := [(194, ovG Tryz.G3)]) rfl (AllL.cons _ _ (qg_sound Tryz.eok Tryz.ook Tryz.gok3) AllL.nil)
noncomputable def Tryz.kT3 : Fk := ⟨[1086, 1087, 1088, 1839, 5299, 5301, 5325, 5331, 5332], 5411, (some (5331, 0)), 17, 24, 3, 17, [0, 3, 4, 5, 6, 7, 8, 9], .tuple ⟨[sy 3 1054737, .bool true]⟩, 5411, [], fun _ => []⟩
theorem Tryz.fT3 : forkB Tryz.eG3 (lvl Tryz.eG3 100000) Tryz.f189 (Tryz.bodyOf Tryz.f189) Tryz.kT3 [.pointer (some ⟨1839, 0, none⟩), .agg ⟨[.int .i64 32, .int .i64 3]⟩] Tryz.pT3 = true := by kernel_rfl
noncomputable def Tryz.oT3 : List Value → S → Option (Value × S) := memL [Tryz.mem Tryz.kT3 [.pointer (some ⟨1839, 0, none⟩), .agg ⟨[.int .i64 32, .int .i64 3]⟩] Tryz.pT3] Tryz.no
theorem Tryz.ofT3 : OvF Tryz.prog 189 Tryz.oT3 := OvF.memRun (by kernel_rfl) (fork_sound Tryz.eokG3 (lvl_sound Tryz.eokG3 Tryz.ookG3 (drawnOK Tryz.eokG3) (rgOK Tryz.eokG3) 100000).2 Tryz.func189 (ne_of_beq_false (by kernel_rfl)) (by kernel_rfl) (Nat.le_refl _) Tryz.fT3) (OvF.memNil _ (OvF.none _ _))
noncomputable def Tryz.kD3 : Fk := ⟨[], 5431, none, 17, 24, 0, 0, [0], sy 3 2, 5431, [], fun _ => []⟩
theorem Tryz.fD3 : forkB Tryz.env (lvl Tryz.env 100000) Tryz.f188 (Tryz.bodyOf Tryz.f188) Tryz.kD3 [.complex .f64 10 49292] [] = true := by kernel_rfl
noncomputable def Tryz.oD3 : List Value → S → Option (Value × S) := memL [Tryz.mem Tryz.kD3 [.complex .f64 10 49292] []] Tryz.no
theorem Tryz.ofD3 : OvF Tryz.prog 188 Tryz.oD3 := OvF.memRun (by kernel_rfl) (fork_sound Tryz.eok Tryz.codeOK Tryz.func188 (ne_of_beq_false (by kernel_rfl)) (by kernel_rfl) (Nat.le_refl _) Tryz.fD3) (OvF.memNil _ (OvF.none _ _))
noncomputable def Tryz.olC3 : List (Nat × (List Value → S → Option (Value × S))) := [(124, Tryz.oW3), (189, Tryz.oT3), (188, Tryz.oD3)]
noncomputable def Tryz.eC3 : Env := ⟨Tryz.env.ty, Tryz.env.fn, Tryz.env.inn, ofList Tryz.olC3⟩
theorem Tryz.eokC3 : EOK Tryz.prog Tryz.eC3 := Tryz.eok.ov _
theorem Tryz.ookC3 : OvOK Tryz.prog Tryz.eC3 := OvOK.of (l := Tryz.olC3) rfl (AllL.cons _ _ Tryz.ofW3 <| AllL.cons _ _ Tryz.ofT3 <| AllL.cons _ _ Tryz.ofD3 <| AllL.nil)
noncomputable def Tryz.K3 : ClsD := ⟨17, 24, subLC 17 24 Tryz.pre, dsB, 4, [(65, 5307, 65), (5397, 5398, 5404), (5537, 5642, 5641)]⟩
theorem Tryz.cls3 : clsOK Tryz.T ((lvl Tryz.eC3 100000).cd (Tryz.loopOf Tryz.f24)) Tryz.mp 5265 Tryz.pre Tryz.K3 = true := by kernel_rfl
end Go.Proofs

