/-
  A part of the proof that virgatetop.ModeLoop answers true for every text and every fuel: the run of the law. No condition.
-/
import Derived.Test.YtlndamldkcangaaGreatDoorMem
import Derived.KernelRfl
set_option linter.all false
set_option maxRecDepth 1000000
set_option linter.unusedSimpArgs false
set_option linter.unusedVariables false
namespace Go.Proofs
open Go Go.Ev Go.RowKit
theorem Tryz.law3 : isTG [(0, tabB 58 482 Tryz.cs0), (2, tabB 56 544 Tryz.cs2)] ((lvl Tryz.ev5 100000).cl 3 [sy 2 1099776, sy 6 3] ⟨ofList [(0, tabB 58 482 Tryz.cs0), (2, tabB 56 544 Tryz.cs2)], 64⟩) = true := by kernel_rfl
theorem Tryz.law2 : isTG [(0, tabB 58 482 Tryz.cs0), (2, tabB 56 544 Tryz.cs2)] ((lvl Tryz.ev5 100000).cl 3 [sy 2 1099776, .int .i64 2] ⟨ofList [(0, tabB 58 482 Tryz.cs0), (2, tabB 56 544 Tryz.cs2)], 64⟩) = true := by kernel_rfl
theorem Tryz.law1 : isTG [(0, tabB 58 482 Tryz.cs0), (2, tabB 56 544 Tryz.cs2)] ((lvl Tryz.ev5 100000).cl 3 [sy 2 1099776, .int .i64 1] ⟨ofList [(0, tabB 58 482 Tryz.cs0), (2, tabB 56 544 Tryz.cs2)], 64⟩) = true := by kernel_rfl
theorem Tryz.law0 : isTG [(0, tabB 58 482 Tryz.cs0), (2, tabB 56 544 Tryz.cs2)] ((lvl Tryz.ev5 100000).cl 3 [sy 2 1099776, .int .i64 0] ⟨ofList [(0, tabB 58 482 Tryz.cs0), (2, tabB 56 544 Tryz.cs2)], 64⟩) = true := by kernel_rfl
theorem Tryz.awakeB : isTG [(0, tabB 58 482 Tryz.cs0), (2, tabB 56 544 Tryz.cs2)] ((lvl Tryz.ev5 100000).cl 5 [] ⟨ofList [(0, tabB 58 482 Tryz.cs0), (2, tabB 56 544 Tryz.cs2)], 64⟩) = true := by kernel_rfl
/-- the two tables, as the world holds them -/
structure Tabs (w : World) : Prop where
  t0 : ∃ c : Array Value, w.heap[0]? = some (.cells c 482 (0, 0)) ∧ c.toList = Tryz.cs0
  t2 : ∃ c : Array Value, w.heap[2]? = some (.cells c 544 (0, 0)) ∧ c.toList = Tryz.cs2
def zF (N F : Nat) (a : Nat) : Nat := if a = 60 then N else if a = 62 then F else if a = 0 then 256 else if a = 2 then 20 else 0
theorem cs0_int : allInt Tryz.cs0 = true := by kernel_rfl
theorem cs2_int : allInt Tryz.cs2 = true := by kernel_rfl
theorem cs0_len : (256 : Nat) = Tryz.cs0.length := by kernel_rfl
theorem cs2_len : (20 : Nat) = Tryz.cs2.length := by kernel_rfl
theorem law_run {w : World} (ht : Tabs w) {f : FuncId} {fn : Func} {args : List Value} {args' : Array Value} (N F : Nat)
    (h : isTG [(0, tabB 58 482 Tryz.cs0), (2, tabB 56 544 Tryz.cs2)] ((lvl Tryz.ev5 100000).cl f args ⟨ofList [(0, tabB 58 482 Tryz.cs0), (2, tabB 56 544 Tryz.cs2)], 64⟩) = true)
    (hf : Tryz.prog.funcs[f]? = some fn) (hn : (fn.name == "runtime.NumGoroutine") = false) (hb : fn.body.isSome = true) (ha : VRs (Ren.globZ (zF N F)) args args'.toList) :
    Calls Tryz.prog f args' w fun e w' => e = .returned (.bool true) ∧ Kept0 w w' := by
  obtain ⟨c0, h0, e0⟩ := ht.t0
  obtain ⟨c2, h2, e2⟩ := ht.t2
  exact run_true2 (z := zF N F) (g := 0) (q := 58) (g2 := 2) (q2 := 56) (c := c0) (c2 := c2) (fz := (0, 0)) (fz2 := (0, 0)) Tryz.eok5 Tryz.ook5
    ⟨by omega, by omega, by omega, h0, e0, cs0_int, cs0_len, rfl, rfl⟩ ⟨by omega, by omega, by omega, h2, e2, cs2_int, cs2_len, rfl, rfl⟩ h hf hn hb ha
theorem awake_calls {w : World} (ht : Tabs w) : Calls Tryz.prog 5 #[] w fun e w' => e = .returned (.bool true) ∧ Kept0 w w' :=
  law_run ht 0 0 Tryz.awakeB Tryz.func5 (by kernel_rfl) (by kernel_rfl) .nil
theorem text_VR {x : ByteArray} (hx : isTextB x.data.toList = true) (hs : x.size ≤ 200) (F : Nat) : VR (Ren.globZ (zF x.size F)) (sy 2 1099776) (.string x) := by
  refine .sy _ _ _ (.inr ⟨⟨63, 0, 0⟩, ⟨62, 0, F⟩, ⟨61, 0, 0⟩, ⟨60, 0, x.size⟩, rfl, rfl, rfl, rfl, x, rfl, rfl, hx, by decide, ?_, ?_, hs⟩)
  · show nLo (8 * (1099776 - nBase)) ≤ x.size
    have : nLo (8 * (1099776 - nBase)) = 0 := by decide
    omega
  · show x.size ≤ nHi (8 * (1099776 - nBase))
    have : nHi (8 * (1099776 - nBase)) = 200 := by decide
    omega
/-- THE LAW's RUN -/
theorem law_calls {w : World} (ht : Tabs w) (x : ByteArray) (n : Int) (hs : x.size ≤ maxLen) : Calls Tryz.prog 3 #[.string x, .int .i64 n] w fun e w' => e = .returned (.bool true) ∧ Kept0 w w' := by
  by_cases hx : isTextB x.data.toList = true ∧ x.size ≤ 200
  · obtain ⟨hx, h200⟩ := hx
    by_cases h0 : n < 0
    · exact law_neg (awake_calls ht) x n hx h200 h0
    · by_cases hb : 6000 < n
      · exact law_big (awake_calls ht) x n hx h200 (by omega) hb
      · obtain ⟨F, rfl⟩ : ∃ F : Nat, n = (F : Int) := ⟨n.toNat, by omega⟩
        by_cases h3 : 3 ≤ F
        · refine law_run ht x.size F Tryz.law3 Tryz.func3 (by kernel_rfl) (by kernel_rfl) (.cons _ _ _ _ (text_VR hx h200 F) (.cons _ _ _ _ ?_ .nil))
          exact .sy _ _ _ (.inr ⟨⟨63, 0, 0⟩, ⟨62, 0, F⟩, ⟨61, 0, 0⟩, ⟨60, 0, x.size⟩, rfl, rfl, rfl, rfl, rfl, h3, (by show F ≤ 6000; omega), h200⟩)
        · have hc : F = 0 ∨ F = 1 ∨ F = 2 := by omega
          rcases hc with rfl | rfl | rfl
          · exact law_run ht x.size 0 Tryz.law0 Tryz.func3 (by kernel_rfl) (by kernel_rfl) (.cons _ _ _ _ (text_VR hx h200 0) (.cons _ _ _ _ (.int _ _) .nil))
          · exact law_run ht x.size 1 Tryz.law1 Tryz.func3 (by kernel_rfl) (by kernel_rfl) (.cons _ _ _ _ (text_VR hx h200 1) (.cons _ _ _ _ (.int _ _) .nil))
          · exact law_run ht x.size 2 Tryz.law2 Tryz.func3 (by kernel_rfl) (by kernel_rfl) (.cons _ _ _ _ (text_VR hx h200 2) (.cons _ _ _ _ (.int _ _) .nil))
  · exact law_no (awake_calls ht) x n hx hs
end Go.Proofs

