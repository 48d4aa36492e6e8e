/-
  A part of the proof that virgatetop.ModeLoop answers true for every text and every fuel: two tests of texts, and the cases without a run. No condition.
-/
import Derived.WalkKit
import Derived.Test.YtlndamldkcangaaGreatDoorProg
import Derived.Test.YtlndamldkcangaaGreatDoorEvF
import Derived.Test.YtlndamldkcangaaGreatDoorEvE
import Derived.KernelRfl
import Derived.Lib.Hide
import Derived.Below
set_option linter.all false
set_option linter.unusedSimpArgs false
set_option linter.unusedVariables false
namespace Go.Proofs
open Go Go.Ev Go.Lib Go.RowKit
theorem answers_of_wp {P : Program} {f : FuncId} {fn : Func} {c : Code} {args' : Array Value} {w : World} {T : Value → World → Prop} (hf : P.funcs[f]? = some fn) (hn : fn.name ≠ "runtime.NumGoroutine") (hb : fn.body = some c)
    (h : c.wp P (bodyPost P fn (fun e w' => ∃ v, e = .returned v ∧ T v w')) { tmps := args' ++ Array.replicate (fn.ntmps - args'.size) undef, defers := [] } w) : Answers P f args' w T :=
  .inl ⟨callFunc_body hf hb hn, calls_of_wp hf hb h, callsD_of_wp hf hb h⟩
theorem between_any (a b c : Int) (w : World) :
    Calls Tryz.prog 259 #[.int .i64 a, .int .i64 b, .int .i64 c] w fun e w' => e = .returned (.bool (decide (a ≤ b) && decide (b ≤ c))) ∧ w = w' := by
  go_enter Tryz.func259, Tryz.ntmps259
  go_wp2
  all_goals (go_ret; simp_all <;> omega)
/-- what a byte of a text is -/
theorem text_byte {x : ByteArray} (h : isTextB x.data.toList = true) {k : Nat} (hk : k < x.size) : x[k].toNat = 10 ∨ (32 ≤ x[k].toNat ∧ x[k].toNat ≤ 126) := by
  unfold isTextB at h
  rw [List.all_eq_true] at h
  have hm : x[k] ∈ x.data.toList := by
    have : x[k] = x.data.toList[k]'(by simpa using hk) := rfl
    rw [this]
    exact List.getElem_mem _
  have := h _ hm
  simp only [Bool.or_eq_true, beq_iff_eq, Bool.and_eq_true, decide_eq_true_eq] at this
  rcases this with h | h
  · left; rw [h]; rfl
  · right; exact h
def retT (b : Bool) (v : Value) (w0 w : World) : Prop := v = .bool b ∧ w = w0
set_option maxHeartbeats 800000 in
theorem isText4_true (x : ByteArray) (w : World) (h : isTextB x.data.toList = true) (hs : x.size ≤ 200) : Answers Tryz.prog 4 #[.string x] w fun v w' => retT true v w w' := by
  have HT : Hid (isTextB x.data.toList = true) := Go.Lib.hid h
  clear h
  refine answers_of_wp Tryz.func4 (ne_of_beq_false (by kernel_rfl)) rfl ?_
  simp only [Tryz.ntmps4, List.size_toArray, List.length_cons, List.length_nil, Nat.reduceAdd, Nat.reduceSub, Array.replicate_succ, Array.replicate_zero, List.push_toArray, List.append_toArray, List.nil_append, List.cons_append]
  go_wp2
  go_loop [6] (fun i => ∃ k : Nat, k ≤ x.size ∧ i = .int .i64 k) (fun i => x.size - (intOf i).toNat)
  case atStart => exact ⟨0, Nat.zero_le _, rfl⟩
  case round =>
    obtain ⟨k, hk, rfl⟩ := hrel
    by_cases hlt : k < x.size
    · have hb := text_byte HT.out hlt
      by_cases h10 : (x[k].toNat : Int) = 10
      · clear hb
        go_wp2
        all_goals
          go_round
          case rel => exact ⟨k + 1, by omega, by go_num⟩
          case measure => simp [intOf]; omega
      · have h1 : 32 ≤ (x[k].toNat : Int) := by omega
        have h2 : (x[k].toNat : Int) ≤ 126 := by omega
        clear hb
        go_wp2
        all_goals
          go_round
          case rel => exact ⟨k + 1, by omega, by go_num⟩
          case measure => simp [intOf]; omega
    · go_wp2
      go_ret
      exact ⟨_, rfl, by simp; omega, rfl⟩
/-- up to k all is text -/
def okTo (x : ByteArray) (k : Nat) : Prop := ∀ j (h : j < x.size), j < k → x[j].toNat = 10 ∨ (32 ≤ x[j].toNat ∧ x[j].toNat ≤ 126)
theorem okTo_all {x : ByteArray} (h : okTo x x.size) : isTextB x.data.toList = true := by
  unfold isTextB
  rw [List.all_eq_true]
  intro b hb
  obtain ⟨j, hj, rfl⟩ := List.getElem_of_mem hb
  have hj' : j < x.size := by simpa using hj
  have := h j hj' hj'
  have e : x.data.toList[j] = x[j] := rfl
  rw [e]
  simp only [Bool.or_eq_true, beq_iff_eq, Bool.and_eq_true, decide_eq_true_eq]
  rcases this with h | h
  · left; exact UInt8.toNat_inj.1 h
  · right; exact h
theorem okTo_succ {x : ByteArray} {k : Nat} (h : okTo x k) (hk : k < x.size) (hb : x[k].toNat = 10 ∨ (32 ≤ x[k].toNat ∧ x[k].toNat ≤ 126)) : okTo x (k + 1) := by
  intro j hj hlt
  by_cases e : j = k
  · subst e; exact hb
  · exact h j hj (by omega)
set_option maxHeartbeats 800000 in
theorem isText4_false (x : ByteArray) (w : World) (h : ¬ (isTextB x.data.toList = true ∧ x.size ≤ 200)) (hs : x.size ≤ maxLen) : Calls Tryz.prog 4 #[.string x] w fun e w' => e = .returned (.bool false) ∧ w = w' := by
  unfold maxLen at hs
  have HT : Hid (¬ (isTextB x.data.toList = true ∧ x.size ≤ 200)) := Go.Lib.hid h
  clear h
  go_enter Tryz.func4, Tryz.ntmps4
  go_wp2
  go_loop [6] (fun i => ∃ k : Nat, k ≤ x.size ∧ i = .int .i64 k ∧ okTo x k) (fun i => x.size - (intOf i).toNat)
  case atStart => exact ⟨0, Nat.zero_le _, rfl, fun j _ h => by omega⟩
  case round =>
    obtain ⟨k, hk, rfl, hok⟩ := hrel
    have HK : Hid (okTo x k) := Go.Lib.hid hok
    clear hok
    by_cases hlt : k < x.size
    · by_cases h10 : (x[k].toNat : Int) = 10
      · go_wp2
        all_goals
          go_round
          case rel => exact ⟨k + 1, by omega, by go_num, okTo_succ HK.out hlt (.inl (by omega))⟩
          case measure => simp [intOf]; omega
      · by_cases h1 : 32 ≤ (x[k].toNat : Int)
        · by_cases h2 : (x[k].toNat : Int) ≤ 126
          · go_wp2
            all_goals
              go_round
              case rel => exact ⟨k + 1, by omega, by go_num, okTo_succ HK.out hlt (.inr ⟨by omega, by omega⟩)⟩
              case measure => simp [intOf]; omega
          · have h2' : 126 < (x[k].toNat : Int) := by omega
            clear h2
            go_wp2
            all_goals
              first
                | (exfalso; omega)
                | (go_ret; exact ⟨rfl, rfl⟩)
        · have h1' : (x[k].toNat : Int) < 32 := by omega
          clear h1
          go_wp2
          all_goals
            first
              | (exfalso; omega)
              | (go_ret; exact ⟨rfl, rfl⟩)
    · have h200 : 200 < x.size := by
        have hkk : k = x.size := by omega
        rcases Nat.lt_or_ge 200 x.size with h | h
        · exact h
        · exact absurd ⟨okTo_all (by rw [← hkk]; exact HK.out), h⟩ HT.out
      go_wp2
      go_ret
      exact ⟨by simp; omega, rfl⟩
set_option maxHeartbeats 800000 in
theorem isText374_true (x : ByteArray) (w : World) (h : isTextB x.data.toList = true) (hs : x.size ≤ 200) : Answers Tryz.prog 374 #[.string x] w fun v w' => retT true v w w' := by
  have HT : Hid (isTextB x.data.toList = true) := Go.Lib.hid h
  clear h
  refine answers_of_wp Tryz.func374 (ne_of_beq_false (by kernel_rfl)) rfl ?_
  simp only [Tryz.ntmps374, List.size_toArray, List.length_cons, List.length_nil, Nat.reduceAdd, Nat.reduceSub, Array.replicate_succ, Array.replicate_zero, List.push_toArray, List.append_toArray, List.nil_append, List.cons_append]
  go_wp2
  go_loop [6] (fun i => ∃ k : Nat, k ≤ x.size ∧ i = .int .i64 k) (fun i => x.size - (intOf i).toNat)
  case atStart => exact ⟨0, Nat.zero_le _, rfl⟩
  case round =>
    obtain ⟨k, hk, rfl⟩ := hrel
    by_cases hlt : k < x.size
    · have hb := text_byte HT.out hlt
      by_cases h10 : (x[k].toNat : Int) = 10
      · clear hb
        go_wp2_with (with_reducible refine (between_any _ _ _ _).mono ?_; rintro e w' ⟨rfl, rfl⟩)
        all_goals
          go_round
          case rel => exact ⟨k + 1, by omega, by go_num⟩
          case measure => simp [intOf]; omega
      · have h1 : 32 ≤ (x[k].toNat : Int) := by omega
        have h2 : (x[k].toNat : Int) ≤ 126 := by omega
        clear hb
        go_wp2_with (with_reducible refine (between_any _ _ _ _).mono ?_; rintro e w' ⟨rfl, rfl⟩)
        all_goals
          go_round
          case rel => exact ⟨k + 1, by omega, by go_num⟩
          case measure => simp [intOf]; omega
    · go_wp2
      go_ret
      exact ⟨_, rfl, by simp; omega, rfl⟩
theorem isText4_trueC (x : ByteArray) (w : World) (h : isTextB x.data.toList = true) (hs : x.size ≤ 200) : Calls Tryz.prog 4 #[.string x] w fun e w' => e = .returned (.bool true) ∧ w = w' := by
  have hrun : (callFunc 4 #[.string x]).run Tryz.prog w = .ok (.enter 4 #[.string x]) w := callFunc_body Tryz.func4 rfl (ne_of_beq_false (by kernel_rfl))
  rcases isText4_true x w h hs with ⟨_, g, _⟩ | ⟨v, g, _⟩
  · refine g.mono fun e w' => ?_
    rintro ⟨v, rfl, rfl, rfl⟩
    exact ⟨rfl, rfl⟩
  · rw [hrun] at g; cases g
set_option maxHeartbeats 800000 in
/-- no text -/
theorem law_no {w : World} (ha : Calls Tryz.prog 5 #[] w fun e w' => e = .returned (.bool true) ∧ Kept0 w w') (x : ByteArray) (n : Int) (hx : ¬ (isTextB x.data.toList = true ∧ x.size ≤ 200)) (hs : x.size ≤ maxLen) : Calls Tryz.prog 3 #[.string x, .int .i64 n] w fun e w' => e = .returned (.bool true) ∧ Kept0 w w' := by
  have HA := Go.Lib.hid ha
  have HX := Go.Lib.hid (isText4_false x w hx hs)
  clear ha hx
  go_enter Tryz.func3, Tryz.ntmps3
  go_wp2_with (first
    | ((with_reducible refine HX.out.mono ?_); rintro e w' ⟨rfl, rfl⟩)
    | ((with_reducible refine HA.out.mono ?_); rintro e w' ⟨rfl, hk⟩))
  all_goals (go_ret; exact ⟨rfl, hk⟩)
set_option maxHeartbeats 800000 in
theorem law_neg {w : World} (ha : Calls Tryz.prog 5 #[] w fun e w' => e = .returned (.bool true) ∧ Kept0 w w') (x : ByteArray) (n : Int) (hx : isTextB x.data.toList = true) (hs : x.size ≤ 200) (hn : n < 0) : Calls Tryz.prog 3 #[.string x, .int .i64 n] w fun e w' => e = .returned (.bool true) ∧ Kept0 w w' := by
  have HA := Go.Lib.hid ha
  have HX := Go.Lib.hid (isText4_trueC x w hx hs)
  clear ha hx
  go_enter Tryz.func3, Tryz.ntmps3
  go_wp2_with (first
    | ((with_reducible refine HX.out.mono ?_); rintro e w' ⟨rfl, rfl⟩)
    | ((with_reducible refine HA.out.mono ?_); rintro e w' ⟨rfl, hk⟩))
  all_goals (go_ret; exact ⟨rfl, hk⟩)
set_option maxHeartbeats 800000 in
theorem law_big {w : World} (ha : Calls Tryz.prog 5 #[] w fun e w' => e = .returned (.bool true) ∧ Kept0 w w') (x : ByteArray) (n : Int) (hx : isTextB x.data.toList = true) (hs : x.size ≤ 200) (h0 : 0 ≤ n) (hn : 6000 < n) : Calls Tryz.prog 3 #[.string x, .int .i64 n] w fun e w' => e = .returned (.bool true) ∧ Kept0 w w' := by
  have HA := Go.Lib.hid ha
  have HX := Go.Lib.hid (isText4_trueC x w hx hs)
  clear ha hx
  go_enter Tryz.func3, Tryz.ntmps3
  go_wp2_with (first
    | ((with_reducible refine HX.out.mono ?_); rintro e w' ⟨rfl, rfl⟩)
    | ((with_reducible refine HA.out.mono ?_); rintro e w' ⟨rfl, hk⟩))
  all_goals (go_ret; exact ⟨rfl, hk⟩)
end Go.Proofs

