/-
  A part of the proof that virgatetop.ModeLoop answers true for every text and every fuel: a part of the run that reads nothing. No condition.
-/
import Derived.Test.YtlndamldkcangaaGreatDoorEvE
import Derived.Lib.Bytealg
import Derived.Laws.StandIn
import Derived.Test.YtlndamldkcangaaGreatDoorEnv
import Derived.Test.YtlndamldkcangaaGreatDoorEvF
import Derived.KernelRfl
set_option linter.all false
/-! Functions of the library whose answers are told. -/
namespace Go.Ev
open Go Go.Lib
set_option linter.unusedSimpArgs false
set_option linter.unusedVariables false
noncomputable section
def idxB (c : UInt8) (l : List UInt8) : Nat → Int :=
  List.rec (motive := fun _ => Nat → Int) (fun _ => -1) (fun b _ ih k => bi (Nat.beq b.toNat c.toNat) (Int.ofNat k) (ih (Nat.succ k))) l
/-- bytealg.IndexByteString -/
def ovIdx (args : List Value) (s : S) : Option (Value × S) :=
  two args fun b c => vStr b fun bs => vInt c fun k n => gd (kEq k .u8) (some (.int .i64 (idxB (UInt8.ofNat n.toNat) bs 0), s))
end
theorem idxB_eq (c : UInt8) : ∀ (l : List UInt8) (k : Nat), idxB c l k = if indexByte l c == -1 then -1 else indexByte l c + k := by
  intro l
  induction l with
  | nil => intro k; rfl
  | cons b l ih =>
    intro k
    have e : idxB c (b :: l) k = bi (Nat.beq b.toNat c.toNat) (Int.ofNat k) (idxB c l (k + 1)) := rfl
    rw [e, bi_eq, ih]
    have hge := indexByte_ge l c
    have hbc : (Nat.beq b.toNat c.toNat = true) ↔ b = c := by rw [beq_nat, UInt8.toNat_inj]
    simp only [indexByte, hbc, beq_iff_eq]
    by_cases h : b = c
    · simp [h]
    · simp only [h, if_false]
      by_cases h1 : indexByte l c = -1
      · simp [h1]
      · simp only [h1, if_false]
        rw [if_neg (by omega)]
        push_cast
        omega
theorem ovIdx_sound {P : Program} {f : FuncId} {fn : Func} (hf : P.funcs[f]? = some fn) (hname : (fn.name == "runtime.NumGoroutine") = false) (hb : fn.body.isNone = true) (hn : Extern.findNext fn = none)
    (he : Extern.find fn = some Extern.BytealgIndexByte.indexByte) : OvF P f ovIdx := by
  intro args args' s v s' Φ w h hr ha
  obtain ⟨a, b, rfl, k1⟩ := two_eq h
  obtain ⟨bs, rfl, k2⟩ := vStr_eq k1
  obtain ⟨k, n, rfl, k3⟩ := vInt_eq k2
  obtain ⟨hk, k4⟩ := gd_eq k3
  cases k4
  have hk := kEq_eq.1 hk
  subst hk
  obtain ⟨a', l1, e1, h1, h2⟩ := ha.cons_inv
  obtain ⟨b', l2, e2, h3, h4⟩ := h2.cons_inv
  have e3 := h4.nil_inv
  subst e3 e2
  have e4 := arr2 e1
  subst e4
  cases h1
  cases h3
  refine .inr ⟨.int .i64 (indexByte bs.data.toList n.toNat.toUInt8), ?_, Φ, ?_, hr, Ext.refl _ _ _⟩
  · rw [run_callFunc_indexByte hf hname hb hn he, run_indexByteString]
    rfl
  · have : idxB (UInt8.ofNat n.toNat) bs.data.toList 0 = indexByte bs.data.toList n.toNat.toUInt8 := by
      rw [idxB_eq]
      have e : UInt8.ofNat n.toNat = n.toNat.toUInt8 := rfl
      rw [e]
      by_cases h1 : indexByte bs.data.toList n.toNat.toUInt8 = -1
      · simp [h1]
      · simp [h1]
    rw [this]
    exact .int _ _
end Go.Ev

set_option maxRecDepth 1000000
namespace Go.Proofs
open Go Go.Ev
theorem Tryz.ofX : OvF Tryz.prog 473 ovIdx := ovIdx_sound Tryz.func473 (by kernel_rfl) (by kernel_rfl) (by kernel_rfl) (by kernel_rfl)
noncomputable def Tryz.evX : Env := ⟨Tryz.env.ty, Tryz.env.fn, Tryz.env.inn, ofList [(473, ovIdx)]⟩
theorem Tryz.eokX : EOK Tryz.prog Tryz.evX := Tryz.eok.ov _
theorem Tryz.ookX : OvOK Tryz.prog Tryz.evX := OvOK.of (l := [(473, ovIdx)]) rfl (AllL.cons _ _ Tryz.ofX AllL.nil)
noncomputable def Tryz.qf : Qm := ⟨[.string ⟨⟨[102]⟩⟩], [(0, Tryz.tab0)], .bool false⟩
theorem Tryz.qokf : qmOK Tryz.qf = true := by kernel_rfl
theorem Tryz.qrunf : qRuns Tryz.evX 100000 397 Tryz.qf = true := by kernel_rfl
noncomputable def Tryz.qs : Qm := ⟨[.string ⟨⟨[115]⟩⟩], [(0, Tryz.tab0)], .bool false⟩
theorem Tryz.qoks : qmOK Tryz.qs = true := by kernel_rfl
theorem Tryz.qruns : qRuns Tryz.evX 100000 397 Tryz.qs = true := by kernel_rfl
noncomputable def Tryz.qa : Qm := ⟨[.string ⟨⟨[97]⟩⟩], [(0, Tryz.tab0)], .bool false⟩
theorem Tryz.qoka : qmOK Tryz.qa = true := by kernel_rfl
theorem Tryz.qruna : qRuns Tryz.evX 100000 397 Tryz.qa = true := by kernel_rfl
noncomputable def Tryz.qx : Qm := ⟨[.string ⟨⟨[120]⟩⟩], [(0, Tryz.tab0)], .bool false⟩
theorem Tryz.qokx : qmOK Tryz.qx = true := by kernel_rfl
theorem Tryz.qrunx : qRuns Tryz.evX 100000 397 Tryz.qx = true := by kernel_rfl
noncomputable def Tryz.qr : Qm := ⟨[.string ⟨⟨[114]⟩⟩], [(0, Tryz.tab0)], .bool false⟩
theorem Tryz.qokr : qmOK Tryz.qr = true := by kernel_rfl
theorem Tryz.qrunr : qRuns Tryz.evX 100000 397 Tryz.qr = true := by kernel_rfl
noncomputable def Tryz.oK : List Value → S → Option (Value × S) := (qF Tryz.qr (qF Tryz.qx (qF Tryz.qa (qF Tryz.qs (qF Tryz.qf Tryz.no)))))
theorem Tryz.ofK : OvF Tryz.prog 397 Tryz.oK := (qm_sound Tryz.eokX Tryz.ookX Tryz.qokr Tryz.qrunr (qm_sound Tryz.eokX Tryz.ookX Tryz.qokx Tryz.qrunx (qm_sound Tryz.eokX Tryz.ookX Tryz.qoka Tryz.qruna (qm_sound Tryz.eokX Tryz.ookX Tryz.qoks Tryz.qruns (qm_sound Tryz.eokX Tryz.ookX Tryz.qokf Tryz.qrunf (OvF.none _ _))))))
noncomputable def Tryz.evA : Env := ⟨Tryz.env.ty, Tryz.env.fn, Tryz.env.inn, ofList [(397, Tryz.oK), (473, ovIdx)]⟩
theorem Tryz.eokA : EOK Tryz.prog Tryz.evA := Tryz.eok.ov _
theorem Tryz.ookA : OvOK Tryz.prog Tryz.evA := OvOK.of (l := [(397, Tryz.oK), (473, ovIdx)]) rfl (AllL.cons _ _ Tryz.ofK <| AllL.cons _ _ Tryz.ofX AllL.nil)
noncomputable def Tryz.qAw : Qm := ⟨[], [(0, Tryz.tab0)], .bool true⟩
theorem Tryz.qokA : qmOK Tryz.qAw = true := by kernel_rfl
theorem Tryz.qrunA : qRuns Tryz.evA 100000 5 Tryz.qAw = true := by kernel_rfl
noncomputable def Tryz.oA : List Value → S → Option (Value × S) := qF Tryz.qAw Tryz.no
theorem Tryz.ofA : OvF Tryz.prog 5 Tryz.oA := qm_sound Tryz.eokA Tryz.ookA Tryz.qokA Tryz.qrunA (OvF.none _ _)
end Go.Proofs

