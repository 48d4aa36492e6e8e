/-
  A part of the proof that virgatetop.ModeLoop answers true for every text and every fuel: the loop for every fuel. No condition.
-/
import Derived.Test.YtlndamldkcangaaGreatDoorCls0
import Derived.Test.YtlndamldkcangaaGreatDoorCls1
import Derived.Test.YtlndamldkcangaaGreatDoorCls2
import Derived.Test.YtlndamldkcangaaGreatDoorCls3
import Derived.Test.YtlndamldkcangaaGreatDoorCls4
import Derived.Test.YtlndamldkcangaaGreatDoorCls5
import Derived.Test.YtlndamldkcangaaGreatDoorCls6
import Derived.Test.YtlndamldkcangaaGreatDoorCls7
import Derived.Test.YtlndamldkcangaaGreatDoorCls8
import Derived.Test.YtlndamldkcangaaGreatDoorCls9
import Derived.Test.YtlndamldkcangaaGreatDoorCls10
import Derived.Test.YtlndamldkcangaaGreatDoorCls11
import Derived.Test.YtlndamldkcangaaGreatDoorCls12
import Derived.Test.YtlndamldkcangaaGreatDoorCls13
import Derived.Test.YtlndamldkcangaaGreatDoorWalk
import Derived.Test.YtlndamldkcangaaGreatDoorAwake
import Derived.Test.YtlndamldkcangaaGreatDoorEvF
import Derived.KernelRfl
set_option linter.all false
namespace Go.Proofs
open Go Go.Ev
theorem Tryz.clsAll : ∀ N, N ≤ 200 → ∃ (K : ClsD) (r : Rec) (n : Nat), K.lo ≤ N ∧ N ≤ K.hi ∧ CodeOK Tryz.prog r n ∧ clsOK Tryz.T (r.cd (Tryz.loopOf Tryz.f24)) Tryz.mp 5265 Tryz.pre K = true := by
  intro N hN
  by_cases h0 : N ≤ 0
  · exact ⟨Tryz.K0, lvl Tryz.eC0 100000, 100000, by show 0 ≤ N; omega, by show N ≤ 0; omega, (lvl_sound Tryz.eokC0 Tryz.ookC0 (drawnOK Tryz.eokC0) (rgOK Tryz.eokC0) 100000).2, Tryz.cls0⟩
  by_cases h1 : N ≤ 8
  · exact ⟨Tryz.K1, lvl Tryz.eC1 100000, 100000, by show 1 ≤ N; omega, by show N ≤ 8; omega, (lvl_sound Tryz.eokC1 Tryz.ookC1 (drawnOK Tryz.eokC1) (rgOK Tryz.eokC1) 100000).2, Tryz.cls1⟩
  by_cases h2 : N ≤ 16
  · exact ⟨Tryz.K2, lvl Tryz.eC2 100000, 100000, by show 9 ≤ N; omega, by show N ≤ 16; omega, (lvl_sound Tryz.eokC2 Tryz.ookC2 (drawnOK Tryz.eokC2) (rgOK Tryz.eokC2) 100000).2, Tryz.cls2⟩
  by_cases h3 : N ≤ 24
  · exact ⟨Tryz.K3, lvl Tryz.eC3 100000, 100000, by show 17 ≤ N; omega, by show N ≤ 24; omega, (lvl_sound Tryz.eokC3 Tryz.ookC3 (drawnOK Tryz.eokC3) (rgOK Tryz.eokC3) 100000).2, Tryz.cls3⟩
  by_cases h4 : N ≤ 32
  · exact ⟨Tryz.K4, lvl Tryz.eC4 100000, 100000, by show 25 ≤ N; omega, by show N ≤ 32; omega, (lvl_sound Tryz.eokC4 Tryz.ookC4 (drawnOK Tryz.eokC4) (rgOK Tryz.eokC4) 100000).2, Tryz.cls4⟩
  by_cases h5 : N ≤ 40
  · exact ⟨Tryz.K5, lvl Tryz.eC5 100000, 100000, by show 33 ≤ N; omega, by show N ≤ 40; omega, (lvl_sound Tryz.eokC5 Tryz.ookC5 (drawnOK Tryz.eokC5) (rgOK Tryz.eokC5) 100000).2, Tryz.cls5⟩
  by_cases h6 : N ≤ 48
  · exact ⟨Tryz.K6, lvl Tryz.eC6 100000, 100000, by show 41 ≤ N; omega, by show N ≤ 48; omega, (lvl_sound Tryz.eokC6 Tryz.ookC6 (drawnOK Tryz.eokC6) (rgOK Tryz.eokC6) 100000).2, Tryz.cls6⟩
  by_cases h7 : N ≤ 56
  · exact ⟨Tryz.K7, lvl Tryz.eC7 100000, 100000, by show 49 ≤ N; omega, by show N ≤ 56; omega, (lvl_sound Tryz.eokC7 Tryz.ookC7 (drawnOK Tryz.eokC7) (rgOK Tryz.eokC7) 100000).2, Tryz.cls7⟩
  by_cases h8 : N ≤ 64
  · exact ⟨Tryz.K8, lvl Tryz.eC8 100000, 100000, by show 57 ≤ N; omega, by show N ≤ 64; omega, (lvl_sound Tryz.eokC8 Tryz.ookC8 (drawnOK Tryz.eokC8) (rgOK Tryz.eokC8) 100000).2, Tryz.cls8⟩
  by_cases h9 : N ≤ 72
  · exact ⟨Tryz.K9, lvl Tryz.eC9 100000, 100000, by show 65 ≤ N; omega, by show N ≤ 72; omega, (lvl_sound Tryz.eokC9 Tryz.ookC9 (drawnOK Tryz.eokC9) (rgOK Tryz.eokC9) 100000).2, Tryz.cls9⟩
  by_cases h10 : N ≤ 80
  · exact ⟨Tryz.K10, lvl Tryz.eC10 100000, 100000, by show 73 ≤ N; omega, by show N ≤ 80; omega, (lvl_sound Tryz.eokC10 Tryz.ookC10 (drawnOK Tryz.eokC10) (rgOK Tryz.eokC10) 100000).2, Tryz.cls10⟩
  by_cases h11 : N ≤ 88
  · exact ⟨Tryz.K11, lvl Tryz.eC11 100000, 100000, by show 81 ≤ N; omega, by show N ≤ 88; omega, (lvl_sound Tryz.eokC11 Tryz.ookC11 (drawnOK Tryz.eokC11) (rgOK Tryz.eokC11) 100000).2, Tryz.cls11⟩
  by_cases h12 : N ≤ 96
  · exact ⟨Tryz.K12, lvl Tryz.eC12 100000, 100000, by show 89 ≤ N; omega, by show N ≤ 96; omega, (lvl_sound Tryz.eokC12 Tryz.ookC12 (drawnOK Tryz.eokC12) (rgOK Tryz.eokC12) 100000).2, Tryz.cls12⟩
  by_cases h13 : N ≤ 98
  · exact ⟨Tryz.K13, lvl Tryz.eC13 100000, 100000, by show 97 ≤ N; omega, by show N ≤ 98; omega, (lvl_sound Tryz.eokC13 Tryz.ookC13 (drawnOK Tryz.eokC13) (rgOK Tryz.eokC13) 100000).2, Tryz.cls13⟩
  by_cases h14 : N ≤ 104
  · exact ⟨Tryz.K14, lvl Tryz.eC14 100000, 100000, by show 99 ≤ N; omega, by show N ≤ 104; omega, (lvl_sound Tryz.eokC14 Tryz.ookC14 (drawnOK Tryz.eokC14) (rgOK Tryz.eokC14) 100000).2, Tryz.cls14⟩
  by_cases h15 : N ≤ 112
  · exact ⟨Tryz.K15, lvl Tryz.eC15 100000, 100000, by show 105 ≤ N; omega, by show N ≤ 112; omega, (lvl_sound Tryz.eokC15 Tryz.ookC15 (drawnOK Tryz.eokC15) (rgOK Tryz.eokC15) 100000).2, Tryz.cls15⟩
  by_cases h16 : N ≤ 120
  · exact ⟨Tryz.K16, lvl Tryz.eC16 100000, 100000, by show 113 ≤ N; omega, by show N ≤ 120; omega, (lvl_sound Tryz.eokC16 Tryz.ookC16 (drawnOK Tryz.eokC16) (rgOK Tryz.eokC16) 100000).2, Tryz.cls16⟩
  by_cases h17 : N ≤ 128
  · exact ⟨Tryz.K17, lvl Tryz.eC17 100000, 100000, by show 121 ≤ N; omega, by show N ≤ 128; omega, (lvl_sound Tryz.eokC17 Tryz.ookC17 (drawnOK Tryz.eokC17) (rgOK Tryz.eokC17) 100000).2, Tryz.cls17⟩
  by_cases h18 : N ≤ 136
  · exact ⟨Tryz.K18, lvl Tryz.eC18 100000, 100000, by show 129 ≤ N; omega, by show N ≤ 136; omega, (lvl_sound Tryz.eokC18 Tryz.ookC18 (drawnOK Tryz.eokC18) (rgOK Tryz.eokC18) 100000).2, Tryz.cls18⟩
  by_cases h19 : N ≤ 144
  · exact ⟨Tryz.K19, lvl Tryz.eC19 100000, 100000, by show 137 ≤ N; omega, by show N ≤ 144; omega, (lvl_sound Tryz.eokC19 Tryz.ookC19 (drawnOK Tryz.eokC19) (rgOK Tryz.eokC19) 100000).2, Tryz.cls19⟩
  by_cases h20 : N ≤ 152
  · exact ⟨Tryz.K20, lvl Tryz.eC20 100000, 100000, by show 145 ≤ N; omega, by show N ≤ 152; omega, (lvl_sound Tryz.eokC20 Tryz.ookC20 (drawnOK Tryz.eokC20) (rgOK Tryz.eokC20) 100000).2, Tryz.cls20⟩
  by_cases h21 : N ≤ 160
  · exact ⟨Tryz.K21, lvl Tryz.eC21 100000, 100000, by show 153 ≤ N; omega, by show N ≤ 160; omega, (lvl_sound Tryz.eokC21 Tryz.ookC21 (drawnOK Tryz.eokC21) (rgOK Tryz.eokC21) 100000).2, Tryz.cls21⟩
  by_cases h22 : N ≤ 168
  · exact ⟨Tryz.K22, lvl Tryz.eC22 100000, 100000, by show 161 ≤ N; omega, by show N ≤ 168; omega, (lvl_sound Tryz.eokC22 Tryz.ookC22 (drawnOK Tryz.eokC22) (rgOK Tryz.eokC22) 100000).2, Tryz.cls22⟩
  by_cases h23 : N ≤ 176
  · exact ⟨Tryz.K23, lvl Tryz.eC23 100000, 100000, by show 169 ≤ N; omega, by show N ≤ 176; omega, (lvl_sound Tryz.eokC23 Tryz.ookC23 (drawnOK Tryz.eokC23) (rgOK Tryz.eokC23) 100000).2, Tryz.cls23⟩
  by_cases h24 : N ≤ 184
  · exact ⟨Tryz.K24, lvl Tryz.eC24 100000, 100000, by show 177 ≤ N; omega, by show N ≤ 184; omega, (lvl_sound Tryz.eokC24 Tryz.ookC24 (drawnOK Tryz.eokC24) (rgOK Tryz.eokC24) 100000).2, Tryz.cls24⟩
  by_cases h25 : N ≤ 192
  · exact ⟨Tryz.K25, lvl Tryz.eC25 100000, 100000, by show 185 ≤ N; omega, by show N ≤ 192; omega, (lvl_sound Tryz.eokC25 Tryz.ookC25 (drawnOK Tryz.eokC25) (rgOK Tryz.eokC25) 100000).2, Tryz.cls25⟩
  exact ⟨Tryz.K26, lvl Tryz.eC26 100000, 100000, by show 193 ≤ N; omega, by show N ≤ 200; omega, (lvl_sound Tryz.eokC26 Tryz.ookC26 (drawnOK Tryz.eokC26) (rgOK Tryz.eokC26) 100000).2, Tryz.cls26⟩
end Go.Proofs

set_option maxRecDepth 1000000
namespace Go.Proofs
open Go Go.Ev
noncomputable def ovText (args : List Value) (s : S) : Option (Value × S) := match args with
  | [.complex .f64 i c] => gd (band (Nat.beq i 2) (bor (bnot (Nat.blt c nBase)) (Nat.ble c 200))) (some (.bool true, s))
  | _ => none
theorem ovText_sound {P : Program} {f : FuncId} (H : ∀ (x : ByteArray) (w : World), isTextB x.data.toList = true → x.size ≤ 200 → Answers P f #[.string x] w fun v w' => retT true v w w') : OvF P f ovText := by
  intro args args' s v s' Φ w h hr ha
  unfold ovText at h
  split at h
  · rename_i i c
    obtain ⟨h1, h2⟩ := gd_eq h
    cases h2
    rw [band_eq, Bool.and_eq_true, beq_nat, bor_eq, Bool.or_eq_true, bnot_eq, Bool.not_eq_true', ble_nat] at h1
    obtain ⟨rfl, h1⟩ := h1
    obtain ⟨v', l', e, hv, hl⟩ := ha.cons_inv
    have hl' := hl.nil_inv
    subst hl'
    have e' : args' = #[v'] := Array.toList_inj.1 e
    subst e'
    obtain ⟨x, rfl, hx, hn⟩ : ∃ x : ByteArray, v' = .string x ∧ isTextB x.data.toList = true ∧ x.size ≤ 200 := by
      rcases hv.sy_inv with ⟨x, g1, g2, g3, g4⟩ | ⟨lz, lF, lL, l, q1, q2, q3, q4, x, g1, g2, g3, g4, g5, g6, g7⟩
      · refine ⟨x, g1, g3, ?_⟩
        rcases h1 with h1 | h1
        · rw [blt_nat.2 g4] at h1; cases h1
        · have g2' : x.size = c := g2
          omega
      · have g2' : x.size = l.size := g2
        exact ⟨x, g1, g3, by omega⟩
    refine (H x w hx hn).mono fun v' w' => ?_
    rintro ⟨rfl, rfl⟩
    exact ⟨Φ, .bool _, hr, Ext.refl _ _ _⟩
  · cases h
theorem Tryz.ofTx4 : OvF Tryz.prog 4 ovText := ovText_sound isText4_true
theorem Tryz.ofTx374 : OvF Tryz.prog 374 ovText := ovText_sound isText374_true
noncomputable def Tryz.mL : Mem := ⟨[.pointer (some Tryz.mp), sy 6 3], 5265, Tryz.pre, .tuple ⟨[]⟩, 5265, Tryz.T.FL⟩
theorem Tryz.limRun : MemRun Tryz.prog 24 Tryz.mL :=
  lim_run Tryz.func24 (ne_of_beq_false (by kernel_rfl)) (id := 0) (c := Tryz.loopOf Tryz.f24) (by kernel_rfl) (by kernel_rfl) (by kernel_rfl) rfl (Nat.le_of_ble_eq_true (by kernel_rfl)) Tryz.codeOK Tryz.per Tryz.lim Tryz.clsAll
theorem Tryz.mLok : memOK Tryz.mL = true := by kernel_rfl
noncomputable def Tryz.oL : List Value → S → Option (Value × S) := memL [Tryz.mL] Tryz.no
theorem Tryz.ofL : OvF Tryz.prog 24 Tryz.oL := OvF.memRun Tryz.mLok Tryz.limRun (OvF.memNil _ (OvF.none _ _))
end Go.Proofs

