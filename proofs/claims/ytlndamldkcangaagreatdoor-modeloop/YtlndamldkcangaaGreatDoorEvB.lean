/-
  A part of the proof that virgatetop.ModeLoop answers true for every text and every fuel: what the evaluator says of operations that only read. No condition.
-/
import Derived.Test.YtlndamldkcangaaGreatDoorEvA
set_option linter.all false
/-! Operations that only read: strings, places, lengths, maps; and all of them. -/
namespace Go.Ev
open Go
set_option linter.unusedSimpArgs false
set_option linter.unusedVariables false
section
variable {P : Program} {E : Env} {Φ : Ren} {w : World}

theorem extract_eq (s : ByteArray) (i j : Nat) (hij : i ≤ j) (hj : j ≤ s.data.toList.length) {r : List UInt8} (h : cut s.data.toList i (j - i) = some r) : s.extract i j = ⟨⟨r⟩⟩ := by
  obtain ⟨h1, _⟩ := cut_eq h
  apply ByteArray.ext
  apply Array.toList_inj.1
  simp only [ByteArray.data_extract, Array.toList_extract]
  rw [h1, List.extract_eq_take_drop]
theorem sliceS_sound {t : TypeId} {s : ByteArray} {v' : Value} {lo hi lo' hi' : Option Value} {r : Value} (hu : P.underlying t = some .string) (h : sliceS s.data.toList lo hi = some r)
    (hlo : (lo = none ∧ lo' = none) ∨ ∃ v v', lo = some v ∧ lo' = some v' ∧ VR Φ v v') (hhi : (hi = none ∧ hi' = none) ∨ ∃ v v', hi = some v ∧ hi' = some v' ∧ VR Φ v v')
    (hv : VR Φ (.string s) v') : ∃ r', VR Φ r r' ∧ (Instr.sliceAt t v' lo' hi' none).run P w = .ok r' w := by
  obtain ⟨l, h1, h2⟩ := ob_eq h
  obtain ⟨hh, h3, h4⟩ := ob_eq h2
  obtain ⟨h7, h8⟩ := gd_eq h4
  obtain ⟨rr, h9, h10⟩ := ob_eq h8
  cases h10
  cases hv
  simp only [band_eq, Bool.and_eq_true, ble_nat] at h7
  have b1 := bound_sound h1 hlo
  have b2 := bound_sound h3 hhi
  have hlen : s.data.toList.length = s.size := rfl
  have hb : (Instr.sliceBounds false s.size s.size lo' hi' none).run P w = .ok (l, hh, s.size) w :=
    run_bounds b1 b2 (.inl ⟨rfl, rfl⟩) (fun _ => rfl) h7.1 (by omega) (Nat.le_refl _) false
  refine ⟨_, .str _, ?_⟩
  rw [run_sliceAt_string (P := P) (w := w) t _ lo' hi' none hu]
  unfold Instr.slice
  simp only [Sem.run_bind, run_underlying hu, Result.andThen_ok]
  have : (Option.isSome (none : Option Value)) = false := rfl
  simp only [this, Bool.false_eq_true, if_false, Sem.run_bind, Sem.run_pure, Result.andThen_ok, hb]
  rw [extract_eq s l hh h7.1 h7.2 h9]

theorem sySlice_sound {t : TypeId} {s : ByteArray} {lo hi lo' hi' : Option Value} {r : Value} (hu : P.underlying t = some .string) (h : sySlice s.data.toList.length lo hi = some r)
    (hlo : (lo = none ∧ lo' = none) ∨ ∃ v v', lo = some v ∧ lo' = some v' ∧ VR Φ v v') (hhi : (hi = none ∧ hi' = none) ∨ ∃ v v', hi = some v ∧ hi' = some v' ∧ VR Φ v v') :
    ∃ r', VR Φ r r' ∧ (Instr.sliceAt t (.string s) lo' hi' none).run P w = .ok r' w := by
  obtain ⟨l, h1, h2⟩ := ob_eq h
  obtain ⟨hh, h3, h4⟩ := ob_eq h2
  obtain ⟨h7, h8⟩ := gd_eq h4
  cases h8
  simp only [band_eq, Bool.and_eq_true, ble_nat, blt_nat] at h7
  obtain ⟨h7, h7n⟩ := h7
  have b1 := bound_sound h1 hlo
  have b2 := bound_sound h3 hhi
  have hlen : s.data.toList.length = s.size := rfl
  have hb : (Instr.sliceBounds false s.size s.size lo' hi' none).run P w = .ok (l, hh, s.size) w :=
    run_bounds b1 b2 (.inl ⟨rfl, rfl⟩) (fun _ => rfl) h7.1 (by omega) (Nat.le_refl _) false
  refine ⟨.string (s.extract l hh), .sy _ _ _ (.inl ⟨_, rfl, ?_, by omega⟩), ?_⟩
  · have e : (s.extract l hh).data.toList.length = (s.extract l hh).size := rfl
    rw [e, ByteArray.size_extract]
    omega
  rw [run_sliceAt_string (P := P) (w := w) t _ lo' hi' none hu]
  unfold Instr.slice
  simp only [Sem.run_bind, run_underlying hu, Result.andThen_ok]
  have : (Option.isSome (none : Option Value)) = false := rfl
  simp only [this, Bool.false_eq_true, if_false, Sem.run_bind, Sem.run_pure, Result.andThen_ok, hb]

theorem sySliceN_sound {t : TypeId} {v v' : Value} {lo hi lo' hi' : Option Value} {r : Value} (hu : P.underlying t = some .string) (h : sySliceN v lo hi = some r)
    (hlo : (lo = none ∧ lo' = none) ∨ ∃ v v', lo = some v ∧ lo' = some v' ∧ VR Φ v v') (hhi : (hi = none ∧ hi' = none) ∨ ∃ v v', hi = some v ∧ hi' = some v' ∧ VR Φ v v')
    (hv : VR Φ v v') : ∃ r', VR Φ r r' ∧ (Instr.sliceAt t v' lo' hi' none).run P w = .ok r' w := by
  unfold sySliceN at h
  split at h
  · rename_i i c
    obtain ⟨h1, h2⟩ := gd_eq h
    rw [band_eq, Bool.and_eq_true, bor_eq, Bool.or_eq_true, beq_nat, beq_nat, bnot_eq, Bool.not_eq_true'] at h1
    obtain ⟨s, lz, lF, lL, l0, e3, e4, e5, e6, rfl, e2, e7, e8, e9⟩ := hv.sy_inv.strN h1.1 (fun hh => by have := blt_nat.2 hh; rw [this] at h1; cases h1.2)
    obtain ⟨l, h3, h4⟩ := ob_eq h2
    cases hi with
    | none => cases h4
    | some hvv =>
      obtain ⟨k, hh, rfl, h5⟩ := vNat_eq h4
      obtain ⟨h7, h8⟩ := gd_eq h5
      cases h8
      simp only [band_eq, Bool.and_eq_true, ble_nat, blt_nat] at h7
      obtain ⟨⟨h7, h9⟩, h7n⟩ := h7
      have b1 := bound_sound h3 hlo
      have b2 : (hi' = none ∧ hh = s.size) ∨ ∃ k : IntKind, hi' = some (.int k hh) := by
        rcases hhi with ⟨e, _⟩ | ⟨u, u', e, e', hu'⟩
        · cases e
        · cases e; cases hu'; exact .inr ⟨_, e'⟩
      have hlen : s.data.toList.length = s.size := rfl
      have hb : (Instr.sliceBounds false s.size s.size lo' hi' none).run P w = .ok (l, hh, s.size) w :=
        run_bounds b1 b2 (.inl ⟨rfl, rfl⟩) (fun _ => rfl) h7 (by omega) (Nat.le_refl _) false
      refine ⟨.string (s.extract l hh), .sy _ _ _ (.inl ⟨_, rfl, ?_, by omega⟩), ?_⟩
      · have e : (s.extract l hh).data.toList.length = (s.extract l hh).size := rfl
        rw [e, ByteArray.size_extract]
        omega
      rw [run_sliceAt_string (P := P) (w := w) t _ lo' hi' none hu]
      unfold Instr.slice
      simp only [Sem.run_bind, run_underlying hu, Result.andThen_ok]
      have : (Option.isSome (none : Option Value)) = false := rfl
      simp only [this, Bool.false_eq_true, if_false, Sem.run_bind, Sem.run_pure, Result.andThen_ok, hb]
  · cases h
theorem sliceArr_sound {t el : TypeId} {sz n : Nat} {a : Addr} {v' : Value} {lo hi lo' hi' : Option Value} {r : Value} (hu : P.underlying t = some (.array n el)) (hz : (sizeOf el).run P w = .ok sz w)
    (h : sliceArr sz a n lo hi = some r)
    (hlo : (lo = none ∧ lo' = none) ∨ ∃ v v', lo = some v ∧ lo' = some v' ∧ VR Φ v v') (hhi : (hi = none ∧ hi' = none) ∨ ∃ v v', hi = some v ∧ hi' = some v' ∧ VR Φ v v')
    (hv : VR Φ (.pointer (some a)) v') : ∃ r', VR Φ r r' ∧ (Instr.sliceAt t v' lo' hi' none).run P w = .ok r' w := by
  obtain ⟨l, h1, h2⟩ := ob_eq h
  obtain ⟨hh, h3, h4⟩ := ob_eq h2
  obtain ⟨h7, h8⟩ := gd_eq h4
  simp only [band_eq, Bool.and_eq_true, ble_nat] at h7
  have b1 := bound_sound h1 hlo
  have b2 := bound_sound h3 hhi
  have hb : (Instr.sliceBounds false n n lo' hi' none).run P w = .ok (l, hh, n) w :=
    run_bounds b1 b2 (.inl ⟨rfl, rfl⟩) (fun _ => rfl) h7.1 h7.2 (Nat.le_refl _) false
  obtain ⟨a', rfl, ⟨ll, hl, rfl⟩, hs⟩ := hv.ptr_inv
  obtain ⟨b, o, sp⟩ := a
  simp only at hs hl
  subst hs
  have run : (Instr.sliceAt t (.pointer (some ⟨ll.b, ll.base + o, none⟩)) lo' hi' none).run P w = .ok (.slice (some (if n = l then ⟨ll.b, ll.base + o, none⟩ else (⟨ll.b, ll.base + o, none⟩ : Addr).add (l * sz))) (hh - l) (n - l)) w := by
    simp only [Instr.sliceAt, Sem.run_bind, run_underlying hu, Result.andThen_ok, Instr.sureAddr, Sem.run_pure, hb, hz]
  rw [run]
  unfold sliceX at h8
  rw [bi_eq, beq_dec] at h8
  cases h8
  by_cases e : n = l
  · rw [if_pos e, if_pos (by simpa using e)]
    exact ⟨_, .sl _ _ _ _ ll hl, rfl⟩
  · rw [if_neg e, if_neg (by simpa using e)]
    refine ⟨_, .sl b (o + l * sz) _ _ ll hl, ?_⟩
    simp [add_none, Nat.add_assoc]

theorem opO_sound {c : C} {x : Option Operand} {v : Option Value} {ρ : Operand → Value} (h : opO c x = some v) (hx : ∀ y, x = some y → ∀ u, opnd c.tm y = some u → VR Φ u (ρ y)) :
    (v = none ∧ x.map ρ = none ∧ x = none) ∨ ∃ u u', v = some u ∧ x.map ρ = some u' ∧ VR Φ u u' := by
  cases x with
  | none => cases h; exact .inl ⟨rfl, rfl, rfl⟩
  | some y =>
    have h' : (ob (opnd c.tm y) fun v => some (some v)) = some v := h
    obtain ⟨u, h1, h2⟩ := ob_eq h'
    cases h2
    exact .inr ⟨u, ρ y, rfl, rfl, hx y rfl u h1⟩
theorem qSlice_sound {c : C} {t : TypeId} {x : Operand} {lo hi mx : Option Operand} {r : Value} {ρ : Operand → Value} (hE : EOK P c.E) (h : qSlice c t x lo hi mx = some r)
    (hρ : ∀ y, y ∈ (Op.slice t x lo hi mx).operands → ∀ u, opnd c.tm y = some u → VR Φ u (ρ y)) :
    ∃ r', VR Φ r r' ∧ (Instr.sliceAt t (ρ x) (lo.map ρ) (hi.map ρ) (mx.map ρ)).run P w = .ok r' w := by
  obtain ⟨ti, h1, h2⟩ := ob_eq h
  obtain ⟨v, h3, h4⟩ := ob_eq h2
  obtain ⟨lo1, h5, h6⟩ := ob_eq h4
  obtain ⟨hi1, h7, h8⟩ := ob_eq h6
  obtain ⟨mx1, h9, h10⟩ := ob_eq h8
  have hx := hρ x (by simp [Op.operands]) v h3
  have hlo := opO_sound h5 (fun y hy => hρ y (by simp [Op.operands, hy]))
  have hhi := opO_sound h7 (fun y hy => hρ y (by simp [Op.operands, hy]))
  have hmx := opO_sound h9 (fun y hy => hρ y (by simp [Op.operands, hy]))
  have hlo' : (lo1 = none ∧ lo.map ρ = none) ∨ ∃ v v', lo1 = some v ∧ lo.map ρ = some v' ∧ VR Φ v v' := hlo.imp (fun h => ⟨h.1, h.2.1⟩) id
  have hhi' : (hi1 = none ∧ hi.map ρ = none) ∨ ∃ v v', hi1 = some v ∧ hi.map ρ = some v' ∧ VR Φ v v' := hhi.imp (fun h => ⟨h.1, h.2.1⟩) id
  have hmx' : (mx1 = none ∧ mx.map ρ = none) ∨ ∃ v v', mx1 = some v ∧ mx.map ρ = some v' ∧ VR Φ v v' := hmx.imp (fun h => ⟨h.1, h.2.1⟩) id
  have hT := hE.ty _ _ h1
  unfold slice1 at h10
  split at h10
  · rename_i el hk
    obtain ⟨g1, g2⟩ := gd_eq h10
    rw [bor_eq, Bool.or_eq_true] at g1
    obtain ⟨ei, h11, h12⟩ := ob_eq g2
    obtain ⟨a, len, cap, rfl, h13⟩ := vSlice_eq h12
    have hu := hT.und
    rw [hk] at hu
    refine sliceV_sound hu ((hE.ty _ _ h11).run_size w) h13 ?_ hlo' hhi' hmx' hx
    intro e
    rcases g1 with g | g
    · rw [e] at g; cases g
    · simpa using g
  · rename_i hk
    obtain ⟨h11, h12⟩ := gd_eq h10
    have hu := hT.und
    rw [hk] at hu
    have hmn : mx.map ρ = none := by
      rcases hmx with ⟨_, e, _⟩ | ⟨u, u', e, _⟩
      · exact e
      · rw [e] at h11; cases h11
    rw [hmn]
    rcases orE_eq h12 with h12 | h12
    · obtain ⟨s, rfl, h13⟩ := vStr_eq h12
      exact sliceS_sound hu h13 hlo' hhi' hx
    · rcases orE_eq h12 with h12 | h12
      · generalize ρ x = x' at hx ⊢
        obtain ⟨s, p, rfl, h13⟩ := lenV_eq h12 hx
        exact sySlice_sound hu h13 hlo' hhi'
      · exact sySliceN_sound hu h12 hlo' hhi' hx
  · rename_i n el hk
    obtain ⟨h11, h12⟩ := gd_eq h10
    have hu := hT.und
    rw [hk] at hu
    have hmn : mx.map ρ = none := by
      rcases hmx with ⟨_, e, _⟩ | ⟨u, u', e, _⟩
      · exact e
      · rw [e] at h11; cases h11
    rw [hmn]
    obtain ⟨ei, h13, h14⟩ := ob_eq h12
    obtain ⟨a, rfl, h15⟩ := vPtr_eq h14
    exact sliceArr_sound hu ((hE.ty _ _ h13).run_size w) h15 hlo' hhi' hx
  · cases h10

/-! places -/
theorem qFieldAddr_sound {c : C} {t : TypeId} {x : Operand} {f : Nat} {r : Value} {ρ : Operand → Value} (hE : EOK P c.E) (h : qFieldAddr c t x f = some r)
    (hx : ∀ u, opnd c.tm x = some u → VR Φ u (ρ x)) : ∃ r', VR Φ r r' ∧ (Instr.fieldAt t (ρ x) f).run P w = .ok r' w := by
  obtain ⟨ti, h1, h2⟩ := ob_eq h
  obtain ⟨fs, hk, h3⟩ := kStruct_eq h2
  obtain ⟨fd, h4, h5⟩ := ob_eq h3
  obtain ⟨fi, h6, h7⟩ := ob_eq h5
  obtain ⟨h8, h9⟩ := gd_eq h7
  obtain ⟨v, h10, h11⟩ := ob_eq h9
  obtain ⟨a, rfl, h12⟩ := vPtr_eq h11
  cases h12
  obtain ⟨a', hρ, ha, hsp⟩ := (hx _ h10).ptr_inv
  rw [hρ]
  have hu := (hE.ty _ _ h1).und
  rw [hk] at hu
  rw [nth_eq] at h4
  have h4' : fs[f]? = some fd := by simpa using h4
  have hz := (hE.ty _ _ h6).run_size (P := P) w
  have hnz : ¬ fi.sz = 0 := by have := blt_nat.1 h8; omega
  refine ⟨_, AR.mk (ha.add fd.offset none) rfl, ?_⟩
  simp only [Instr.fieldAt, Sem.run_bind, run_underlying hu, Result.andThen_ok, h4', Instr.sureAddr, Sem.run_pure, fieldPlace, hz, if_neg hnz]
theorem qField_sound {c : C} {t : TypeId} {x : Operand} {f : Nat} {r : Value} {ρ : Operand → Value} (hE : EOK P c.E) (h : qField c t x f = some r)
    (hx : ∀ u, opnd c.tm x = some u → VR Φ u (ρ x)) : ∃ r', VR Φ r r' ∧ (Instr.field t (ρ x) f).run P w = .ok r' w := by
  obtain ⟨ti, h1, h2⟩ := ob_eq h
  obtain ⟨fs, hk, h3⟩ := kStruct_eq h2
  obtain ⟨fd, h4, h5⟩ := ob_eq h3
  obtain ⟨v, h10, h11⟩ := ob_eq h5
  obtain ⟨cs, rfl, h12⟩ := vAgg_eq h11
  obtain ⟨fi, h6, h7⟩ := ob_eq h12
  have hv := hx _ h10
  generalize ρ x = x' at hv ⊢
  cases hv with
  | agg _ cs' hcs =>
    have hu := (hE.ty _ _ h1).und
    rw [hk] at hu
    rw [nth_eq] at h4
    have h4' : fs[f]? = some fd := by simpa using h4
    have hT := hE.ty _ _ h6
    unfold partT at h7
    rw [bi_eq] at h7
    have hr : (Instr.field t (.agg cs') f).run P w = (part fd.type cs' fd.offset).run P w := by
      simp only [Instr.field, Sem.run_bind, run_underlying hu, Result.andThen_ok, h4', asAgg, Sem.run_pure]
    rw [hr]
    unfold part
    simp only [Sem.run_bind, hT.run_agg, Result.andThen_ok]
    by_cases hag : fi.ag = true
    · rw [if_pos hag] at h7
      obtain ⟨q, h8, h9⟩ := ob_eq h7
      cases h9
      obtain ⟨hlen, hq⟩ := cut_some _ _ _ _ h8
      rw [if_pos hag]
      simp only [Sem.run_bind, hT.run_size, Result.andThen_ok]
      refine ⟨_, .agg _ (cs'.extract fd.offset (fd.offset + fi.sz)) ?_, rfl⟩
      have hle : fi.sz = 0 ∨ fd.offset + fi.sz ≤ cs.toList.length := by
        rcases Nat.eq_zero_or_pos fi.sz with h0 | h0
        · exact .inl h0
        · exact .inr (cut_le h8 h0)
      have hl' := hcs.length
      refine VRs.of_get ?_ fun i u hu' => ?_
      · simp only [Array.toList_extract, List.extract_eq_take_drop, List.length_take, List.length_drop]
        have : (Array.mk q).toList.length = fi.sz := hlen
        simp only [Array.length_toList] at *
        omega
      · have hi : i < fi.sz := by
          rcases Nat.lt_or_ge i q.length with h' | h'
          · omega
          · rw [List.getElem?_eq_none h'] at hu'; cases hu'
        have e1 : q[i]? = some u := hu'
        rw [hq i hi] at e1
        obtain ⟨u', e2, e3⟩ := hcs.get _ _ e1
        refine ⟨u', ?_, e3⟩
        simp only [Array.toList_extract, List.extract_eq_take_drop, List.getElem?_take, List.getElem?_drop]
        rw [if_pos (by omega)]; exact e2
    · rw [if_neg hag] at h7
      rw [if_neg hag]
      rw [nth_eq] at h7
      obtain ⟨u', e2, e3⟩ := hcs.get _ _ h7
      have e2' : cs'[fd.offset]? = some u' := by simpa using e2
      exact ⟨u', e3, by rw [e2']; rfl⟩
theorem at1_sound {c : C} {a a' : Addr} {i len : Nat} {ei : TI} {r : Value} (h : at1 c a i len ei = some r) (ha : AR Φ a a') :
    i < len ∧ VR Φ r (.pointer (some (a'.add (i * ei.sz)))) := by
  obtain ⟨h1, h2⟩ := gd_eq h
  cases h2
  exact ⟨blt_nat.1 h1, AR.mk (ha.add _ none) rfl⟩
theorem qIndexAddr_sound {c : C} {t : TypeId} {x i : Operand} {r : Value} {ρ : Operand → Value} (hE : EOK P c.E) (h : qIndexAddr c t x i = some r)
    (hx : ∀ u, opnd c.tm x = some u → VR Φ u (ρ x)) (hi : ∀ u, opnd c.tm i = some u → VR Φ u (ρ i)) : ∃ r', VR Φ r r' ∧ (Instr.indexAt t (ρ x) (ρ i)).run P w = .ok r' w := by
  obtain ⟨ti, h1, h2⟩ := ob_eq h
  obtain ⟨v, h3, h4⟩ := ob_eq h2
  obtain ⟨iv, h5, h6⟩ := ob_eq h4
  obtain ⟨k, n, rfl, h7⟩ := vNat_eq h6
  have hv := hx _ h3
  have hiv := hi _ h5
  generalize ρ x = x' at hv ⊢
  generalize ρ i = i' at hiv ⊢
  cases hiv
  have hu := (hE.ty _ _ h1).und
  unfold index1 at h7
  split at h7
  · rename_i el hk
    rw [hk] at hu
    obtain ⟨ei, h8, h9⟩ := ob_eq h7
    obtain ⟨a, len, cp, rfl, h10⟩ := vSlice_eq h9
    obtain ⟨a, rfl, h11⟩ := ob_eq h10
    have hz := (hE.ty _ _ h8).run_size (P := P) w
    have key : ∀ a' c', AR Φ a a' → ∃ r', VR Φ r r' ∧ (Instr.indexAt t (.slice (some a') len c') (.int k n)).run P w = .ok r' w := by
      intro a' c' ha
      obtain ⟨h12, h13⟩ := at1_sound h11 ha
      refine ⟨_, h13, ?_⟩
      have hc : (0 : Int) ≤ (n : Int) ∧ (n : Int) < (len : Int) := by omega
      simp only [Instr.indexAt, asIntOf, Sem.run_bind, Sem.run_pure, run_underlying hu, Result.andThen_ok, if_pos hc, hz, Int.toNat_natCast]
    cases hv with
    | sl b o _ _ l hl => exact key _ _ ⟨l, hl, rfl⟩
    | slo b o _ _ c' z l hl _ _ => exact key _ _ ⟨l, hl, rfl⟩
    | sle b o c' a' => obtain ⟨h12, _⟩ := gd_eq h11; have := blt_nat.1 h12; omega
  · rename_i len el hk
    rw [hk] at hu
    obtain ⟨ei, h8, h9⟩ := ob_eq h7
    obtain ⟨a, rfl, h11⟩ := vPtr_eq h9
    have hz := (hE.ty _ _ h8).run_size (P := P) w
    obtain ⟨a', rfl, ha, hsp⟩ := hv.ptr_inv
    obtain ⟨h12, h13⟩ := at1_sound h11 ha
    refine ⟨_, h13, ?_⟩
    have hc : (0 : Int) ≤ (n : Int) ∧ (n : Int) < (len : Int) := by omega
    simp only [Instr.indexAt, asIntOf, Sem.run_bind, Sem.run_pure, run_underlying hu, Result.andThen_ok, Instr.sureAddr, if_pos hc, hz, Int.toNat_natCast]
  · cases h7
theorem isStr_eq {d : TypeDesc} (h : isStr d = true) : d = .string := by unfold isStr at h; split at h <;> first | rfl | cases h
theorem qIndex_sound {c : C} {t : TypeId} {x i : Operand} {r : Value} {ρ : Operand → Value} (hE : EOK P c.E) (h : qIndex c t x i = some r)
    (hx : ∀ u, opnd c.tm x = some u → VR Φ u (ρ x)) (hi : ∀ u, opnd c.tm i = some u → VR Φ u (ρ i)) : ∃ r', VR Φ r r' ∧ (Instr.index t (ρ x) (ρ i)).run P w = .ok r' w := by
  obtain ⟨ti, h1, h2⟩ := ob_eq h
  obtain ⟨hs, h2'⟩ := gd_eq h2
  obtain ⟨v, h3, h4⟩ := ob_eq h2'
  obtain ⟨iv, h5, h6⟩ := ob_eq h4
  obtain ⟨s, rfl, h7⟩ := vStr_eq h6
  obtain ⟨k, n, rfl, h8⟩ := vNat_eq h7
  obtain ⟨b, h9, h10⟩ := ob_eq h8
  cases h10
  have hv := hx _ h3
  have hiv := hi _ h5
  generalize ρ x = x' at hv ⊢
  generalize ρ i = i' at hiv ⊢
  cases hiv; cases hv
  have hu := (hE.ty _ _ h1).und
  rw [isStr_eq hs] at hu
  rw [nth_eq] at h9
  refine ⟨_, .int _ _, ?_⟩
  have h0 : (0 : Int) ≤ (n : Int) := by omega
  have hg : s[n]? = some b := by
    have : s.data[n]? = some b := by simpa using h9
    have hlt : n < s.size := by
      rcases Nat.lt_or_ge n s.size with h' | h'
      · exact h'
      · have e : s.data[n]? = none := Array.getElem?_eq_none h'
        rw [e] at this; cases this
    rw [getElem?_pos s n hlt]
    have e2 : s.data[n]? = some s.data[n] := Array.getElem?_eq_getElem hlt
    rw [e2] at this
    exact this
  simp only [Instr.index, asIntOf, Sem.run_bind, Sem.run_pure, run_underlying hu, Result.andThen_ok, if_pos h0, Int.toNat_natCast, hg]
  rfl
end
end Go.Ev

/-! Operations that only read: maps, lengths; and all of them. -/
namespace Go.Ev
open Go
set_option linter.unusedSimpArgs false
set_option linter.unusedVariables false
section
variable {P : Program} {E : Env} {Φ : Ren} {w : World}

/-! maps -/
theorem isKey_eq {d : TypeDesc} (h : isKey d = true) : (∃ k, d = .int k) ∨ d = .string ∨ ∃ el, d = .pointer el := by
  unfold isKey at h; split at h <;> first | exact .inl ⟨_, rfl⟩ | exact .inr (.inl rfl) | exact .inr (.inr ⟨_, rfl⟩) | cases h
/-- keys whose equality is read off the memory's addresses -/
def isPt (d : TypeDesc) : Prop := ∃ el, d = .pointer el
/-- keys that have one form -/
def Det (v : Value) : Prop := (∃ j n, v = .int j n) ∨ (∃ b, v = .string b) ∨ ∃ a, v = .pointer a
theorem Det.eq {v a b : Value} (h : Det v) (ha : VR Φ v a) (hb : VR Φ v b) : a = b := by
  rcases h with ⟨j, n, rfl⟩ | ⟨s, rfl⟩ | ⟨p, rfl⟩
  · cases ha; cases hb; rfl
  · cases ha; cases hb; rfl
  · cases ha with
    | nilp => cases hb; rfl
    | ptr b o l h1 =>
      cases hb with
      | ptr _ _ l' h2 => rw [h1] at h2; cases h2; rfl
theorem keyEqU_sound {kd : TypeDesc} {x y y' : Value} {b : Bool} (h : keyEqU kd x y = some b) (hy : VR Φ y y') {x' : Value} (hx : VR Φ x x') :
    x' = x ∧ y' = y ∧ Instr.sameNow kd x' y' = some b ∧ (b = true → x = y) := by
  unfold keyEqU at h
  split at h
  · obtain ⟨h1, h2⟩ := gd_eq h
    rw [kEq_eq] at h1; subst h1
    cases h2; cases hx; cases hy
    exact ⟨rfl, rfl, by simp [Instr.sameNow, iEq_eq], fun e => by rw [iEq_eq] at e; rw [beq_iff_eq.1 e]⟩
  · cases h; cases hx; cases hy
    rename_i a b
    refine ⟨rfl, rfl, ?_, fun e => ?_⟩
    · simp [Instr.sameNow, sEq_eq, beq_toListBytes, ByteArray.toList_eq]
    · rw [sEq_eq] at e
      have e1 := beq_iff_eq.1 e
      have : a = b := by
        apply ByteArray.ext; exact Array.toList_inj.1 e1
      rw [this]
  · cases h
theorem eqPtr_self {s : S} {a b : Addr} (h : eqPtr s a b = some true) : a.block = b.block ∧ a.off = b.off := by
  unfold eqPtr at h
  rw [bi_eq] at h
  by_cases e : Nat.beq a.block b.block = true
  · rw [if_pos e] at h
    exact ⟨Nat.eq_of_beq_eq_true e, Nat.eq_of_beq_eq_true (Option.some.inj h)⟩
  · rw [if_neg e] at h
    obtain ⟨_, h2⟩ := gd_eq h
    cases h2
theorem keyEq_sound {s : S} {kt : TypeId} {kd : TypeDesc} {x y y' : Value} {b : Bool} (hE : EOK P E) (hh : HRel Φ s.h w) (hu : P.underlying kt = some kd) (h : keyEq E s kd x y = some b) (hy : VR Φ y y') {x' : Value} (hx : VR Φ x x') :
    (¬ isPt kd → Instr.sameNow kd x' y' = some b) ∧ (isPt kd → Instr.sameNow kd x' y' = none ∧ (Op.equal kt x' y').run P w = .ok b w) ∧ (b = true → x = y) ∧ Det x := by
  unfold keyEq at h
  split at h
  · rename_i i k a k' a'
    have h' : keyEqU (.int i) (.int k a) (.int k' a') = some b := h
    obtain ⟨_, _, h3, h4⟩ := keyEqU_sound h' hy hx
    exact ⟨fun _ => h3, (fun ⟨el, e⟩ => by cases e), h4, .inl ⟨_, _, rfl⟩⟩
  · rename_i a a'
    have h' : keyEqU .string (.string a) (.string a') = some b := h
    obtain ⟨_, _, h3, h4⟩ := keyEqU_sound h' hy hx
    exact ⟨fun _ => h3, (fun ⟨el, e⟩ => by cases e), h4, .inr (.inl ⟨_, rfl⟩)⟩
  · rename_i el p q
    have h' : eqv E s (.pointer el) (.pointer p) (.pointer q) = some b := h
    refine ⟨fun e => absurd ⟨el, rfl⟩ e, fun _ => ⟨by cases hx <;> cases hy <;> rfl, eqv_sound hE hh hu h' hx hy⟩, fun hb => ?_, .inr (.inr ⟨_, rfl⟩)⟩
    subst hb
    cases p with
    | none =>
      cases q with
      | none => rfl
      | some q => cases (show some (Option.isNone (some q)) = some true from h)
    | some p =>
      cases q with
      | none => cases (show (some false : Option Bool) = some true from h)
      | some q =>
        obtain ⟨i, _, h2⟩ := ob_eq (show (ob (E.ty.get el) fun i => gd (Nat.blt 0 i.sz) (eqPtr s p q)) = some true from h)
        obtain ⟨_, h3⟩ := gd_eq h2
        obtain ⟨h4, h5⟩ := eqPtr_self h3
        cases hx; cases hy
        simp only at h4 h5
        subst h4 h5
        rfl
  · cases h
theorem findE_cons (E : Env) (s : S) (kd : TypeDesc) (k : Value) (e : MapEntry) (es : List MapEntry) (i : Nat) :
    findE E s kd k (e :: es) i = ob (keyEq E s kd k e.key) fun b => bi b (some (some (i, e.val))) (findE E s kd k es (i + 1)) := rfl
/-- what was found -/
def FR (Φ : Ren) (r r' : Option (Nat × Value)) : Prop := match r with
  | none => r' = none
  | some p => ∃ v', r' = some (p.1, v') ∧ VR Φ p.2 v'
theorem findE_sound {s : S} {kt : TypeId} {kd : TypeDesc} {k k' : Value} (hE : EOK P E) (hh : HRel Φ s.h w) (hu : P.underlying kt = some kd) (hk : VR Φ k k') : ∀ {es es' : List MapEntry} (i : Nat) {r : Option (Nat × Value)}, findE E s kd k es i = some r → ERs Φ es es' →
    ∃ r', (¬ isPt kd → Instr.findNow kd k' es' i = some r') ∧ (isPt kd → (Instr.findAsking kt k' es' i).run P w = .ok r' w ∧ (Instr.findNow kd k' es' i = some r' ∨ Instr.findNow kd k' es' i = none)) ∧ FR Φ r r' ∧
      (∀ p, r = some p → i ≤ p.1 ∧ p.1 - i < es.length ∧ ∃ e e', es[p.1 - i]? = some e ∧ es'[p.1 - i]? = some e' ∧ e'.key = k' ∧ e.key = k) := by
  intro es
  induction es with
  | nil => intro es' i r h he; cases h; cases he; exact ⟨none, fun _ => rfl, fun _ => ⟨rfl, .inl rfl⟩, rfl, fun p hp => by cases hp⟩
  | cons e es ih =>
    intro es' i r h he
    cases he with
    | cons _ e' _ l' hee hl =>
      rw [findE_cons] at h
      obtain ⟨b, h1, h2⟩ := ob_eq h
      obtain ⟨e1, e2, e4, e5⟩ := keyEq_sound hE hh hu h1 hee.1 hk
      rw [bi_eq] at h2
      by_cases hb : b = true
      · rw [if_pos hb] at h2
        cases h2
        subst hb
        refine ⟨some (i, e'.val), fun hn => by simp only [Instr.findNow, e1 hn], fun hp => ⟨?_, ?_⟩, ⟨_, rfl, hee.2.1⟩, fun p hp => ?_⟩
        · simp only [Instr.findAsking, Sem.run_bind, (e2 hp).2, Result.andThen_ok, if_true, Sem.run_pure]
        · exact .inr (by simp only [Instr.findNow, (e2 hp).1])
        cases hp
        refine ⟨Nat.le_refl _, by simp, e, e', by simp, by simp, ?_, (e4 rfl).symm⟩
        have h3 := hee.1
        rw [← e4 rfl] at h3
        exact e5.eq h3 hk
      · rw [if_neg hb] at h2
        have hbf : b = false := by cases b <;> simp_all
        subst hbf
        obtain ⟨r', h3, h3', h4, h5⟩ := ih (i + 1) h2 hl
        refine ⟨r', fun hn => by simp only [Instr.findNow, e1 hn]; exact h3 hn, fun hp => ⟨?_, ?_⟩, h4, fun p hp => ?_⟩
        · simp only [Instr.findAsking, Sem.run_bind, (e2 hp).2, Result.andThen_ok, Bool.false_eq_true, if_false]
          exact (h3' hp).1
        · exact .inr (by simp only [Instr.findNow, (e2 hp).1])
        obtain ⟨g1, g2, x, x', g3, g4, g5, g6⟩ := h5 p hp
        have : p.1 - i = (p.1 - (i + 1)) + 1 := by omega
        refine ⟨by omega, by simp; omega, x, x', ?_, ?_, g5, g6⟩
        · rw [this, List.getElem?_cons_succ]; exact g3
        · rw [this, List.getElem?_cons_succ]; exact g4
/-- where the order isn't known -/
theorem findU_cons (kd : TypeDesc) (k : Value) (e : MapEntry) (es : List MapEntry) :
    findU kd k (e :: es) = ob (keyEqU kd k e.key) fun b => ob (findU kd k es) fun r => bi b (gd r.isNone (some (some e.val))) (some r) := rfl
theorem findU_mem {kd : TypeDesc} {k : Value} : ∀ {es : List MapEntry} {r : Option Value}, findU kd k es = some r → ∀ e ∈ es, ∃ b, keyEqU kd k e.key = some b := by
  intro es
  induction es with
  | nil => intro r h e he; cases he
  | cons x es ih =>
    intro r h e he
    rw [findU_cons] at h
    obtain ⟨b, h1, h2⟩ := ob_eq h
    obtain ⟨q, h3, _⟩ := ob_eq h2
    rcases List.mem_cons.1 he with rfl | he
    · exact ⟨b, h1⟩
    · exact ih h3 e he
theorem findU_none {kd : TypeDesc} {k : Value} : ∀ {es : List MapEntry}, findU kd k es = some none → ∀ e ∈ es, keyEqU kd k e.key = some false := by
  intro es
  induction es with
  | nil => intro h e he; cases he
  | cons x es ih =>
    intro h e he
    rw [findU_cons] at h
    obtain ⟨b, h1, h2⟩ := ob_eq h
    obtain ⟨q, h3, h4⟩ := ob_eq h2
    rw [bi_eq] at h4
    by_cases hb : b = true
    · rw [if_pos hb] at h4
      obtain ⟨_, h5⟩ := gd_eq h4
      cases h5
    · rw [if_neg hb] at h4
      cases h4
      have hbf : b = false := by cases b <;> simp_all
      subst hbf
      rcases List.mem_cons.1 he with rfl | he
      · exact h1
      · exact ih h3 e he
theorem findU_some {kd : TypeDesc} {k v : Value} : ∀ {es : List MapEntry}, findU kd k es = some (some v) → ∃ a e b, es = a ++ e :: b ∧ keyEqU kd k e.key = some true ∧ e.val = v ∧ (∀ x ∈ a, keyEqU kd k x.key = some false) ∧ ∀ x ∈ b, keyEqU kd k x.key = some false := by
  intro es
  induction es with
  | nil => intro h; cases h
  | cons x es ih =>
    intro h
    rw [findU_cons] at h
    obtain ⟨b, h1, h2⟩ := ob_eq h
    obtain ⟨q, h3, h4⟩ := ob_eq h2
    rw [bi_eq] at h4
    by_cases hb : b = true
    · rw [if_pos hb] at h4
      obtain ⟨hq, h5⟩ := gd_eq h4
      have e := Option.some.inj (Option.some.inj h5)
      have : q = none := by cases q <;> simp_all
      subst this
      exact ⟨[], x, es, rfl, by rw [h1, hb], e, (fun y hy => by cases hy), findU_none h3⟩
    · rw [if_neg hb] at h4
      cases h4
      have hbf : b = false := by cases b <;> simp_all
      subst hbf
      obtain ⟨a, e, c, rfl, g1, g2, g3, g4⟩ := ih h3
      refine ⟨x :: a, e, c, rfl, g1, g2, fun y hy => ?_, g4⟩
      rcases List.mem_cons.1 hy with rfl | hy
      · exact h1
      · exact g3 y hy
theorem findNow_none {kd : TypeDesc} {k k' : Value} (hk : VR Φ k k') : ∀ {L es' : List MapEntry} (i : Nat), EUs Φ L es' → (∀ e ∈ L, keyEqU kd k e.key = some false) → Instr.findNow kd k' es' i = some none := by
  intro L
  induction L with
  | nil => intro es' i h _; cases h; rfl
  | cons e L ih =>
    intro es' i h hn
    cases h with
    | cons _ e' _ l' he hl =>
      obtain ⟨_, _, h3, _⟩ := keyEqU_sound (hn e (List.mem_cons_self ..)) he.1 hk
      simp only [Instr.findNow, h3]
      exact ih (i + 1) hl fun x hx => hn x (List.mem_cons_of_mem _ hx)
theorem findNow_perm {kd : TypeDesc} {k k' v : Value} (hk : VR Φ k k') : ∀ {L es' : List MapEntry} (i : Nat), EUs Φ L es' → (∃ e ∈ L, keyEqU kd k e.key = some true) → (∀ e ∈ L, keyEqU kd k e.key = some false ∨ e.val = v ∧ keyEqU kd k e.key = some true) →
    ∃ j v', Instr.findNow kd k' es' i = some (some (j, v')) ∧ VR Φ v v' := by
  intro L
  induction L with
  | nil => intro es' i h ⟨e, he, _⟩ _; cases he
  | cons e L ih =>
    intro es' i h hex hall
    cases h with
    | cons _ e' _ l' he hl =>
      rcases hall e (List.mem_cons_self ..) with h0 | ⟨hv, h0⟩
      · obtain ⟨_, _, h3, _⟩ := keyEqU_sound h0 he.1 hk
        simp only [Instr.findNow, h3]
        refine ih (i + 1) hl ?_ fun x hx => hall x (List.mem_cons_of_mem _ hx)
        obtain ⟨x, hx, hx'⟩ := hex
        rcases List.mem_cons.1 hx with rfl | hx
        · rw [h0] at hx'; cases hx'
        · exact ⟨x, hx, hx'⟩
      · obtain ⟨_, _, h3, _⟩ := keyEqU_sound h0 he.1 hk
        simp only [Instr.findNow, h3]
        exact ⟨_, _, rfl, hv ▸ he.2⟩
theorem findU_sound {kd : TypeDesc} {k k' : Value} {es L es' : List MapEntry} {r : Option Value} (hk : VR Φ k k') (h : findU kd k es = some r) (hp : L.Perm es) (he : EUs Φ L es') :
    (r = none ∧ Instr.findNow kd k' es' 0 = some none) ∨ ∃ v j v', r = some v ∧ Instr.findNow kd k' es' 0 = some (some (j, v')) ∧ VR Φ v v' := by
  cases r with
  | none => exact .inl ⟨rfl, findNow_none hk 0 he fun e hm => findU_none h e (hp.mem_iff.1 hm)⟩
  | some v =>
    obtain ⟨a, e, b, rfl, g1, g2, g3, g4⟩ := findU_some h
    obtain ⟨j, v', h1, h2⟩ := findNow_perm (v := v) hk 0 he ⟨e, hp.mem_iff.2 (by simp), g1⟩ fun x hx => by
      have := hp.mem_iff.1 hx
      rw [List.mem_append, List.mem_cons] at this
      rcases this with h | rfl | h
      · exact .inl (g3 x h)
      · exact .inr ⟨g2, g1⟩
      · exact .inl (g4 x h)
    exact .inr ⟨v, j, v', rfl, h1, h2⟩
theorem checkKey_in (b : Bool) {kt : TypeId} {kd : TypeDesc} (hu : P.underlying kt = some kd) (hk : isKey kd = true) (k : Value) (d : Nat) : (Instr.checkKey b (d + 1) kt k).run P w = .ok () w := by
  rcases isKey_eq hk with ⟨i, rfl⟩ | rfl | ⟨el, rfl⟩
  · simp only [Instr.checkKey, Sem.run_bind, run_underlying hu, Result.andThen_ok]; rfl
  · simp only [Instr.checkKey, Sem.run_bind, run_underlying hu, Result.andThen_ok]; rfl
  · simp only [Instr.checkKey, Sem.run_bind, run_underlying hu, Result.andThen_ok]; rfl
theorem checkKey_ok (b : Bool) {kt : TypeId} {kd : TypeDesc} (hu : P.underlying kt = some kd) (hk : isKey kd = true) (k : Value) : (Instr.checkKey b 10000 kt k).run P w = .ok () w :=
  checkKey_in b hu hk k 9999
theorem run_findKey {kt : TypeId} {kd : TypeDesc} (hu : P.underlying kt = some kd) {k : Value} {es : List MapEntry} {r : Option (Nat × Value)} (h : Instr.findNow kd k es 0 = some r) :
    (Instr.findKey kt k es).run P w = .ok r w := by
  simp only [Instr.findKey, Sem.run_bind, run_underlying hu, Result.andThen_ok, h]; rfl
theorem run_findKey' {kt : TypeId} {kd : TypeDesc} (hu : P.underlying kt = some kd) {k : Value} {es : List MapEntry} {r : Option (Nat × Value)} (h1 : ¬ isPt kd → Instr.findNow kd k es 0 = some r)
    (h2 : isPt kd → (Instr.findAsking kt k es 0).run P w = .ok r w ∧ (Instr.findNow kd k es 0 = some r ∨ Instr.findNow kd k es 0 = none)) : (Instr.findKey kt k es).run P w = .ok r w := by
  by_cases hp : isPt kd
  · obtain ⟨h3, h4⟩ := h2 hp
    rcases h4 with h4 | h4
    · exact run_findKey hu h4
    · simp only [Instr.findKey, Sem.run_bind, run_underlying hu, Result.andThen_ok, h4]; exact h3
  · exact run_findKey hu (h1 hp)
theorem zeroV_sound {t : TypeId} {ti : TI} {v : Value} (hT : TIok P t ti) (h : zeroV ti = some v) : ∃ z, (∀ w, (zeroValue t).run P w = .ok z w) ∧ VR Φ v z := by
  obtain ⟨z, hz, hzc, h1, h2⟩ := hT.run_zero
  refine ⟨z, hz, ?_⟩
  unfold zeroV at h
  rw [bi_eq] at h
  by_cases hag : ti.ag = true
  · rw [if_pos hag] at h
    cases h
    rw [h1 hag]
    exact .agg _ _ (VRs.plain hT.pl)
  · rw [if_neg hag] at h
    have e := h2 (by simpa using hag)
    rw [e] at h
    have h' : some z = some v := h
    cases h'
    have hp := hT.pl
    rw [e, plainL_cons, Bool.and_eq_true] at hp
    exact VR.plain hp.1
theorem withOk_sound {v v' : Value} (ok b : Bool) (h : VR Φ v v') : VR Φ (withOk ok v b) (if ok then .tuple #[v', .bool b] else v') := by
  cases ok with
  | false => exact h
  | true => exact .tup _ _ (.cons _ _ _ _ h (.cons _ _ _ _ (.bool b) .nil))
theorem map_row {s : S} {r : Nat} {es : List MapEntry} {clock : Nat} {l : Loc} (hh : HRel Φ s.h w) (hg : s.h.get r = some (.map es clock)) (hl : Φ r = some l) :
    ∃ es', w.heap[l.b]? = some (.map es' clock) ∧ ERs Φ es es'.toList := by
  obtain ⟨l', h1, h2⟩ := hh.live r _ hg
  rw [hl] at h1; cases h1; exact h2
theorem run_getMap {r : Nat} {es : Array MapEntry} {clock : Nat} (h : w.heap[r]? = some (.map es clock)) : (getObj r).run P w = .ok (.map es clock) w := by
  simp only [getObj, Sem.run, h]
theorem qLookup_sound {c : C} {t : TypeId} {m k : Operand} {ok : Bool} {r : Value} {ρ : Operand → Value} (hE : EOK P c.E) (hh : HRel Φ c.s.h w) (h : qLookup c t m k ok = some r)
    (hm : ∀ u, opnd c.tm m = some u → VR Φ u (ρ m)) (hk : ∀ u, opnd c.tm k = some u → VR Φ u (ρ k)) : ∃ r', VR Φ r r' ∧ (Instr.lookup t (ρ m) (ρ k) ok).run P w = .ok r' w := by
  obtain ⟨mv, h1, h2⟩ := ob_eq h
  obtain ⟨kv, h3, h4⟩ := ob_eq h2
  obtain ⟨ti, h5, h6⟩ := ob_eq h4
  obtain ⟨kt, et, hkd, h7⟩ := kMap_eq h6
  obtain ⟨ki, h8, h9⟩ := ob_eq h7
  obtain ⟨ei, h10, h11⟩ := ob_eq h9
  obtain ⟨h12, h13⟩ := gd_eq h11
  obtain ⟨z, h14, h15⟩ := ob_eq h13
  obtain ⟨mr, rfl, h16⟩ := vMap_eq h15
  obtain ⟨f, h17, h18⟩ := ob_eq h16
  have hmv := hm _ h1
  have hkv := hk _ h3
  generalize ρ m = m' at hmv ⊢
  generalize ρ k = k' at hkv ⊢
  have hu := (hE.ty _ _ h5).und
  rw [hkd] at hu
  have huk := (hE.ty _ _ h8).und
  obtain ⟨zz, hz, hzr⟩ := zeroV_sound (Φ := Φ) (hE.ty _ _ h10) h14
  unfold Instr.lookup
  simp only [Sem.run_bind, run_underlying hu, Result.andThen_ok]
  cases mr with
  | none =>
    cases hmv
    cases h17
    cases h18
    simp only [Sem.run_bind, Sem.run_pure, Result.andThen_ok, checkKey_ok (P := P) (w := w) _ huk h12]
    have hf : (Instr.findKey kt k' (#[] : Array MapEntry).toList).run P w = .ok none w := run_findKey (P := P) (w := w) huk rfl
    simp only [hf, Result.andThen_ok, Sem.run_bind, hz, Sem.run_pure]
    exact ⟨_, withOk_sound ok false hzr, rfl⟩
  | some mr =>
    cases hmv with
    | map _ l hl =>
      obtain ⟨o, g1, g2⟩ := ob_eq (show (ob (c.s.h.get mr) (lookupB c.E c.s ki.kd kv)) = some f from h17)
      have fin : ∀ (r' : Option (Nat × Value)) (es' : Array MapEntry), (Instr.findKey kt k' es'.toList).run P w = .ok r' w → (∃ clock, w.heap[l.b]? = some (.map es' clock)) →
          (f = none ∧ r' = none ∨ ∃ v j v', f = some v ∧ r' = some (j, v') ∧ VR Φ v v') → ∃ r', VR Φ r r' ∧ ((do
            let es ← match (Value.map (some l.b)) with
              | .map none => pure #[]
              | .map (some r) => do
                let .map es _ ← getObj r | stuck "Lookup: map expected"
                pure es
              | _ => stuck "Lookup: map expected"
            Instr.checkKey es.isEmpty 10000 kt k'
            let (v, ok') ← match ← Instr.findKey kt k' es.toList with
              | some (_, v) => pure (v, true)
              | none => pure (← zeroValue et, false)
            pure (if ok then .tuple #[v, .bool ok'] else v) : Sem Value).run P w = .ok r' w) := by
        intro r' es' q1 ⟨clock, q2⟩ q3
        simp only [Sem.run_bind, run_getMap (P := P) q2, Sem.run_pure, Result.andThen_ok, checkKey_ok (P := P) (w := w) _ huk h12, q1]
        rcases q3 with ⟨rfl, rfl⟩ | ⟨v, j, v', rfl, rfl, q4⟩
        · cases h18
          simp only [Sem.run_bind, hz, Result.andThen_ok, Sem.run_pure]
          exact ⟨_, withOk_sound ok false hzr, rfl⟩
        · cases h18
          simp only [Sem.run_bind, Sem.run_pure, Result.andThen_ok]
          exact ⟨_, withOk_sound ok true q4, rfl⟩
      cases o with
      | map es clock =>
        obtain ⟨es', g4, g5⟩ := map_row hh g1 hl
        obtain ⟨p, g3, g3'⟩ := ob_eq (show (ob (findE c.E c.s ki.kd kv es 0) fun f => some (Option.rec (motive := fun _ => Option Value) none (fun p => some p.2) f)) = some f from g2)
        obtain ⟨f', g6, g6', g7, _⟩ := findE_sound hE hh huk hkv 0 g3 g5
        refine fin f' es' (run_findKey' (P := P) (w := w) huk g6 g6') ⟨_, g4⟩ ?_
        cases p with
        | none => cases g3'; exact .inl ⟨rfl, g7⟩
        | some p => cases g3'; obtain ⟨v', q1, q2⟩ := g7; exact .inr ⟨_, _, _, rfl, q1, q2⟩
      | mapu es =>
        obtain ⟨l', q1, q2⟩ := hh.live mr _ g1
        rw [hl] at q1; cases q1
        obtain ⟨es', clock, L, q3, q4, q5⟩ := q2
        rcases findU_sound hkv (show findU ki.kd kv es = some f from g2) q4 q5 with ⟨rfl, q6⟩ | ⟨v, j, v', rfl, q6, q7⟩
        · exact fin none es' (run_findKey (P := P) (w := w) huk q6) ⟨_, q3⟩ (.inl ⟨rfl, rfl⟩)
        · exact fin _ es' (run_findKey (P := P) (w := w) huk q6) ⟨_, q3⟩ (.inr ⟨v, j, v', rfl, rfl, q7⟩)
      | cells k => cases g2
      | mit m since => cases g2
      | sit x pos => cases g2

/-! lengths and the like -/
theorem qExtract_sound {c : C} {x : Operand} {i : Nat} {r : Value} {ρ : Operand → Value} (h : qExtract c x i = some r) (hx : ∀ u, opnd c.tm x = some u → VR Φ u (ρ x)) :
    ∃ r', VR Φ r r' ∧ (Instr.extract (ρ x) i).run P w = .ok r' w := by
  obtain ⟨v, h1, h2⟩ := ob_eq h
  obtain ⟨vs, rfl, h3⟩ := vTup_eq h2
  have hv := hx _ h1
  generalize ρ x = x' at hv ⊢
  cases hv with
  | tup _ vs' hvs =>
    rw [nth_eq] at h3
    obtain ⟨u', e1, e2⟩ := hvs.get _ _ h3
    have e1' : vs'[i]? = some u' := by simpa using e1
    exact ⟨u', e2, by simp only [Instr.extract, e1']; rfl⟩
theorem ERs.length : ∀ {l l' : List MapEntry}, ERs Φ l l' → l'.length = l.length
  | _, _, .nil => rfl
  | _, _, .cons _ _ _ _ _ hl => by simp [ERs.length hl]
theorem len1_sound {c : C} {t : TypeId} {ti : TI} {v v' r : Value} (ty : TypeId) (hE : EOK P c.E) (hh : HRel Φ c.s.h w) (ht : c.E.ty.get t = some ti) (h : len1 c ti.kd v = some r) (hv : VR Φ v v') :
    ∃ r', VR Φ r r' ∧ (Builtin.len_ #[t] ty #[v']).run P w = .ok r' w := by
  have hu := (hE.ty _ _ ht).und
  unfold len1 at h
  have hr : ∀ n, VR Φ (intV n) (goInt n) := fun n => .int _ _
  split at h
  · rename_i hk
    rw [hk] at hu
    rcases orE_eq h with h | h
    · obtain ⟨s, p, rfl, h1⟩ := lenV_eq h hv
      cases h1
      exact ⟨_, hr _, by simp [Builtin.len_, run_underlying hu]⟩
    · obtain ⟨s, rfl, h1⟩ := lenN_eq h hv
      refine ⟨_, h1, ?_⟩
      have e : s.data.toList.length = s.size := rfl
      rw [e]
      simp [Builtin.len_, run_underlying hu]; rfl
  · rename_i el hk
    rw [hk] at hu
    obtain ⟨a, n, cp, rfl, h1⟩ := vSlice_eq h
    cases h1
    cases hv <;> exact ⟨_, hr _, by simp [Builtin.len_, run_underlying hu]⟩
  · rename_i k e hk
    rw [hk] at hu
    obtain ⟨mr, rfl, h1⟩ := vMap_eq h
    cases mr with
    | none => cases h1; cases hv; exact ⟨_, hr 0, by simp [Builtin.len_, run_underlying hu]⟩
    | some mr =>
      have h1' : (ob (c.s.h.get mr) fun o => bMap o fun es _ => some (intV es.length)) = some r := h1
      obtain ⟨o, g1, g2⟩ := ob_eq h1'
      obtain ⟨es, clock, rfl, g3⟩ := bMap_eq g2
      cases g3
      cases hv with
      | map _ l hl =>
        obtain ⟨es', g4, g5⟩ := map_row hh g1 hl
        refine ⟨_, hr _, ?_⟩
        have hlen : es'.size = es.length := g5.length
        simp [Builtin.len_, run_underlying hu, run_getMap (P := P) g4, hlen]
  · cases h
theorem cap1_sound {t : TypeId} {ti : TI} {v v' r : Value} (ty : TypeId) (hE : EOK P E) (ht : E.ty.get t = some ti) (h : cap1 ti.kd v = some r) (hv : VR Φ v v') :
    ∃ r', VR Φ r r' ∧ (Builtin.cap_ #[t] ty #[v']).run P w = .ok r' w := by
  have hu := (hE.ty _ _ ht).und
  obtain ⟨el, hk, h1⟩ := kSlice_eq h
  rw [hk] at hu
  obtain ⟨a, n, cp, rfl, h2⟩ := vSlice_eq h1
  have hr : ∀ n, VR Φ (intV n) (goInt n) := fun n => .int _ _
  cases hv with
  | nils => cases h2; exact ⟨_, hr _, by simp [Builtin.cap_, run_underlying hu]⟩
  | sl => cases h2; exact ⟨_, hr _, by simp [Builtin.cap_, run_underlying hu]⟩
  | slo => cases h2
  | sle => cases h2
theorem min2_sound {a b a' b' r : Value} (ts : Array TypeId) (t : TypeId) (h : min2 a b = some r) (ha : VR Φ a a') (hb : VR Φ b b') : ∃ r', VR Φ r r' ∧ (Builtin.min_ ts t #[a', b']).run P w = .ok r' w := by
  rcases orE_eq h with h | h
  · obtain ⟨k, x, rfl, h1⟩ := vInt_eq h
    obtain ⟨k', y, rfl, h2⟩ := vInt_eq h1
    cases h2; cases ha; cases hb
    refine ⟨_, .int _ _, ?_⟩
    rw [bi_eq, iLt_eq]
    simp [Builtin.min_, Builtin.min2]
  · unfold syMin at h
    split at h
    · rename_i x i c _
      obtain ⟨h1, h2⟩ := gd_eq h
      cases h2
      rw [band_eq, Bool.and_eq_true, beq_nat, bnot_eq, Bool.not_eq_true', iLt_eq, decide_eq_false_iff_not] at h1
      obtain ⟨rfl, h3⟩ := h1
      cases ha
      obtain ⟨lz, lF, lL, l, q1, q2, q3, q4, rfl, g2, g3, g4⟩ := hb.sy_inv.ten
      refine ⟨_, .int _ _, ?_⟩
      have hm : fN (nKind c) (nLo c) ≤ fN (nKind c) l.size := fN_mono g2
      have h4 : ¬ ((fN (nKind c) l.size : Int) < x) := by
        have h3' : ¬ ((fN (nKind c) (nLo c) : Int) < x) := h3
        omega
      simp [Builtin.min_, Builtin.min2, h4]
    · cases h
theorem max2_sound {a b a' b' r : Value} (ts : Array TypeId) (t : TypeId) (h : max2 a b = some r) (ha : VR Φ a a') (hb : VR Φ b b') : ∃ r', VR Φ r r' ∧ (Builtin.max_ ts t #[a', b']).run P w = .ok r' w := by
  rcases orE_eq h with h | h
  · obtain ⟨k, x, rfl, h1⟩ := vInt_eq h
    obtain ⟨k', y, rfl, h2⟩ := vInt_eq h1
    cases h2; cases ha; cases hb
    refine ⟨_, .int _ _, ?_⟩
    rw [bi_eq, iLt_eq]
    simp [Builtin.max_, Builtin.max2]
  · obtain ⟨t1, x, h1, k1⟩ := numV_eq h ha
    obtain ⟨t2, y, h2, k2⟩ := numV_eq h1 hb
    obtain ⟨o, h3, h4⟩ := ob_eq h2
    obtain ⟨n, m, rfl, rfl, h5⟩ := syCmp_eq h3 k1 k2
    cases h4
    have hmax : (Builtin.max_ ts t #[Value.int .i64 n, .int .i64 m]).run P w = .ok (.int .i64 (if n < m then m else n)) w := by
      simp [Builtin.max_, Builtin.max2]
    refine ⟨_, ?_, hmax⟩
    rw [bi_eq]
    simp only [bor_eq, Bool.or_eq_true, beq_nat]
    unfold OrdR at h5
    by_cases hlt : n < m
    · rw [if_pos hlt]
      by_cases ho : o = 0 ∨ o = 3
      · rw [if_pos ho]; exact hb
      · omega
    · rw [if_neg hlt]
      by_cases ho : o = 0 ∨ o = 3
      · rw [if_pos ho]
        have : n = m := by omega
        rw [this]; exact hb
      · rw [if_neg ho]; exact ha
theorem two_map {ρ : Operand → Value} {args : Array Operand} {a b : Value} (h : VRs Φ [a, b] (args.toList.map ρ)) : ∃ a' b', args.map ρ = #[a', b'] ∧ VR Φ a a' ∧ VR Φ b b' := by
  obtain ⟨a', l1, e1, ha, h1⟩ := h.cons_inv
  obtain ⟨b', l2, e2, hb, h2⟩ := h1.cons_inv
  have e3 := h2.nil_inv
  subst e3 e2
  exact ⟨a', b', by apply Array.toList_inj.1; simpa using e1, ha, hb⟩
theorem one_map {ρ : Operand → Value} {args : Array Operand} {a : Value} (h : VRs Φ [a] (args.toList.map ρ)) : ∃ a', args.map ρ = #[a'] ∧ VR Φ a a' := by
  obtain ⟨a', l1, e1, ha, h1⟩ := h.cons_inv
  have e3 := h1.nil_inv
  subst e3
  exact ⟨a', by apply Array.toList_inj.1; simpa using e1, ha⟩
theorem arr1 {α : Type} {a : Array α} {x : α} (h : a.toList = [x]) : a = #[x] := Array.toList_inj.1 h
theorem arr2 {α : Type} {a : Array α} {x y : α} (h : a.toList = [x, y]) : a = #[x, y] := Array.toList_inj.1 h
/-- the value that a quiet operation comes to -/
theorem q_sound {r : Rec} {tm : Tr Value} {s : S} {o : Oper} {v : Value} {ρ : Operand → Value} (hE : EOK P E) (h : ev o.op ⟨E, r, tm, s⟩ = .q (some v)) (hh : HRel Φ s.h w)
    (hρ : OpsR Φ tm ρ o.op) : ∃ v', VR Φ v v' ∧ (execOp ρ o).run P w = .ok (.value v') w := by
  obtain ⟨dst, op, type, pos, after, guard⟩ := o
  simp only at h hρ
  have fin : ∀ (x : Sem Value) (v' : Value), x.run P w = .ok v' w → (do pure (Next.value (← x)) : Sem Next).run P w = .ok (.value v') w := by
    intro x v' hx; simp only [Sem.run_bind, hx, Result.andThen_ok, Sem.run_pure]
  cases op with
  | move x => injection h with h; exact ⟨_, hρ x (by simp [Op.operands]) v h, rfl⟩
  | assign x => injection h with h; exact ⟨_, hρ x (by simp [Op.operands]) v h, rfl⟩
  | pick x a b =>
    injection h with h
    obtain ⟨u, h1, h2⟩ := ob_eq h
    obtain ⟨t, rfl, h3⟩ := vBool_eq h2
    have hx := hρ x (by simp [Op.operands]) _ h1
    have hx' : ρ x = .bool t := by generalize ρ x = y at hx; cases hx; rfl
    rw [bi_eq] at h3
    have hr : (execOp ρ ⟨dst, .pick x a b, type, pos, after, guard⟩).run P w = .ok (.value (if t then ρ a else ρ b)) w := by
      simp only [execOp, hx', asBool, Sem.run_bind, Sem.run_pure, Result.andThen_ok]
    rw [hr]
    by_cases ht : t = true
    · rw [if_pos ht] at h3 ⊢; exact ⟨_, hρ a (by simp [Op.operands]) _ h3, rfl⟩
    · rw [if_neg ht] at h3 ⊢; exact ⟨_, hρ b (by simp [Op.operands]) _ h3, rfl⟩
  | build t ps =>
    injection h with h
    obtain ⟨ti, h1, h2⟩ := ob_eq h
    obtain ⟨pv, h3, h4⟩ := ob_eq h2
    have hp := parts_sound (Φ := Φ) (ρ := ρ) (fun x hx => hρ x (by simpa [Op.operands] using hx)) h3
    obtain ⟨v', h5, h6⟩ := build1_sound (P := P) (w := w) hE h1 h4 hp
    refine ⟨v', h5, fin _ _ ?_⟩
    have : (ps.map fun (i, x) => (i, ρ x)) = ⟨ps.toList.map fun p => (p.1, ρ p.2)⟩ := by apply Array.toList_inj.1; simp
    rw [this]; exact h6
  | load t a =>
    injection h with h
    obtain ⟨u, h1, h2⟩ := ob_eq h
    obtain ⟨ad, rfl, h3⟩ := vPtr_eq h2
    obtain ⟨ad', e1, e2, e3⟩ := (hρ a (by simp [Op.operands]) _ h1).ptr_inv
    obtain ⟨v', h4, h5⟩ := loadV_sound hE hh h3 e2
    exact ⟨v', h4, fin _ _ (by simp only [e1, Instr.loadAt, Instr.sureAddr, Sem.run_bind, Sem.run_pure, Result.andThen_ok, h5])⟩
  | nilCheck x =>
    injection h with h
    obtain ⟨u, h1, h2⟩ := ob_eq h
    obtain ⟨h3, h4⟩ := gd_eq h2
    cases h4
    have hx := hρ x (by simp [Op.operands]) _ h1
    refine ⟨_, hx, ?_⟩
    simp only [execOp]
    unfold nilOk at h3
    split at h3
    · obtain ⟨a', e1, _⟩ := hx.ptr_inv; rw [e1]; rfl
    · generalize ρ x = y at hx; cases hx; rfl
    · cases h3
  | binOp op t x y yt =>
    injection h with h
    obtain ⟨v', h1, h2⟩ := qBin_sound (P := P) (w := w) hE hh h (hρ x (by simp [Op.operands])) (hρ y (by simp [Op.operands]))
    exact ⟨v', h1, fin _ _ h2⟩
  | unOp op t x =>
    injection h with h
    obtain ⟨v', h1, h2⟩ := qUn_sound (P := P) (w := w) h (hρ x (by simp [Op.operands]))
    exact ⟨v', h1, fin _ _ h2⟩
  | convert src dst' x =>
    have h' : rConv src dst' x ⟨E, r, tm, s⟩ = .q (some v) := h
    unfold rConv at h'
    split at h'
    · rename_i si di e1 e2
      unfold conv at h'
      split at h'
      · cases h'
      · injection h' with h'
        obtain ⟨u, h1, h2⟩ := ob_eq h'
        obtain ⟨v', h3, h4⟩ := qConv_sound (P := P) (w := w) hE hh (hE.ty _ _ e1).und (hE.ty _ _ e2).und h2 (hρ x (by simp [Op.operands]) _ h1)
        exact ⟨v', h3, fin _ _ h4⟩
    · cases h'
  | makeFunc fn p q =>
    injection h with h
    obtain ⟨ps, h1, h2⟩ := ob_eq h
    obtain ⟨qs, h3, h4⟩ := ob_eq h2
    cases h4
    have hp := opnds_sound (Φ := Φ) (ρ := ρ) (fun x hx => hρ x (by simp [Op.operands]; exact .inl (by simpa using hx))) h1
    have hq := opnds_sound (Φ := Φ) (ρ := ρ) (fun x hx => hρ x (by simp [Op.operands]; exact .inr (by simpa using hx))) h3
    exact ⟨_, .func fn _ (p.map ρ) _ (q.map ρ) (by simpa using hp) (by simpa using hq), rfl⟩
  | slice t x lo hi mx =>
    injection h with h
    obtain ⟨v', h1, h2⟩ := qSlice_sound (P := P) (w := w) hE h hρ
    exact ⟨v', h1, fin _ _ h2⟩
  | fieldAddr t x f =>
    injection h with h
    obtain ⟨v', h1, h2⟩ := qFieldAddr_sound (P := P) (w := w) hE h (hρ x (by simp [Op.operands]))
    exact ⟨v', h1, fin _ _ h2⟩
  | field t x f =>
    injection h with h
    obtain ⟨v', h1, h2⟩ := qField_sound (P := P) (w := w) hE h (hρ x (by simp [Op.operands]))
    exact ⟨v', h1, fin _ _ h2⟩
  | indexAddr t x i =>
    injection h with h
    obtain ⟨v', h1, h2⟩ := qIndexAddr_sound (P := P) (w := w) hE h (hρ x (by simp [Op.operands])) (hρ i (by simp [Op.operands]))
    exact ⟨v', h1, fin _ _ h2⟩
  | index t x i =>
    injection h with h
    obtain ⟨v', h1, h2⟩ := qIndex_sound (P := P) (w := w) hE h (hρ x (by simp [Op.operands])) (hρ i (by simp [Op.operands]))
    exact ⟨v', h1, fin _ _ h2⟩
  | makeInterface t x =>
    injection h with h
    obtain ⟨ti, h1, h2⟩ := ob_eq (show qIfc ⟨E, r, tm, s⟩ t x = some v from h)
    obtain ⟨h3, h4⟩ := gd_eq h2
    obtain ⟨u, h5, h6⟩ := ob_eq h4
    cases h6
    refine ⟨_, .ifc t u _ (hρ x (by simp [Op.operands]) _ h5), fin _ _ ?_⟩
    have hu := (hE.ty _ _ h1).und
    rw [bnot_eq, Bool.not_eq_true'] at h3
    unfold Instr.makeInterface
    simp only [Sem.run_bind, run_underlying hu, Result.andThen_ok]
    unfold isIfc at h3
    cases hk : ti.kd <;> rw [hk] at h3 <;> first | rfl | (cases h3)
  | lookup t m k ok =>
    injection h with h
    obtain ⟨v', h1, h2⟩ := qLookup_sound (P := P) (w := w) hE hh h (hρ m (by simp [Op.operands])) (hρ k (by simp [Op.operands]))
    exact ⟨v', h1, fin _ _ h2⟩
  | extract x i =>
    injection h with h
    obtain ⟨v', h1, h2⟩ := qExtract_sound (P := P) (w := w) h (hρ x (by simp [Op.operands]))
    exact ⟨v', h1, fin _ _ h2⟩
  | call k =>
    obtain ⟨callee, args, ts⟩ := k
    cases callee with
    | value f => cases h
    | invoke f m => cases h
    | builtin b =>
      have hargs : ∀ vs, opnds tm args.toList = some vs → VRs Φ vs (args.toList.map ρ) := fun vs hvs =>
        opnds_sound (Φ := Φ) (ρ := ρ) (fun x hx => hρ x (by simp [Op.operands, Call.operands]; simpa using hx)) hvs
      have hex : (execOp ρ ⟨dst, .call ⟨.builtin b, args, ts⟩, type, pos, after, guard⟩).run P w = (builtin b ts type (args.map fun | .const _ => true | _ => false) (args.map ρ)).run P w := rfl
      rw [hex]
      cases b with
      | len =>
        injection h with h
        obtain ⟨vs, h1, h2⟩ := ob_eq h
        obtain ⟨u, rfl, h3⟩ := one_eq h2
        obtain ⟨t, h4, h5⟩ := one_eq h3
        obtain ⟨ti, h6, h7⟩ := ob_eq h5
        obtain ⟨u', e1, e2⟩ := one_map (hargs _ h1)
        have e4 : ts = #[t] := arr1 h4
        subst e4
        rw [e1]
        obtain ⟨v', h8, h9⟩ := len1_sound (P := P) (w := w) type hE hh h6 h7 e2
        exact ⟨v', h8, fin _ _ h9⟩
      | cap =>
        injection h with h
        obtain ⟨vs, h1, h2⟩ := ob_eq h
        obtain ⟨u, rfl, h3⟩ := one_eq h2
        obtain ⟨t, h4, h5⟩ := one_eq h3
        obtain ⟨ti, h6, h7⟩ := ob_eq h5
        obtain ⟨u', e1, e2⟩ := one_map (hargs _ h1)
        have e4 : ts = #[t] := arr1 h4
        subst e4
        rw [e1]
        obtain ⟨v', h8, h9⟩ := cap1_sound (P := P) (w := w) type hE h6 h7 e2
        exact ⟨v', h8, fin _ _ h9⟩
      | min =>
        injection h with h
        obtain ⟨vs, h1, h2⟩ := ob_eq h
        obtain ⟨a, b, rfl, h3⟩ := two_eq h2
        obtain ⟨a', b', e1, e2, e3⟩ := two_map (hargs _ h1)
        rw [e1]
        obtain ⟨v', h8, h9⟩ := min2_sound (P := P) (w := w) ts type h3 e2 e3
        exact ⟨v', h8, fin _ _ h9⟩
      | max =>
        injection h with h
        obtain ⟨vs, h1, h2⟩ := ob_eq h
        obtain ⟨a, b, rfl, h3⟩ := two_eq h2
        obtain ⟨a', b', e1, e2, e3⟩ := two_map (hargs _ h1)
        rw [e1]
        obtain ⟨v', h8, h9⟩ := max2_sound (P := P) (w := w) ts type h3 e2 e3
        exact ⟨v', h8, fin _ _ h9⟩
      | _ => cases h
  | defer k =>
    have h' : rDefer k ⟨E, r, tm, s⟩ = .q (some v) := h
    unfold rDefer at h'
    split at h' <;> cases h'
  | _ => cases h
end
end Go.Ev

/-! Operations that make one object and do nothing else. -/
namespace Go.Ev
open Go
set_option linter.unusedSimpArgs false
set_option linter.unusedVariables false

/-- one object more, and draws -/
def pushW (w : World) (o : Obj) (d : Nat) : World := { w with heap := w.heap.push o, drawn := d }
theorem pushW_same (w : World) (o : Obj) (d : Nat) : (pushW w o d).heap[w.heap.size]? = some o := by
  show (w.heap.push o)[w.heap.size]? = _
  rw [Array.getElem?_push, if_pos rfl]
theorem pushW_other {w : World} {o : Obj} {d γ : Nat} (h : γ < w.heap.size) : (pushW w o d).heap[γ]? = w.heap[γ]? := by
  show (w.heap.push o)[γ]? = _
  rw [Array.getElem?_push, if_neg (by omega)]
theorem pushW_size (w : World) (o : Obj) (d : Nat) : (pushW w o d).heap.size = w.heap.size + 1 := by simp [pushW]

section
variable {P : Program} {E : Env} {Φ : Ren} {w : World}

theorem reps_zero (z : List Value) : reps z 0 = [] := rfl
theorem reps_succ (z : List Value) (n : Nat) : reps z (n + 1) = z ++ reps z n := rfl
theorem reps_spec (z : List Value) : ∀ n, (reps z n).length = n * z.length ∧ ∀ i, i < n * z.length → (reps z n)[i]? = z[i % z.length]? := by
  intro n
  induction n with
  | zero => simp [reps_zero]
  | succ n ih =>
    obtain ⟨h1, h2⟩ := ih
    rw [reps_succ]
    refine ⟨by rw [List.length_append, h1, Nat.succ_mul]; omega, fun i hi => ?_⟩
    rw [Nat.succ_mul] at hi
    rw [List.getElem?_append]
    by_cases e : i < z.length
    · rw [if_pos e, Nat.mod_eq_of_lt e]
    · rw [if_neg e, h2 _ (by omega)]
      congr 1
      rw [Nat.mod_eq_sub_mod (Nat.le_of_not_lt e)]
theorem zeros_eq (z : Array Value) (n : Nat) : ((Array.range (n * z.size)).map fun i => z[i % z.size]!).toList = reps z.toList n := by
  obtain ⟨h1, h2⟩ := reps_spec z.toList n
  apply List.ext_getElem?
  intro i
  by_cases hi : i < n * z.size
  · rw [h2 i (by simpa using hi)]
    have hz : 0 < z.size := by
      rcases Nat.eq_zero_or_pos z.size with h0 | h0
      · rw [h0] at hi; omega
      · exact h0
    have hm : i % z.size < z.size := Nat.mod_lt _ hz
    simp [hi, hm]
  · rw [List.getElem?_eq_none (by simp; omega), List.getElem?_eq_none (by rw [h1]; simpa using Nat.le_of_not_lt hi)]
theorem plainL_append : ∀ (a b : List Value), plainL (a ++ b) = (plainL a && plainL b) := by
  intro a
  induction a with
  | nil => intro b; rfl
  | cons x a ih => intro b; rw [List.cons_append, plainL_cons, plainL_cons, ih, Bool.and_assoc]
theorem plainL_reps (z : List Value) (h : plainL z = true) : ∀ n, plainL (reps z n) = true := by
  intro n
  induction n with
  | zero => rfl
  | succ n ih => rw [reps_succ, plainL_append, h, ih]; rfl

/-- a new row whose cells are known whole -/
theorem row_BR {el : TypeId} {c : List Value} {c' : Array Value} {b : Nat} (h : VRs Φ c c'.toList) : BR Φ (row el c) ⟨b, 0, c'.size⟩ (some (.cells c' el)) := by
  have hl := h.length
  refine ⟨c', (0, 0), rfl, rfl, ?_, ?_, rfl, fun _ => ⟨rfl, ?_⟩⟩
  · show 0 + c.length ≤ c'.size
    simp only [Array.length_toList] at hl; omega
  · intro i v hv
    obtain ⟨v', h1, h2⟩ := h.get i v hv
    exact ⟨v', by simpa using h1, h2⟩
  · show c.length = c'.size
    simp only [Array.length_toList] at hl; omega

/-- what is known of an operation that makes an object: the value, the object -/
def Makes (P : Program) (Φ : Ren) (w : World) (n : Nat) (x : Sem Value) (v : Value) (B : AB) : Prop :=
  ∃ v' obj d sz, x.run P w = .ok v' (pushW w obj d) ∧ B.pa = [] ∧ ∀ Ψ : Ren, Φ.le Ψ → Ψ n = some ⟨w.heap.size, 0, sz⟩ → VR Ψ v v' ∧ BR Ψ B ⟨w.heap.size, 0, sz⟩ (some obj)

theorem aAlloc_sound {c : C} {el : TypeId} {v : Value} {B : AB} (hE : EOK P c.E) (h : aAlloc c el = some (v, B)) : Makes P Φ w c.s.nx (Instr.alloc el true (.tuple #[])) v B := by
  obtain ⟨ti, h1, h2⟩ := ob_eq h
  cases h2
  have hT := hE.ty _ _ h1
  obtain ⟨z, hz, hzc, _⟩ := hT.run_zero
  refine ⟨_, .cells z.cells el, w.drawn, z.cells.size, ?_, rfl, fun Ψ hle hΨ => ⟨.ptr _ 0 _ hΨ, row_BR ?_⟩⟩
  · simp only [Instr.alloc, Sem.run_bind, hz, Result.andThen_ok, newVar, newRow, run_newObj, Sem.run_pure]
    rfl
  · rw [hzc]; exact VRs.plain hT.pl
theorem aBox_sound {c : C} {el : TypeId} {x : Operand} {v : Value} {B : AB} {ρ : Operand → Value} (h : aBox c el x = some (v, B)) (hx : ∀ u, opnd c.tm x = some u → VR Φ u (ρ x)) :
    Makes P Φ w c.s.nx (Instr.box el (ρ x)) v B := by
  obtain ⟨u, h1, h2⟩ := ob_eq h
  cases h2
  refine ⟨_, .cells (ρ x).cells el, w.drawn, (ρ x).cells.size, ?_, rfl, fun Ψ hle hΨ => ⟨.ptr _ 0 _ hΨ, row_BR ((hx u h1).mono hle).cells⟩⟩
  simp only [Instr.box, Sem.run_bind, newVar, newRow, run_newObj, Result.andThen_ok, Sem.run_pure]
  rfl
theorem aBuild_sound {c : C} {t : TypeId} {len : Nat} {ps : Array (Nat × Operand)} {v : Value} {B : AB} {ρ : Operand → Value} (hE : EOK P c.E) (h : aBuild c t len ps = some (v, B))
    (hρ : ∀ x ∈ ps.toList.map (·.2), ∀ u, opnd c.tm x = some u → VR Φ u (ρ x)) : Makes P Φ w c.s.nx (Instr.buildSlice t len (ps.map fun (i, x) => (i, ρ x))) v B := by
  obtain ⟨ti, h1, h2⟩ := ob_eq h
  obtain ⟨el, hk, h3⟩ := kSlice_eq h2
  obtain ⟨ei, h4, h5⟩ := ob_eq h3
  obtain ⟨pv, h6, h7⟩ := ob_eq h5
  obtain ⟨h8, h9⟩ := gd_eq h7
  obtain ⟨r, h10, h11⟩ := ob_eq h9
  cases h11
  have hu := (hE.ty _ _ h1).und
  rw [hk] at hu
  have hT := hE.ty _ _ h4
  have hp := parts_sound (Φ := Φ) (ρ := ρ) hρ h6
  obtain ⟨z, hz, hzc, _⟩ := hT.run_zero
  have hlz : z.cells.size = ei.sz := by rw [← hT.len, ← hzc]; simp
  have hlt := blt_nat.1 h8
  have hng : ¬ (len * ei.sz > 2 ^ 24) := by omega
  have hpe : (ps.map fun (i, x) => (i, ρ x)).toList = ps.toList.map fun p => (p.1, ρ p.2) := by simp
  -- the zeros
  have zr : ∃ zz : Array Value, ((len * ei.sz = 0 → zz = #[]) ∧ (¬ len * ei.sz = 0 → zz = z.cells)) ∧
      ((Array.range (len * ei.sz)).map fun i => zz[i % zz.size]!).toList = reps ei.ze len := by
    by_cases e : len * ei.sz = 0
    · refine ⟨#[], ⟨fun _ => rfl, fun h => absurd e h⟩, ?_⟩
      rw [e]
      have : (reps ei.ze len).length = 0 := by rw [(reps_spec ei.ze len).1, hT.len, e]
      rw [List.length_eq_zero_iff.1 this]; simp
    · refine ⟨z.cells, ⟨fun h => absurd h e, fun _ => rfl⟩, ?_⟩
      rw [← hlz, zeros_eq, hzc]
  obtain ⟨zz, hzz, hzl⟩ := zr
  obtain ⟨r', h12, h13⟩ := fill_sound (Φ := Φ) (place := fun i => some (i * ei.sz, ei.sz)) (step := fun cc p => gd (Nat.beq (vcells p.2).length ei.sz) (over cc (p.1 * ei.sz) (vcells p.2)))
      (fun cc p rr hs => by
        obtain ⟨h9, h10⟩ := gd_eq hs
        exact ⟨p.1 * ei.sz, by rw [beq_nat.1 h9], h10⟩)
      (f := fillA ei.sz) (fun _ => rfl) (fun p l cc => fillA_cons _ _ _ _) h10 hp (VRs.plain (plainL_reps _ hT.pl len))
  have h12' : Instr.fill (fun i => some (i * ei.sz, ei.sz)) ((Array.range (len * ei.sz)).map fun i => zz[i % zz.size]!) (ps.map fun (i, x) => (i, ρ x)).toList = some r' := by
    rw [hpe, ← h12]
    congr 1
    apply Array.toList_inj.1; exact hzl
  refine ⟨_, .cells r' el, w.drawn, r'.size, ?_, rfl, fun Ψ hle hΨ => ⟨.sl _ 0 _ _ _ hΨ, row_BR (h13.mono hle)⟩⟩
  by_cases e : len * ei.sz = 0
  · have := hzz.1 e
    subst this
    simp only [Instr.buildSlice, Sem.run_bind, run_underlying hu, Result.andThen_ok, hT.run_size, if_neg hng, if_pos e, Sem.run_pure, h12', newRow, run_newObj]
    rfl
  · have := hzz.2 e
    subst this
    simp only [Instr.buildSlice, Sem.run_bind, run_underlying hu, Result.andThen_ok, hT.run_size, if_neg hng, if_neg e, hz, Sem.run_pure, h12', newRow, run_newObj]
    rfl
theorem aMap_sound {c : C} {t : TypeId} {o : Option Operand} {v : Value} {B : AB} {ρ : Operand → Value} (h : aMap c o = some (v, B)) : Makes P Φ w c.s.nx (Instr.makeMap t (o.map ρ)) v B := by
  obtain ⟨h1, h2⟩ := gd_eq h
  cases h2
  cases o with
  | some x => cases h1
  | none =>
    refine ⟨.map (some w.heap.size), .map #[] 0, w.drawn, 0, rfl, rfl, fun Ψ hle hΨ => ⟨.map _ _ hΨ, ⟨#[], rfl, .nil⟩⟩⟩
theorem aMake_sound {c : C} {t : TypeId} {l k : Operand} {v : Value} {B : AB} {ρ : Operand → Value} (hE : EOK P c.E) (h : aMake c t l k = some (v, B))
    (hl : ∀ u, opnd c.tm l = some u → VR Φ u (ρ l)) (hk' : ∀ u, opnd c.tm k = some u → VR Φ u (ρ k)) : Makes P Φ w c.s.nx (Instr.makeSlice t (ρ l) (ρ k)) v B := by
  obtain ⟨ti, h1, h2⟩ := ob_eq h
  obtain ⟨el, hk, h3⟩ := kSlice_eq h2
  obtain ⟨ei, h4, h5⟩ := ob_eq h3
  obtain ⟨lv, h6, h7⟩ := ob_eq h5
  obtain ⟨kv, h8, h9⟩ := ob_eq h7
  obtain ⟨ik, n, rfl, h10⟩ := vNat_eq h9
  obtain ⟨jk, m, rfl, h11⟩ := vNat_eq h10
  obtain ⟨h12, h13⟩ := gd_eq h11
  cases h13
  simp only [band_eq, Bool.and_eq_true, ble_nat, blt_nat] at h12
  obtain ⟨g1, g2, g3⟩ := h12
  have hu := (hE.ty _ _ h1).und
  rw [hk] at hu
  have hT := hE.ty _ _ h4
  have e1 : ρ l = .int ik n := by have := hl _ h6; generalize ρ l = y at this; cases this; rfl
  have e2 : ρ k = .int jk m := by have := hk' _ h8; generalize ρ k = y at this; cases this; rfl
  rw [e1, e2]
  obtain ⟨i, z0, hi, his, hib, hiz, hizc⟩ := hT.run_info
  obtain ⟨z, hz, hzc, _⟩ := hT.run_zero
  have hlz : z.cells.size = ei.sz := by rw [← hT.len, ← hzc]; simp
  have hw : ∀ x : Nat, x < 100000 → IntKind.i64.wrap (x : Int) = x := fun x hx => wrap_in _ _ (by simp [IntKind.min, IntKind.signed, IntKind.bits]) (by simp [IntKind.max, IntKind.signed, IntKind.bits]; omega)
  have hwn := hw n (by omega)
  have hwm := hw m (by omega)
  have hbytes : (i.bytes : Int) * (m : Int) ≤ 10000000000 := by
    rw [hib]
    have : ei.bt * m ≤ 100000 * 100000 := Nat.mul_le_mul (by omega) (by omega)
    have h' : ((ei.bt * m : Nat) : Int) ≤ 10000000000 := by omega
    rwa [Int.natCast_mul] at h'
  have zr : ∃ zz : Array Value, ((m * ei.sz = 0 → zz = #[]) ∧ (¬ m * ei.sz = 0 → zz = z.cells)) ∧
      ((Array.range (m * ei.sz)).map fun i => zz[i % zz.size]!).toList = reps ei.ze m := by
    by_cases e : m * ei.sz = 0
    · refine ⟨#[], ⟨fun _ => rfl, fun h => absurd e h⟩, ?_⟩
      rw [e]
      have : (reps ei.ze m).length = 0 := by rw [(reps_spec ei.ze m).1, hT.len, e]
      rw [List.length_eq_zero_iff.1 this]; simp
    · refine ⟨z.cells, ⟨fun h => absurd h e, fun _ => rfl⟩, ?_⟩
      rw [← hlz, zeros_eq, hzc]
  obtain ⟨zz, hzz, hzl⟩ := zr
  have hcond : ((decide ((m : Int) < 0) || decide ((i.bytes : Int) * (m : Int) > 2 ^ 48)) || decide ((n : Int) < 0) || decide ((n : Int) > (m : Int))) = false := by
    have a1 : ¬ ((m : Int) < 0) := by omega
    have a2 : ¬ ((i.bytes : Int) * (m : Int) > 2 ^ 48) := by omega
    have a3 : ¬ ((n : Int) < 0) := by omega
    have a4 : ¬ ((n : Int) > (m : Int)) := by omega
    simp [a1, a2, a3]; omega
  refine ⟨.slice (some ⟨w.heap.size, 0, none⟩) n m, .cells ((Array.range (m * ei.sz)).map fun i => zz[i % zz.size]!) el, w.drawn, ((Array.range (m * ei.sz)).map fun i => zz[i % zz.size]!).size, ?_, rfl,
    fun Ψ hle hΨ => ⟨.sl _ 0 _ _ _ hΨ, row_BR (by rw [hzl]; exact VRs.plain (plainL_reps _ hT.pl m))⟩⟩
  by_cases e : m * ei.sz = 0
  · have := hzz.1 e
    subst this
    simp only [Instr.makeSlice, Sem.run_bind, run_underlying hu, Result.andThen_ok, asInt, asIntOf, Sem.run_pure, hi, hwn, hwm, hcond, Bool.false_eq_true, if_false, run_askRoom, Int.toNat_natCast, hT.run_size, if_pos e, newRow, run_newObj]
    rfl
  · have := hzz.2 e
    subst this
    simp only [Instr.makeSlice, Sem.run_bind, run_underlying hu, Result.andThen_ok, asInt, asIntOf, Sem.run_pure, hi, hwn, hwm, hcond, Bool.false_eq_true, if_false, run_askRoom, Int.toNat_natCast, hT.run_size, if_neg e, hz, newRow, run_newObj]
    rfl
theorem aRange_sound {c : C} {t : TypeId} {x : Operand} {v : Value} {B : AB} {ρ : Operand → Value} (hE : EOK P c.E) (hh : HRel Φ c.s.h w) (h : aRange c t x = some (v, B))
    (hx : ∀ u, opnd c.tm x = some u → VR Φ u (ρ x)) : Makes P Φ w c.s.nx (Instr.range t (ρ x)) v B := by
  obtain ⟨ti, h1, h2⟩ := ob_eq h
  obtain ⟨xv, h3, h4⟩ := ob_eq h2
  rw [bi_eq] at h4
  by_cases hs : isStr ti.kd = true
  · rw [if_pos hs] at h4
    have hu := (hE.ty _ _ h1).und
    have hkd : ti.kd = .string := by
      unfold isStr at hs; split at hs
      · assumption
      · cases hs
    rw [hkd] at hu
    have hxv := hx _ h3
    unfold rangeS at h4
    split at h4
    · cases h4
      generalize ρ x = x' at hxv ⊢
      cases hxv
      refine ⟨_, .stringIter _ 0, w.drawn, 0, ?_, rfl, fun Ψ hle hΨ => ⟨.ptr _ 0 _ hΨ, ⟨rfl, rfl⟩⟩⟩
      simp only [Instr.range, Sem.run_bind, run_underlying hu, Result.andThen_ok, Sem.run_pure, run_newObj]
      rfl
    · cases h4
  rw [if_neg hs] at h4
  obtain ⟨kt, et, hk, h5⟩ := kMap_eq h4
  obtain ⟨m, rfl, h6⟩ := vMap_eq h5
  have hu := (hE.ty _ _ h1).und
  rw [hk] at hu
  have hxv := hx _ h3
  generalize ρ x = x' at hxv ⊢
  cases m with
  | none =>
    cases hxv
    cases h6
    refine ⟨_, .mapIter none 0 #[] 0, w.drawn, 0, ?_, rfl, fun Ψ hle hΨ => ⟨.ptr _ 0 _ hΨ, ⟨rfl, none, rfl, rfl⟩⟩⟩
    simp only [Instr.range, Sem.run_bind, run_underlying hu, Result.andThen_ok, Sem.run_pure, run_newObj]
    rfl
  | some m =>
    cases hxv with
    | map _ l hl =>
      have h6' : (ob (c.s.h.get m) fun o => bMap o fun _ clock => some (ptrTo c, AB.mit (some m) clock)) = some (v, B) := h6
      obtain ⟨o, g1, g2⟩ := ob_eq h6'
      obtain ⟨es, clock, rfl, g3⟩ := bMap_eq g2
      cases g3
      obtain ⟨es', g4, g5⟩ := map_row hh g1 hl
      refine ⟨_, .mapIter (some l.b) clock #[] clock, w.drawn, 0, ?_, rfl, fun Ψ hle hΨ => ⟨.ptr _ 0 _ hΨ, ⟨rfl, some l.b, rfl, ⟨l, hle _ _ hl, rfl⟩⟩⟩⟩
      simp only [Instr.range, Sem.run_bind, run_underlying hu, Result.andThen_ok, run_getMap (P := P) g4, Sem.run_pure, run_newObj]
      rfl
end
end Go.Ev

/-! Operations that write: stores. -/
namespace Go.Ev
open Go
set_option linter.unusedSimpArgs false
set_option linter.unusedVariables false
section
variable {P : Program} {E : Env} {Φ : Ren} {w : World}

/-- cells laid over a row -/
def laid (c : Array Value) (o : Nat) (vs : List Value) : Array Value := ⟨c.toList.take o ++ vs ++ c.toList.drop (o + vs.length)⟩
theorem laid_size {c : Array Value} {o : Nat} {vs : List Value} (h : o + vs.length ≤ c.size) : (laid c o vs).size = c.size := by
  simp [laid]; omega
theorem laid_get {c : Array Value} {o : Nat} {vs : List Value} (h : o + vs.length ≤ c.size) (i : Nat) : (laid c o vs)[i]? = if o ≤ i ∧ i < o + vs.length then vs[i - o]? else c[i]? := by
  have ht : (c.toList.take o).length = o := by simp; omega
  have e : (laid c o vs)[i]? = (c.toList.take o ++ vs ++ c.toList.drop (o + vs.length))[i]? := by simp [laid]
  rw [e, List.append_assoc, List.getElem?_append, ht]
  by_cases h1 : i < o
  · rw [if_pos h1, if_neg (by omega), List.getElem?_take, if_pos h1]; simp
  · rw [if_neg h1, List.getElem?_append]
    by_cases h2 : i - o < vs.length
    · rw [if_pos h2, if_pos (by omega)]
    · rw [if_neg h2, if_neg (by omega), List.getElem?_drop, show o + vs.length + (i - o - vs.length) = i from by omega]; simp
theorem laid_nil (c : Array Value) (o : Nat) : laid c o [] = c := by
  apply Array.toList_inj.1; simp [laid]
theorem putO_putO (w : World) (β : Nat) (a b : Obj) : putO (putO w β a) β b = putO w β b := by
  simp [putO]
theorem setCell_putO {w : World} {β o : Nat} {c : Array Value} {e : TypeId} {f : Nat × Nat} {v : Value} (h : w.heap[β]? = some (.cells c e f)) :
    w.setCell ⟨β, o, none⟩ v = putO w β (.cells (c.setIfInBounds o v) e f) := by
  have hlt := lt_of_get h
  unfold World.setCell putO
  refine congrArg (fun hp => ({ w with heap := hp } : World)) ?_
  apply Array.ext_getElem?
  intro i
  rw [Array.getElem?_modify, Array.getElem?_setIfInBounds]
  by_cases hi : β = i
  · subst hi
    rw [if_pos rfl, if_pos rfl, if_pos hlt, h]
    rfl
  · rw [if_neg hi, if_neg hi]
/-- which cells may be written -/
def free (f : Nat × Nat) (o n : Nat) : Prop := ∀ j, j < n → ¬ (f.1 ≤ o + j ∧ o + j < f.2)
theorem run_storeCells {β o : Nat} {e : TypeId} {f : Nat × Nat} : ∀ (vs : List Value) (i : Nat) (w : World) (c : Array Value), w.heap[β]? = some (.cells c e f) → o + i + vs.length ≤ c.size →
    free f (o + i) vs.length → (∀ v ∈ vs, v.oneCell' = true) → (storeCells ⟨β, o, none⟩ vs i).run P w = .ok () (putO w β (.cells (laid c (o + i) vs) e f)) := by
  intro vs
  induction vs with
  | nil =>
    intro i w c h _ _ _
    rw [laid_nil]
    have : putO w β (.cells c e f) = w := by
      unfold putO
      have : w.heap.setIfInBounds β (.cells c e f) = w.heap := by
        apply Array.ext_getElem?
        intro j
        rw [Array.getElem?_setIfInBounds]
        by_cases hj : β = j
        · subst hj; rw [if_pos rfl, if_pos (lt_of_get h), h]
        · rw [if_neg hj]
      rw [this]
    rw [this]; rfl
  | cons v vs ih =>
    intro i w c h hle hfr hone
    simp only [List.length_cons] at hle hfr
    have hcell : w.cell? ⟨β, o + i, none⟩ = c[o + i]? := by simp [World.cell?, h]
    have hget : c[o + i]? = some c[o + i] := Array.getElem?_eq_getElem (by omega)
    have hfz : w.frozen? ⟨β, o + i, none⟩ = false := by
      have := hfr 0 (by omega)
      simp only [Nat.add_zero] at this
      simp only [World.frozen?, h]
      rw [Bool.and_eq_false_iff]
      simp only [decide_eq_false_iff_not]
      omega
    have hst : (store ((⟨β, o, none⟩ : Addr).add i) v).run P w = .ok () (putO w β (.cells (c.setIfInBounds (o + i) v) e f)) := by
      rw [add_none, run_store P w _ v _ (hone v List.mem_cons_self), hcell, hget]
      simp only [hfz, Bool.false_eq_true, if_false, setCell_putO h]
    have hb : (putO w β (.cells (c.setIfInBounds (o + i) v) e f)).heap[β]? = some (.cells (c.setIfInBounds (o + i) v) e f) := putO_same (lt_of_get h)
    have := ih (i + 1) _ _ hb (by simp; omega) (fun j hj => by
      have := hfr (j + 1) (by omega)
      rwa [show o + i + (j + 1) = o + (i + 1) + j from by omega] at this) (fun u hu => hone u (List.mem_cons_of_mem _ hu))
    have hl : laid (c.setIfInBounds (o + i) v) (o + (i + 1)) vs = laid c (o + i) (v :: vs) := by
      apply Array.ext_getElem?
      intro j
      have hle' : o + (i + 1) + vs.length ≤ (c.setIfInBounds (o + i) v).size := by simp; omega
      rw [laid_get hle', laid_get (by simp; omega), Array.getElem?_setIfInBounds]
      simp only [List.length_cons]
      by_cases h1 : o + (i + 1) ≤ j ∧ j < o + (i + 1) + vs.length
      · rw [if_pos h1, if_pos (by omega), show j - (o + i) = (j - (o + (i + 1))) + 1 from by omega, List.getElem?_cons_succ]
      · rw [if_neg h1]
        by_cases h2 : o + i = j
        · subst h2; rw [if_pos rfl, if_pos (by omega), if_pos (by omega), Nat.sub_self]; rfl
        · rw [if_neg h2, if_neg (by omega)]
    simp only [storeCells, Sem.run_bind, hst, Result.andThen_ok, this, putO_putO, hl]

/-- a write of the evaluator's, in the world -/
theorem wrN_sound {s s' : S} {a a' : Addr} {vs vs' : List Value} (hr : Rel Φ s w) (h : wrN s a vs = some s') (ha : AR Φ a a') (hvs : VRs Φ vs vs') :
    ∃ w', (storeCells a' vs').run P w = .ok () w' ∧ Rel Φ s' w' ∧ Ext Φ s w Φ s' w' := by
  obtain ⟨k, hg, h1⟩ := blk_eq h
  obtain ⟨h2, h3⟩ := gd_eq h1
  obtain ⟨c, h4, h5⟩ := ob_eq h3
  cases h5
  simp only [band_eq, bnot_eq, bor_eq, Bool.and_eq_true, Bool.not_eq_true', Bool.or_eq_false_iff] at h2
  obtain ⟨hflat, hst, hhit⟩ := h2
  obtain ⟨l, hl, rfl⟩ := ha
  obtain ⟨cc, f, g1, g2, g3, g4, g5, g6⟩ := hr.toHRel.row hg hl
  obtain ⟨o1, o2, o3⟩ := over_some _ _ _ _ h4
  have hlen := hvs.length
  have hfree : free f (l.base + a.off) vs'.length := by
    intro j hj hh
    unfold FzR at g5
    unfold fzHits at hhit
    cases hfz : k.fz with
    | none => rw [hfz] at g5; simp only at g5; subst g5; simp at hh
    | some p =>
      rw [hfz] at g5 hhit
      simp only at g5
      have hhit' : bor (Nat.blt p.2 p.1) (band (Nat.blt a.off p.2) (Nat.blt p.1 (a.off + vs.length))) = false := hhit
      rw [bor_eq, Bool.or_eq_false_iff, band_eq, Bool.and_eq_false_iff, blt_dec, blt_dec, blt_dec] at hhit'
      simp only [decide_eq_false_iff_not] at hhit'
      obtain ⟨hro, hhit'⟩ := hhit'
      split at g5
      · subst g5; simp only at hh; omega
      · first | omega | (rw [if_neg hro] at g5; omega)
  have hone : ∀ v ∈ vs', v.oneCell' = true := by
    intro v' hv'
    obtain ⟨i, hi, e⟩ := List.getElem_of_mem hv'
    have hi' : i < vs.length := by omega
    obtain ⟨u', e1, e2⟩ := hvs.get i vs[i] (List.getElem?_eq_getElem hi')
    rw [List.getElem?_eq_getElem hi] at e1
    cases e1
    rw [← e]
    exact flat_of e2 (flatL_get hflat _ (List.getElem_mem hi'))
  have hrun := run_storeCells (P := P) (o := l.base + a.off) vs' 0 w cc g1 (by omega) (by simpa using hfree) hone
  simp only [Nat.add_zero] at hrun
  refine ⟨_, hrun, ?_⟩
  have hle : l.base + a.off + vs'.length ≤ cc.size := by omega
  have hnew : BR Φ (.cells ⟨c, k.el, k.gr, [], k.st, k.fz⟩) l (some (.cells (laid cc (l.base + a.off) vs') k.el f)) := by
    refine ⟨_, f, rfl, by rw [laid_size hle]; exact g2, by rw [laid_size hle]; show l.base + c.length ≤ _; omega, ?_, by rw [laid_size hle]; exact g5, fun e => ?_⟩
    · intro i v hv
      have hv' : c[i]? = some v := hv
      rw [o3 i] at hv'
      rw [laid_get hle]
      by_cases e : a.off ≤ i ∧ i < a.off + vs.length
      · rw [if_pos e] at hv'
        rw [if_pos (by omega), show l.base + i - (l.base + a.off) = i - a.off from by omega]
        exact hvs.get _ _ hv'
      · rw [if_neg e] at hv'
        rw [if_neg (by omega)]
        exact g4 i v hv'
    · obtain ⟨e1, e2⟩ := g6 e
      exact ⟨e1, by rw [laid_size hle]; show c.length = _; omega⟩
  have hlt := lt_of_get g1
  refine hr.write (c := c) (fz := k.fz) hg hst hl o1 (putO_size _ _ _) (fun β hβ => putO_other hβ) (by rw [putO_same hlt]; exact hnew) rfl rfl rfl
end
end Go.Ev

