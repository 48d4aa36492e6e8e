/-
  A part of the proof that virgatetop.ModeLoop answers true for every text and every fuel: what the evaluator says of regions that draw their order. No condition.
-/
import Derived.Test.YtlndamldkcangaaGreatDoorEvC
set_option linter.all false
/-! Regions that draw their order, 3: who stands before whom. -/
namespace Go.Ev
open Go Go.Lib
set_option linter.unusedSimpArgs false
set_option linter.unusedVariables false

noncomputable def addB (bs : List Nat) (s : Nat) (e : Edge) : Nat := bi (Region.binds .any e) (s ||| 2 ^ e.on ||| ((nth bs e.on).getD 0)) s
theorem fold_bit (bs : List Nat) (x : Nat) : ∀ (l : List Edge) (s : Nat), (l.foldl (addB bs) s).testBit x = true ↔
    s.testBit x = true ∨ ∃ e ∈ l, Region.binds .any e = true ∧ (x = e.on ∨ ((nth bs e.on).getD 0).testBit x = true) := by
  intro l
  induction l with
  | nil => intro s; simp
  | cons e l ih =>
    intro s
    rw [List.foldl_cons, ih]
    cases hb : Region.binds .any e with
    | false =>
      have : addB bs s e = s := by simp [addB, hb]
      rw [this]
      constructor
      · rintro (h | ⟨e', h1, h2⟩)
        · exact .inl h
        · exact .inr ⟨e', List.mem_cons_of_mem _ h1, h2⟩
      · rintro (h | ⟨e', h1, h2, h3⟩)
        · exact .inl h
        · rcases List.mem_cons.1 h1 with rfl | h1
          · rw [hb] at h2; cases h2
          · exact .inr ⟨e', h1, h2, h3⟩
    | true =>
      have hx : (addB bs s e).testBit x = true ↔ s.testBit x = true ∨ x = e.on ∨ ((nth bs e.on).getD 0).testBit x = true := by
        simp only [addB, hb, bi_true, Nat.testBit_or, Nat.testBit_two_pow, Bool.or_eq_true, decide_eq_true_eq]
        constructor
        · rintro ((h | h) | h)
          · exact .inl h
          · exact .inr (.inl h.symm)
          · exact .inr (.inr h)
        · rintro (h | h | h)
          · exact .inl (.inl h)
          · exact .inl (.inr h.symm)
          · exact .inr h
      rw [hx]
      constructor
      · rintro ((h | h) | ⟨e', h1, h2⟩)
        · exact .inl h
        · exact .inr ⟨e, List.mem_cons_self, hb, h⟩
        · exact .inr ⟨e', List.mem_cons_of_mem _ h1, h2⟩
      · rintro (h | ⟨e', h1, h2, h3⟩)
        · exact .inl (.inl h)
        · rcases List.mem_cons.1 h1 with rfl | h1
          · exact .inl (.inr h3)
          · exact .inr ⟨e', h1, h2, h3⟩
theorem befores_bit (o : Oper) (bs : List Nat) (x : Nat) : (befores o bs).testBit x = true ↔
    ∃ e ∈ o.after.toList, Region.binds .any e = true ∧ (x = e.on ∨ ((nth bs e.on).getD 0).testBit x = true) := by
  have : befores o bs = o.after.toList.foldl (addB bs) 0 := rfl
  rw [this, fold_bit]
  simp

theorem annot_cons (o : Oper) (l : List Oper) (i : Nat) (bs : List Nat) : annot (o :: l) i bs = ⟨o, i, befores o bs⟩ :: annot l (i + 1) (bs ++ [befores o bs]) := rfl
theorem annot_spec : ∀ (l : List Oper) (i : Nat) (bs : List Nat) (k : Nat) (d : DO), (annot l i bs)[k]? = some d → d.i = i + k ∧ l[k]? = some d.o ∧ d.b = befores d.o (bs ++ ((annot l i bs).take k).map (·.b)) := by
  intro l
  induction l with
  | nil => intro i bs k d h; simp [annot] at h
  | cons o l ih =>
    intro i bs k d h
    rw [annot_cons] at h ⊢
    cases k with
    | zero =>
      simp only [List.getElem?_cons_zero, Option.some.injEq] at h
      subst h
      exact ⟨rfl, rfl, by simp⟩
    | succ k =>
      rw [List.getElem?_cons_succ] at h
      obtain ⟨h1, h2, h3⟩ := ih (i + 1) _ k d h
      refine ⟨by omega, by simpa using h2, ?_⟩
      rw [h3]
      congr 1
      simp [List.append_assoc]
theorem annot_length : ∀ (l : List Oper) (i : Nat) (bs : List Nat), (annot l i bs).length = l.length := by
  intro l
  induction l with
  | nil => intro i bs; rfl
  | cons o l ih => intro i bs; rw [annot_cons, List.length_cons, List.length_cons, ih]
/-- an annotated operation -/
structure AnnF (all : List Oper) (i : Nat) (d : DO) : Prop where
  ix : d.i = i
  op : all[i]? = some d.o
  dir : ∀ e ∈ d.o.after.toList, Region.binds .any e = true → d.b.testBit e.on = true
  far : ∀ x, d.b.testBit x = true → ∃ e ∈ d.o.after.toList, Region.binds .any e = true ∧ (x = e.on ∨ ∃ d', (annot all 0 [])[e.on]? = some d' ∧ d'.b.testBit x = true)
theorem annF {all : List Oper} {i : Nat} {d : DO} (h : (annot all 0 [])[i]? = some d) : AnnF all i d := by
  obtain ⟨h1, h2, h3⟩ := annot_spec all 0 [] i d h
  refine ⟨by omega, h2, fun e he hb => ?_, fun x hx => ?_⟩
  · rw [h3, befores_bit]; exact ⟨e, he, hb, .inl rfl⟩
  · rw [h3, befores_bit] at hx
    obtain ⟨e, he, hb, hx⟩ := hx
    refine ⟨e, he, hb, hx.imp id fun hx => ?_⟩
    rw [nth_eq, List.nil_append, List.getElem?_map, List.getElem?_take] at hx
    split at hx
    · cases hd : (annot all 0 [])[e.on]? with
      | none => rw [hd] at hx; simp at hx
      | some d' => rw [hd] at hx; exact ⟨d', rfl, by simpa using hx⟩
    · simp at hx

/-- what is known of the names -/
structure SsaF (ds : List DO) : Prop where
  guard : ∀ d ∈ ds, ∀ j b, d.o.guard = some (j, b) → d.b.testBit j = true
  dst : ∀ d ∈ ds, ∀ e ∈ ds, ∀ t, d.o.dst = some t → e.i ≠ d.i → e.o.dst ≠ some t
  nam : ∀ d ∈ ds, ∀ e ∈ ds, ∀ t, d.o.dst = some t → e.i ≠ d.i → t ∈ opTmps e.o.op → e.b.testBit d.i = true ∨ d.b.testBit e.i = true
theorem ssa_eq {ds : List DO} (h : ssa ds = true) : SsaF ds := by
  unfold ssa at h
  rw [List.all_eq_true] at h
  have h1 : ∀ d ∈ ds, guard1 d = true ∧ ∀ t, d.o.dst = some t → ∀ e ∈ ds, ssa1 d t e = true := by
    intro d hd
    have := h d hd
    rw [band_eq, Bool.and_eq_true] at this
    refine ⟨this.1, fun t ht e he => ?_⟩
    have h2 := this.2
    rw [ht] at h2
    exact List.all_eq_true.1 (show (ds.all (ssa1 d t)) = true from h2) e he
  have h2 : ∀ d ∈ ds, ∀ e ∈ ds, ∀ t, d.o.dst = some t → e.i ≠ d.i → e.o.dst ≠ some t ∧ (t ∈ opTmps e.o.op → e.b.testBit d.i = true ∨ d.b.testBit e.i = true) := by
    intro d hd e he t ht hne
    have := (h1 d hd).2 t ht e he
    unfold ssa1 at this
    rw [bor_eq, Bool.or_eq_true, beq_nat, band_eq, Bool.and_eq_true, bor_eq, Bool.or_eq_true, bor_eq, Bool.or_eq_true, bnot_eq] at this
    rcases this with h3 | ⟨h3, h4⟩
    · exact absurd h3 hne
    · refine ⟨fun hd => ?_, fun hn => ?_⟩
      · rw [hd] at h3
        have h3' : bnot (Nat.beq t t) = true := h3
        rw [bnot_eq, Nat.beq_refl] at h3'; cases h3'
      · rcases h4 with (h4 | h4) | h4
        · exact .inl h4
        · exact .inr h4
        · have : names e.o.op t = true := by
            unfold names
            rw [List.any_eq_true]
            exact ⟨t, hn, Nat.beq_refl t⟩
          rw [this] at h4; cases h4
  refine ⟨fun d hd j b hg => ?_, fun d hd e he t ht hne => (h2 d hd e he t ht hne).1, fun d hd e he t ht hne => (h2 d hd e he t ht hne).2⟩
  have := (h1 d hd).1
  unfold guard1 at this
  rw [hg] at this
  exact this
theorem mem_opTmps {op : Op} {t : Tmp} (h : Operand.tmp t ∈ op.operands) : t ∈ opTmps op := by
  unfold opTmps
  rw [List.mem_filterMap]
  exact ⟨.tmp t, by simpa using h, rfl⟩
end Go.Ev

/-! Regions that draw their order, 4: positions. -/
namespace Go.Ev
open Go Go.Lib
set_option linter.unusedSimpArgs false
set_option linter.unusedVariables false

noncomputable def msk (ops : Array Oper) : Nat := insMask (annot ops.toList 0 [])
/-- a region and its walk -/
structure Reg (E : Env) (r : Rec) (ops : Array Oper) (l : List Nat) (st : Nat → W) : Prop where
  tr : ∀ q i, l[q]? = some i → ∃ d, (annot ops.toList 0 [])[i]? = some d ∧ StepC E r ops.toList (msk ops) d (st q) (st (q + 1))
  dn0 : (st 0).dn = 0
  old0 : (st 0).old = [(ops.size, (st 0).s)]
  mu0 : (st 0).mu = .no
  fin : (st l.length).dn = 2 ^ ops.size - 1
  ssa : SsaF (annot ops.toList 0 [])
/-- at position q stands d -/
def Pos (ops : Array Oper) (l : List Nat) (q : Nat) (d : DO) : Prop := ∃ i, l[q]? = some i ∧ (annot ops.toList 0 [])[i]? = some d

section
variable {E : Env} {r : Rec} {ops : Array Oper} {l : List Nat} {st : Nat → W}
theorem Pos.ix {q : Nat} {d : DO} (h : Pos ops l q d) : l[q]? = some d.i ∧ (annot ops.toList 0 [])[d.i]? = some d := by
  obtain ⟨i, h1, h2⟩ := h
  have := (annF h2).ix
  subst this
  exact ⟨h1, h2⟩
theorem Pos.mem {q : Nat} {d : DO} (h : Pos ops l q d) : d ∈ annot ops.toList 0 [] := List.mem_of_getElem? h.ix.2
theorem Pos.lt {q : Nat} {d : DO} (h : Pos ops l q d) : q < l.length := by
  rcases Nat.lt_or_ge q l.length with h' | h'
  · exact h'
  · have := h.ix.1; rw [List.getElem?_eq_none h'] at this; cases this
theorem Pos.op {q : Nat} {d : DO} (h : Pos ops l q d) : ops[d.i]? = some d.o := by
  have := (annF h.ix.2).op
  simpa using this
theorem Pos.lts {q : Nat} {d : DO} (h : Pos ops l q d) : d.i < ops.size := by
  have := h.op
  rcases Nat.lt_or_ge d.i ops.size with h' | h'
  · exact h'
  · rw [Array.getElem?_eq_none h'] at this; cases this
theorem Reg.pos (R : Reg E r ops l st) {q : Nat} (h : q < l.length) : ∃ d, Pos ops l q d := by
  obtain ⟨d, h1, _⟩ := R.tr q l[q] (List.getElem?_eq_getElem h)
  exact ⟨d, _, List.getElem?_eq_getElem h, h1⟩
theorem Reg.step (R : Reg E r ops l st) {q : Nat} {d : DO} (h : Pos ops l q d) : StepC E r ops.toList (msk ops) d (st q) (st (q + 1)) := by
  obtain ⟨h1, h2⟩ := h.ix
  obtain ⟨d', g1, g2⟩ := R.tr q d.i h1
  rw [h2] at g1; cases g1; exact g2
theorem Reg.dn (R : Reg E r ops l st) : ∀ q, q ≤ l.length → ∀ x, (st q).dn.testBit x = true ↔ ∃ k, k < q ∧ l[k]? = some x := by
  intro q
  induction q with
  | zero => intro _ x; rw [R.dn0]; simp
  | succ q ih =>
    intro hq x
    obtain ⟨d, hd⟩ := R.pos (q := q) (by omega)
    rw [(R.step hd).dn, mark_bit, Bool.or_eq_true, decide_eq_true_eq, ih (by omega)]
    constructor
    · rintro (⟨k, h1, h2⟩ | rfl)
      · exact ⟨k, by omega, h2⟩
      · exact ⟨q, by omega, hd.ix.1⟩
    · rintro ⟨k, h1, h2⟩
      by_cases e : k = q
      · subst e
        have := hd.ix.1
        rw [h2] at this
        exact .inr (Option.some.inj this)
      · exact .inl ⟨k, by omega, h2⟩
theorem Reg.inj (R : Reg E r ops l st) {q q' x : Nat} (h : l[q]? = some x) (h' : l[q']? = some x) : q = q' := by
  have key : ∀ a b : Nat, a < b → l[a]? = some x → l[b]? = some x → False := by
    intro a b hab ha hb
    have hlt : b < l.length := by
      rcases Nat.lt_or_ge b l.length with h' | h'
      · exact h'
      · rw [List.getElem?_eq_none h'] at hb; cases hb
    obtain ⟨d, hd⟩ := R.pos hlt
    have e := hd.ix.1
    rw [hb] at e
    have e' := Option.some.inj e
    have := (R.step hd).new
    rw [← e'] at this
    have h2 := (R.dn b (by omega) x).2 ⟨a, hab, ha⟩
    rw [this] at h2; cases h2
  rcases Nat.lt_trichotomy q q' with h1 | h1 | h1
  · exact (key _ _ h1 h h').elim
  · exact h1
  · exact (key _ _ h1 h' h).elim
theorem Reg.injP (R : Reg E r ops l st) {q q' : Nat} {d d' : DO} (h : Pos ops l q d) (h' : Pos ops l q' d') (e : d.i = d'.i) : q = q' ∧ d = d' := by
  have e1 := h.ix; have e2 := h'.ix
  rw [e] at e1
  refine ⟨R.inj e1.1 e2.1, ?_⟩
  have := e1.2
  rw [e2.2] at this
  exact (Option.some.inj this).symm
theorem Reg.total (R : Reg E r ops l st) {x : Nat} (h : x < ops.size) : ∃ q d, Pos ops l q d ∧ d.i = x := by
  have : (st l.length).dn.testBit x = true := by rw [R.fin, Nat.testBit_two_pow_sub_one]; simpa using h
  obtain ⟨q, h1, h2⟩ := (R.dn _ (Nat.le_refl _) x).1 this
  obtain ⟨d, h3⟩ := R.pos h1
  refine ⟨q, d, h3, ?_⟩
  have := h3.ix.1
  rw [h2] at this
  exact (Option.some.inj this).symm
theorem Reg.pre (R : Reg E r ops l st) {q x : Nat} {d : DO} (h : Pos ops l q d) (hx : d.b.testBit x = true) : ∃ k d', k < q ∧ Pos ops l k d' ∧ d'.i = x := by
  obtain ⟨k, h1, h2⟩ := (R.dn q (Nat.le_of_lt h.lt) x).1 ((R.step h).pre x hx)
  obtain ⟨d', h3⟩ := R.pos (q := k) (by have := h.lt; omega)
  refine ⟨k, d', h1, h3, ?_⟩
  have := h3.ix.1
  rw [h2] at this
  exact (Option.some.inj this).symm
/-- a loud one has all earlier ones before it -/
theorem Reg.loud (R : Reg E r ops l st) {q k : Nat} {d d' : DO} (h : Pos ops l q d) (hl : loud d.o.op = true) (hk : k < q) (h' : Pos ops l k d') : d.b.testBit d'.i = true := by
  cases (R.step h).step with
  | skip e => rw [e] at hl; cases hl
  | quiet e => rw [e] at hl; cases hl
  | alloc e => rw [e] at hl; cases hl
  | made e => rw [e] at hl; cases hl
  | ins e => rw [e] at hl; cases hl
  | loud _ _ wb _ hb => rw [← hb]; exact (R.dn q (Nat.le_of_lt h.lt) _).2 ⟨k, hk, h'.ix.1⟩

/-- what a light one answers -/
inductive LightV (E : Env) (r : Rec) (all : List Oper) (mask : Nat) (d : DO) (V V' : W) : Value → Option AB → Prop
  | skip (hi : isIns d.o.op = false) (hw : want all V.fr d.o = some false) (hp : put V.fr V.s undefV d.o.dst = some (V'.fr, V'.s)) (hm : V'.mu = V.mu) : LightV E r all mask d V V' undefV none
  | quiet (v : Value) (hi : isIns d.o.op = false) (hw : want all V.fr d.o = some true) (he : ev d.o.op ⟨E, r, V.fr.tm, addMu (rMu mask d V.mu) (base V.old V.s)⟩ = .q (some v))
      (hs : heapFree d.o.op = true ∨ stable E r d (rMu mask d V.mu) V.fr.tm v V.old = true) (hp : put V.fr V.s v d.o.dst = some (V'.fr, V'.s)) (hm : V'.mu = V.mu) : LightV E r all mask d V V' v none
  | alloc (v : Value) (B : AB) (hi : isIns d.o.op = false) (hw : want all V.fr d.o = some true) (he : ev d.o.op ⟨E, r, V.fr.tm, V.s⟩ = .a (some (v, B)))
      (hp : put V.fr (newB V.s B) v d.o.dst = some (V'.fr, V'.s)) (hm : V'.mu = V.mu) : LightV E r all mask d V V' v (some B)
  | made (v : Value) (B : AB) (hi : isIns d.o.op = false) (hw : want all V.fr d.o = some true) (he : ev d.o.op ⟨E, r, V.fr.tm, V.s⟩ = .a (some (v, B))) (hk : isMk d.o.op = true) (hno : V.mu = .no)
      (hp : put V.fr (skipB V.s) v d.o.dst = some (V'.fr, V'.s)) (hm : V'.mu = .op V.s.nx []) : LightV E r all mask d V V' v none
  | ins (hi : isIns d.o.op = true) (id : Nat) (es : List MapEntry) (e : MapEntry) (hmu : V.mu = .op id es) (hd : d.o.dst = none) (hg : d.o.guard = none) (he : insV E d.o.op V.fr.tm id es = some e)
      (hf : V'.fr = V.fr) (hc : (V'.s = sealS V.s id (es ++ [e]) ∧ V'.mu = .se id (es ++ [e])) ∨ (V'.s = V.s ∧ V'.mu = .op id (es ++ [e]))) : LightV E r all mask d V V' undefV none
theorem Reg.light (R : Reg E r ops l st) {q : Nat} {d : DO} (h : Pos ops l q d) (hl : Ev.loud d.o.op = false) :
    (st (q + 1)).old = (st q).old ∧ ∃ v BB, LightV E r ops.toList (msk ops) d (st q) (st (q + 1)) v BB := by
  cases (R.step h).step with
  | skip _ hi hw hp ho hm => exact ⟨ho, _, _, .skip hi hw hp hm⟩
  | quiet _ hi hw v he hs hp ho hm => exact ⟨ho, _, _, .quiet v hi hw he hs hp hm⟩
  | alloc _ hi hw v B he hp ho hm => exact ⟨ho, _, _, .alloc v B hi hw he hp hm⟩
  | made _ hi hw v B he hk hno hp ho hm => exact ⟨ho, _, _, .made v B hi hw he hk hno hp hm⟩
  | ins _ hi id es e hmu hd hg he hf ho hc => exact ⟨ho, _, _, .ins hi id es e hmu hd hg he hf hc⟩
  | loud e => rw [e] at hl; cases hl
theorem LightV.put {all : List Oper} {mask : Nat} {d : DO} {V V' : W} {v : Value} {BB : Option AB} (h : LightV E r all mask d V V' v BB) : ∃ s, Ev.put V.fr s v d.o.dst = some (V'.fr, V'.s) ∧ s = V'.s := by
  cases h with
  | skip hi hw hp => exact ⟨_, hp, (put_eq hp).1.symm⟩
  | quiet v hi hw he hs hp => exact ⟨_, hp, (put_eq hp).1.symm⟩
  | alloc v B hi hw he hp => exact ⟨_, hp, (put_eq hp).1.symm⟩
  | made v B hi hw he hk hno hp => exact ⟨_, hp, (put_eq hp).1.symm⟩
  | ins hi id es e hmu hd hg he hf hc => exact ⟨V'.s, by rw [hd, hf]; rfl, rfl⟩
theorem skipB_nx (s : S) : (skipB s).nx = s.nx + 1 := rfl
theorem skipB_h (s : S) : (skipB s).h = s.h := rfl
theorem sealS_nx (s : S) (id : Nat) (es : List MapEntry) : (sealS s id es).nx = s.nx := rfl
theorem sealS_h (s : S) (id : Nat) (es : List MapEntry) : (sealS s id es).h = s.h.set id (some (.mapu es)) := rfl
theorem Reg.frame (R : Reg E r ops l st) {q : Nat} {d : DO} (h : Pos ops l q d) : (st (q + 1)).fr.nt = (st q).fr.nt ∧ (∀ τ, d.o.dst ≠ some τ → (st (q + 1)).fr.tm.get τ = (st q).fr.tm.get τ) ∧ (st q).s.nx ≤ (st (q + 1)).s.nx := by
  cases (R.step h).step with
  | skip _ _ hw hp ho => obtain ⟨e1, e2, _, e3, _⟩ := put_eq hp; exact ⟨e2, e3, by rw [e1]; exact Nat.le_refl _⟩
  | quiet _ _ hw v he hs hp ho => obtain ⟨e1, e2, _, e3, _⟩ := put_eq hp; exact ⟨e2, e3, by rw [e1]; exact Nat.le_refl _⟩
  | alloc _ _ hw v B he hp ho => obtain ⟨e1, e2, _, e3, _⟩ := put_eq hp; exact ⟨e2, e3, by rw [e1, newB_nx]; exact Nat.le_succ _⟩
  | made _ _ hw v B he hk hno hp ho => obtain ⟨e1, e2, _, e3, _⟩ := put_eq hp; exact ⟨e2, e3, by rw [e1, skipB_nx]; exact Nat.le_succ _⟩
  | ins _ _ id es e hmu hd hg he hf ho hc =>
    refine ⟨by rw [hf], fun τ _ => by rw [hf], ?_⟩
    rcases hc with ⟨h1, _⟩ | ⟨h1, _⟩
    · rw [h1, sealS_nx]; exact Nat.le_refl _
    · rw [h1]; exact Nat.le_refl _
  | loud _ _ wb hw hb hd hn ho =>
    rw [bi_eq] at hd
    cases wb with
    | true => rw [if_pos rfl] at hd; obtain ⟨e1, e2⟩ := doOp_eq hd; exact ⟨e1, e2, hn⟩
    | false => rw [if_neg (by simp)] at hd; obtain ⟨e1, e2, _, e3, _⟩ := put_eq hd; exact ⟨e2, e3, hn⟩
/-! the map that is filled -/
def rank (mu : Mu) : Nat := match mu with
  | .no => 0
  | .op _ _ => 1
  | .se _ _ => 2
  | .cl => 3
theorem rank_close (mu : Mu) : rank mu ≤ rank (closeMu mu) := by cases mu <;> simp [closeMu, rank]
/-- the step at q makes it -/
def MadeAt (st : Nat → W) (q : Nat) : Prop := (st q).mu = .no ∧ (st (q + 1)).mu = .op (st q).s.nx [] ∧ (st (q + 1)).s.nx = (st q).s.nx + 1
def lastE (mu : Mu) : MapEntry := match mu with
  | .op _ es => es.getLast?.getD ⟨undefV, undefV, 0⟩
  | .se _ es => es.getLast?.getD ⟨undefV, undefV, 0⟩
  | _ => ⟨undefV, undefV, 0⟩
/-- what the step at q puts in -/
def ent (st : Nat → W) (q : Nat) : MapEntry := lastE (st (q + 1)).mu
noncomputable def insAt (ops : Array Oper) (l : List Nat) (q : Nat) : Bool := match l[q]? with
  | none => false
  | some i => match ops[i]? with
    | none => false
    | some o => isIns o.op
theorem insAt_pos {q : Nat} {d : DO} (h : Pos ops l q d) : insAt ops l q = isIns d.o.op := by
  unfold insAt
  rw [h.ix.1]
  simp only [h.op]
theorem Reg.mu_step (R : Reg E r ops l st) {q : Nat} {d : DO} (h : Pos ops l q d) :
    (isIns d.o.op = false ∧ ((st (q + 1)).mu = (st q).mu ∨ (st (q + 1)).mu = closeMu (st q).mu ∨ MadeAt st q)) ∨
    (isIns d.o.op = true ∧ ∃ id es e, (st q).mu = .op id es ∧ ent st q = e ∧ ((st (q + 1)).mu = .op id (es ++ [e]) ∨ (st (q + 1)).mu = .se id (es ++ [e]))) := by
  cases (R.step h).step with
  | skip _ hi hw hp ho hm => exact .inl ⟨hi, .inl hm⟩
  | quiet _ hi hw v he hs hp ho hm => exact .inl ⟨hi, .inl hm⟩
  | alloc _ hi hw v B he hp ho hm => exact .inl ⟨hi, .inl hm⟩
  | made _ hi hw v B he hk hno hp ho hm => exact .inl ⟨hi, .inr (.inr ⟨hno, hm, by rw [(put_eq hp).1, skipB_nx]⟩)⟩
  | ins _ hi id es e hmu hd hg he hf ho hc =>
    refine .inr ⟨hi, id, es, e, hmu, ?_, ?_⟩
    · unfold ent
      rcases hc with ⟨_, h2⟩ | ⟨_, h2⟩ <;> rw [h2] <;> simp [lastE]
    · rcases hc with ⟨_, h2⟩ | ⟨_, h2⟩
      · exact .inr h2
      · exact .inl h2
  | loud _ hi wb hw hb hd hn ho hm => exact .inl ⟨hi, .inr (.inl hm)⟩
theorem Reg.rank_le (R : Reg E r ops l st) {q q' : Nat} (h : q ≤ q') (hq : q' ≤ l.length) : rank (st q).mu ≤ rank (st q').mu := by
  induction q' with
  | zero => have : q = 0 := by omega
            subst this; exact Nat.le_refl _
  | succ k ih =>
    by_cases e : q = k + 1
    · subst e; exact Nat.le_refl _
    · obtain ⟨d, hd⟩ := R.pos (q := k) (by omega)
      have h3 := ih (by omega) (by omega)
      refine Nat.le_trans h3 ?_
      rcases R.mu_step hd with ⟨_, h1 | h1 | h1⟩ | ⟨_, id, es, e, h1, _, h2 | h2⟩
      · rw [h1]; exact Nat.le_refl _
      · rw [h1]; exact rank_close _
      · rw [h1.1]; exact Nat.zero_le _
      · rw [h1, h2]; exact Nat.le_refl _
      · rw [h1, h2]; exact Nat.le_succ _
theorem Reg.made_one (R : Reg E r ops l st) {q q' : Nat} (h : MadeAt st q) (h' : MadeAt st q') (hq : q < l.length) (hq' : q' < l.length) : q = q' := by
  have key : ∀ a b : Nat, a < b → b < l.length → MadeAt st a → MadeAt st b → False := by
    intro a b hab hb ha hb'
    have := R.rank_le (q := a + 1) (q' := b) (by omega) (by omega)
    rw [ha.2.1, hb'.1] at this
    exact Nat.not_succ_le_zero 0 this
  rcases Nat.lt_trichotomy q q' with h1 | h1 | h1
  · exact (key _ _ h1 hq' h h').elim
  · exact h1
  · exact (key _ _ h1 hq h' h).elim
/-- all that is put in before q, in the walk's order -/
noncomputable def insB (ops : Array Oper) (l : List Nat) (q : Nat) : List Nat := (List.range q).filter fun p => insAt ops l p
theorem insB_succ (q : Nat) : insB ops l (q + 1) = if insAt ops l q = true then insB ops l q ++ [q] else insB ops l q := by
  unfold insB
  rw [List.range_succ, List.filter_append, List.filter_cons, List.filter_nil]
  cases insAt ops l q <;> simp
theorem Reg.mu_spec (R : Reg E r ops l st) : ∀ q, q ≤ l.length → match (st q).mu with
    | .no => insB ops l q = []
    | .op id es => (∃ q0, q0 < q ∧ MadeAt st q0 ∧ id = (st q0).s.nx) ∧ es = (insB ops l q).map (ent st)
    | .se id es => (∃ q0, q0 < q ∧ MadeAt st q0 ∧ id = (st q0).s.nx) ∧ es = (insB ops l q).map (ent st) ∧ insB ops l q ≠ []
    | .cl => True := by
  intro q
  induction q with
  | zero => intro _; rw [R.mu0]; rfl
  | succ q ih =>
    intro hq
    have ih := ih (by omega)
    obtain ⟨d, hd⟩ := R.pos (q := q) (by omega)
    have hat := insAt_pos hd
    have hsame : isIns d.o.op = false → insB ops l (q + 1) = insB ops l q := fun e => by rw [insB_succ, hat, e]; rfl
    rcases R.mu_step hd with ⟨hi, h1 | h1 | h1⟩ | ⟨hi, id, es, e, h1, he, h2 | h2⟩
    · rw [h1, hsame hi]
      split
      · rename_i e; rw [e] at ih; exact ih
      · rename_i id es e; rw [e] at ih; obtain ⟨⟨q0, a, b, c⟩, h⟩ := ih; exact ⟨⟨q0, by omega, b, c⟩, h⟩
      · rename_i id es e; rw [e] at ih; obtain ⟨⟨q0, a, b, c⟩, h⟩ := ih; exact ⟨⟨q0, by omega, b, c⟩, h⟩
      · trivial
    · rw [h1, hsame hi]
      cases hm : (st q).mu with
      | no => rw [hm] at ih; exact ih
      | op id es => rw [hm] at ih; obtain ⟨⟨q0, a, b, c⟩, h⟩ := ih; exact ⟨⟨q0, by omega, b, c⟩, h⟩
      | se id es => trivial
      | cl => trivial
    · rw [h1.2.1, hsame hi]
      rw [h1.1] at ih
      exact ⟨⟨q, by omega, h1, rfl⟩, by rw [ih]; rfl⟩
    · rw [h2, insB_succ, hat, hi, if_pos rfl]
      rw [h1] at ih
      obtain ⟨⟨q0, a, b, c⟩, h⟩ := ih
      exact ⟨⟨q0, by omega, b, c⟩, by rw [h, List.map_append, List.map_cons, List.map_nil, he]⟩
    · rw [h2, insB_succ, hat, hi, if_pos rfl]
      rw [h1] at ih
      obtain ⟨⟨q0, a, b, c⟩, h⟩ := ih
      exact ⟨⟨q0, by omega, b, c⟩, by rw [h, List.map_append, List.map_cons, List.map_nil, he], by simp⟩
/-- once it is sealed, nothing is put in any more -/
theorem Reg.ins_lt (R : Reg E r ops l st) {q p : Nat} {d : DO} (hq : 2 ≤ rank (st q).mu) (hp : Pos ops l p d) (hi : isIns d.o.op = true) : p < q := by
  rcases Nat.lt_or_ge p q with h | h
  · exact h
  · rcases R.mu_step hp with ⟨e, _⟩ | ⟨_, id, es, e, h1, _⟩
    · rw [hi] at e; cases e
    · have := R.rank_le h (Nat.le_of_lt hp.lt)
      rw [h1] at this
      have : rank (.op id es) = 1 := rfl
      omega
theorem Reg.mono (R : Reg E r ops l st) {q q' : Nat} (h : q ≤ q') (hq : q' ≤ l.length) : (st q).s.nx ≤ (st q').s.nx ∧ (st q').fr.nt = (st q).fr.nt := by
  induction q' with
  | zero => have : q = 0 := by omega
            subst this; exact ⟨Nat.le_refl _, rfl⟩
  | succ k ih =>
    by_cases e : q = k + 1
    · subst e; exact ⟨Nat.le_refl _, rfl⟩
    · obtain ⟨d, hd⟩ := R.pos (q := k) (by omega)
      obtain ⟨h1, _, h2⟩ := R.frame hd
      obtain ⟨h3, h4⟩ := ih (by omega) (by omega)
      exact ⟨by omega, by rw [h1, h4]⟩
theorem Reg.stays (R : Reg E r ops l st) {q q' : Nat} (h : q ≤ q') (hq : q' ≤ l.length) {τ : Tmp} (hd : ∀ k d, q ≤ k → k < q' → Pos ops l k d → d.o.dst ≠ some τ) : (st q').fr.tm.get τ = (st q).fr.tm.get τ := by
  induction q' with
  | zero => have : q = 0 := by omega
            subst this; rfl
  | succ k ih =>
    by_cases e : q = k + 1
    · subst e; rfl
    · obtain ⟨d, hp⟩ := R.pos (q := k) (by omega)
      rw [(R.frame hp).2.1 τ (hd k d (by omega) (by omega) hp)]
      exact ih (by omega) (by omega) (fun k' d' h1 h2 h3 => hd k' d' h1 (by omega) h3)
theorem mem_insB {p q : Nat} : p ∈ insB ops l q ↔ p < q ∧ insAt ops l p = true := by
  unfold insB
  rw [List.mem_filter, List.mem_range]
theorem insB_nodup (q : Nat) : (insB ops l q).Nodup := List.nodup_range.filter _
theorem Reg.ins_of (R : Reg E r ops l st) {p q : Nat} (hq : q ≤ l.length) (h : p ∈ insB ops l q) : ∃ d, Pos ops l p d ∧ isIns d.o.op = true := by
  obtain ⟨h1, h2⟩ := mem_insB.1 h
  obtain ⟨d, hd⟩ := R.pos (q := p) (by omega)
  exact ⟨d, hd, by rw [← insAt_pos hd]; exact h2⟩
theorem Reg.se_same (R : Reg E r ops l st) {c q id id' : Nat} {es es' : List MapEntry} (hq : c ≤ q) (hql : q ≤ l.length) (hc : (st c).mu = .se id' es') (h : (st q).mu = .se id es) : id = id' ∧ es = es' := by
  have h1 := R.mu_spec c (by omega)
  have h2 := R.mu_spec q hql
  rw [hc] at h1
  rw [h] at h2
  obtain ⟨⟨q0, a1, a2, rfl⟩, a3, _⟩ := h1
  obtain ⟨⟨q1, b1, b2, rfl⟩, b3, _⟩ := h2
  have := R.made_one a2 b2 (by omega) (by omega)
  subst this
  refine ⟨rfl, ?_⟩
  have : insB ops l q = insB ops l c := by
    have key : ∀ k, c + k ≤ l.length → insB ops l (c + k) = insB ops l c := by
      intro k
      induction k with
      | zero => intro _; rfl
      | succ k ih =>
        intro hk
        rw [show c + (k + 1) = (c + k) + 1 from rfl, insB_succ, ih (by omega)]
        obtain ⟨d, hd⟩ := R.pos (q := c + k) (by omega)
        rw [if_neg]
        intro e
        rw [insAt_pos hd] at e
        have := R.ins_lt (q := c) (by rw [hc]; exact Nat.le_refl 2) hd e
        omega
    have := key (q - c) (by omega)
    rwa [show c + (q - c) = q from by omega] at this
  rw [a3, b3, this]
/-- a writer's value stays -/
theorem Reg.wrote (R : Reg E r ops l st) {k q : Nat} {d : DO} (hk : Pos ops l k d) (hl : Ev.loud d.o.op = false) {v : Value} {BB : Option AB} (hv : LightV E r ops.toList (msk ops) d (st k) (st (k + 1)) v BB)
    {τ : Tmp} (hd : d.o.dst = some τ) (hq : k < q) (hql : q ≤ l.length) : (st q).fr.tm.get τ = some v := by
  obtain ⟨s, hp, _⟩ := hv.put
  rw [R.stays (q := k + 1) (by omega) hql fun k' d' h1 h2 h3 => ?_]
  · exact ((put_eq hp).2.2.2.2 τ hd).2
  · refine R.ssa.dst d hk.mem d' h3.mem τ hd fun e => ?_
    have := (R.injP h3 hk e).1; omega
/-- a read reads the same at the base of an earlier position -/
theorem Reg.reads (R : Reg E r ops l st) {d : DO} {v : Value} {nu : Mu} {tm : Tr Value} {j : Nat} {s : S} {rest : List (Nat × S)} : ∀ {q c : Nat}, c ≤ q → q ≤ l.length → (st c).old = (j, s) :: rest →
    (∀ k d', c ≤ k → k < q → Pos ops l k d' → Ev.loud d'.o.op = true → d.b.testBit d'.i = false) → stable E r d nu tm v (st q).old = true → reads v (ev d.o.op ⟨E, r, tm, addMu nu s⟩) = true := by
  intro q
  induction q with
  | zero =>
    intro c hc _ ho _ hs
    have : c = 0 := by omega
    subst this
    rw [ho] at hs
    have hs' : band (Ev.reads v (ev d.o.op ⟨E, r, tm, addMu nu s⟩)) (bor (d.b.testBit j) (stable E r d nu tm v rest)) = true := hs
    rw [band_eq, Bool.and_eq_true] at hs'
    exact hs'.1
  | succ q ih =>
    intro c hc hq ho hnl hs
    by_cases e : c = q + 1
    · subst e
      rw [ho] at hs
      have hs' : band (Ev.reads v (ev d.o.op ⟨E, r, tm, addMu nu s⟩)) (bor (d.b.testBit j) (stable E r d nu tm v rest)) = true := hs
      rw [band_eq, Bool.and_eq_true] at hs'
      exact hs'.1
    · refine ih (c := c) (by omega) (by omega) ho (fun k d' h1 h2 => hnl k d' h1 (by omega)) ?_
      obtain ⟨d', hp⟩ := R.pos (q := q) (by omega)
      cases hl : Ev.loud d'.o.op with
      | false => rw [← (R.light hp hl).1]; exact hs
      | true =>
        have hb := hnl q d' (by omega) (by omega) hp hl
        cases (R.step hp).step with
        | skip e => rw [e] at hl; cases hl
        | quiet e => rw [e] at hl; cases hl
        | alloc e => rw [e] at hl; cases hl
        | made e => rw [e] at hl; cases hl
        | ins e => rw [e] at hl; cases hl
        | loud _ _ wb _ _ _ _ hold =>
          rw [hold] at hs
          have hs' : band (Ev.reads v (ev d.o.op ⟨E, r, tm, addMu nu (st (q + 1)).s⟩)) (bor (d.b.testBit d'.i) (stable E r d nu tm v (st q).old)) = true := hs
          rw [band_eq, Bool.and_eq_true, bor_eq, hb, Bool.false_or] at hs'
          exact hs'.2
end
end Go.Ev

/-! Regions that draw their order, 5: what holds underway; committing. -/
namespace Go.Ev
open Go Go.Lib
set_option linter.unusedSimpArgs false
set_option linter.unusedVariables false

theorem put_other {a : Act} {dst : Option Tmp} {v : Value} {τ : Tmp} (h : dst ≠ some τ) : (a.put dst v).tmps[τ]? = a.tmps[τ]? := by
  cases dst with
  | none => rfl
  | some d =>
    show (a.tmps.setIfInBounds d v)[τ]? = _
    rw [Array.getElem?_setIfInBounds, if_neg (fun e => h (by rw [e]))]
theorem put_same {a : Act} {v : Value} {τ : Tmp} (h : τ < a.tmps.size) : (a.put (some τ) v).tmps[τ]? = some v := by
  show (a.tmps.setIfInBounds τ v)[τ]? = _
  rw [Array.getElem?_setIfInBounds, if_pos rfl, if_pos h]
theorem put_size (a : Act) (dst : Option Tmp) (v : Value) : (a.put dst v).tmps.size = a.tmps.size := by
  cases dst with
  | none => rfl
  | some d => simp [Act.put]
theorem put_defers (a : Act) (dst : Option Tmp) (v : Value) : (a.put dst v).defers = a.defers := by
  cases dst <;> rfl

/-- listed -/
def Ls (listed : Array Bool) (i : Nat) : Prop := listed[i]? = some true
/-- what is kept of an operation that has been done early -/
def Kept (E : Env) (r : Rec) (ops : Array Oper) (st : Nat → W) (Ω : Ren) (a : Act) (w : World) (q : Nat) (d : DO) : Prop :=
  ∃ v v' BB, LightV E r ops.toList (msk ops) d (st q) (st (q + 1)) v BB ∧ (∀ τ, d.o.dst = some τ → a.tmps[τ]? = some v') ∧ VR Ω v v' ∧
    ∀ B, BB = some B → B.pa = [] ∧ ∃ m, Ω (st q).s.nx = some m ∧ BR Ω B m w.heap[m.b]?
/-- the map that is filled, underway: q0 made it; Q has been put in -/
structure GrpF (ops : Array Oper) (l : List Nat) (st : Nat → W) (w0 : World) (c : Nat) (listed : Array Bool) (w : World) (Φ Ω : Ren) (q0 : Nat) (m : Loc) (es' : Array MapEntry) (clock : Nat) (Q : List Nat) : Prop where
  at_ : Ω (st q0).s.nx = some m
  lt : m.b < w.heap.size
  new : w0.heap.size ≤ m.b
  im : ¬ Im Φ (st c).s.h m.b
  apart : ∀ b m', (st c).s.nx ≤ b → b ≠ (st q0).s.nx → Ω b = some m' → m'.b ≠ m.b
  obj : w.heap[m.b]? = some (.map es' clock)
  nd : Q.Nodup
  mem : ∀ q, q ∈ Q ↔ ∃ d, Pos ops l q d ∧ isIns d.o.op = true ∧ Ls listed d.i
  rel : EUs Ω (Q.map (ent st)) es'.toList
/-- not all of it is put in yet, as far as one is -/
def Open (mu : Mu) : Prop := rank mu ≤ 1
structure Inv (P : Program) (bs : List Deferred) (E : Env) (r : Rec) (ops : Array Oper) (l : List Nat) (st : Nat → W) (Φ0 : Ren) (s0 : S) (w0 : World)
    (c : Nat) (listed : Array Bool) (a : Act) (w : World) (Φ Ω : Ren) (g : Act) : Prop where
  sz : listed.size = ops.size
  le : c ≤ l.length
  done : ∀ q d, q < c → Pos ops l q d → Ls listed d.i
  lt : ∀ q d, c ≤ q → Pos ops l q d → Ls listed d.i → loud d.o.op = false
  closed : ∀ q d, Pos ops l q d → Ls listed d.i → ∀ x, d.b.testBit x = true → Ls listed x
  hd : ∃ j s rest, (st c).old = (j, s) :: rest ∧ HRel Φ s.h w ∧ ∀ a B, s.h.get a = some B → (st c).s.h.get a = some B
  mus : ∀ id es, (st c).mu = .op id es → ∀ e ∈ es, (∃ u, VR Φ e.key u) ∧ ∃ u, VR Φ e.val u
  sea : ∀ id es, (st c).mu = .se id es → (st c).s.h.get id = some (.mapu es) ∧ ∃ m, Φ id = some m ∧ ∀ j s rest, (st c).old = (j, s) :: rest → s.h.get id = none ∧ ¬ Im Φ s.h m.b
  grp : Open (st c).mu → ∀ q0 d0, Pos ops l q0 d0 → MadeAt st q0 → Ls listed d0.i → ∃ m es' clock Q, GrpF ops l st w0 c listed w Φ Ω q0 m es' clock Q
  gin : ∀ q d, Pos ops l q d → isIns d.o.op = true → Ls listed d.i → ∃ q0 d0, Pos ops l q0 d0 ∧ MadeAt st q0 ∧ Ls listed d0.i
  rel : Rel Φ (st c).s w
  frg : FrR P bs Φ (st c).fr g
  dfs : a.defers = g.defers
  asz : a.tmps.size = g.tmps.size
  agree : ∀ τ, (∀ q d, c ≤ q → Pos ops l q d → Ls listed d.i → d.o.dst ≠ some τ) → a.tmps[τ]? = g.tmps[τ]?
  ext : Ext Φ0 s0 w0 Φ (st c).s w
  below : ∀ b, b < (st c).s.nx → Ω b = Φ b
  above : ∀ b m, (st c).s.nx ≤ b → Ω b = some m → (∃ q d, c ≤ q ∧ Pos ops l q d ∧ Ls listed d.i ∧ (st q).s.nx = b ∧ (st (q + 1)).s.nx = b + 1) ∧
    m.b < w.heap.size ∧ ¬ Im Φ (st c).s.h m.b ∧ w0.heap.size ≤ m.b
  apart : ∀ b b' m m', (st c).s.nx ≤ b → (st c).s.nx ≤ b' → b ≠ b' → Ω b = some m → Ω b' = some m' → m.b ≠ m'.b
  early : ∀ q d, c ≤ q → Pos ops l q d → Ls listed d.i → Kept E r ops st Ω a w q d

section
variable {P : Program} {E : Env} {r : Rec} {ops : Array Oper} {l : List Nat} {st : Nat → W} {Φ0 : Ren} {s0 : S} {w0 : World} {bs : List Deferred}
  {c : Nat} {listed : Array Bool} {a : Act} {w : World} {Φ Ω : Ren} {g : Act}

theorem Inv.leΩ (I : Inv P bs E r ops l st Φ0 s0 w0 c listed a w Φ Ω g) : Φ.le Ω := by
  intro b m hb
  rcases Nat.lt_or_ge b (st c).s.nx with h | h
  · rw [I.below b h]; exact hb
  · rw [I.rel.dom b h] at hb; cases hb

theorem insV_eq {op : Op} {tm : Tr Value} {id : Nat} {es : List MapEntry} {e : MapEntry} (h : insV E op tm id es = some e) :
    ∃ t m k v ti kt et ki, op = .insert t m k v ∧ E.ty.get t = some ti ∧ ti.kd = .map kt et ∧ E.ty.get kt = some ki ∧ opnd tm m = some (.map (some id)) ∧ opnd tm k = some e.key ∧ opnd tm v = some e.val ∧
      findU ki.kd e.key es = some none ∧ (∃ b, keyEqU ki.kd e.key e.key = some b) ∧ e.born = 0 := by
  unfold insV at h
  split at h
  · rename_i t m k v
    obtain ⟨ti, h1, h⟩ := ob_eq h
    obtain ⟨kt, et, h2, h⟩ := kMap_eq h
    obtain ⟨ki, h3, h⟩ := ob_eq h
    obtain ⟨mv, h4, h⟩ := ob_eq h
    obtain ⟨mr, rfl, h⟩ := vMap_eq h
    obtain ⟨r, rfl, h⟩ := ob_eq h
    obtain ⟨kv, h5, h⟩ := ob_eq h
    obtain ⟨vv, h6, h⟩ := ob_eq h
    obtain ⟨f, h7, h⟩ := ob_eq h
    obtain ⟨h8, h⟩ := gd_eq h
    cases h
    rw [band_eq, Bool.and_eq_true, band_eq, Bool.and_eq_true, beq_nat, Option.isNone_iff_eq_none, Option.isSome_iff_exists] at h8
    obtain ⟨⟨rfl, rfl⟩, h9⟩ := h8
    exact ⟨t, m, k, v, ti, kt, et, ki, rfl, h1, h2, h3, h4, h5, h6, h7, h9, rfl⟩
  · cases h
theorem Rel.shutU {Φ : Ren} {s : S} {w : World} {id : Nat} {es : List MapEntry} {m : Loc} (hr : Rel Φ s w) (hid : id < s.nx) (hm : Φ id = some m) (hi : ¬ Im Φ s.h m.b) (hb : BR Φ (.mapu es) m w.heap[m.b]?) :
    Rel Φ (sealS s id es) w ∧ ∀ β, Im Φ (sealS s id es).h β → Im Φ s.h β ∨ β = m.b := by
  have hget : ∀ a B, (sealS s id es).h.get a = some B → (a = id ∧ B = .mapu es) ∨ (a ≠ id ∧ s.h.get a = some B) := by
    intro a B h
    rw [sealS_h, get_set] at h
    by_cases e : a = id
    · rw [if_pos e] at h; cases h; exact .inl ⟨e, rfl⟩
    · rw [if_neg e] at h; exact .inr ⟨e, h⟩
  refine ⟨⟨⟨fun a B h => ?_, fun a a' B B' l l' h h' hne hl hl' he => ?_, fun a B p Q h hp hq => ?_, fun a B p Q l l' h hp hq hl hl' he => ?_⟩, by rw [sealS_nx]; exact hr.dom, fun a B p h hp => ?_, hr.gl⟩, fun β hβ => ?_⟩
  · rcases hget a B h with ⟨rfl, rfl⟩ | ⟨_, h1⟩
    · exact ⟨m, hm, hb⟩
    · exact hr.live a B h1
  · rcases hget a B h with ⟨rfl, rfl⟩ | ⟨_, h1⟩
    · rcases hget a' B' h' with ⟨rfl, rfl⟩ | ⟨_, h2⟩
      · exact absurd rfl hne
      · rw [hm] at hl; cases hl
        exact absurd ⟨a', B', l', h2, hl', he.symm⟩ hi
    · rcases hget a' B' h' with ⟨rfl, rfl⟩ | ⟨_, h2⟩
      · rw [hm] at hl'; cases hl'
        exact absurd ⟨a, B, l, h1, hl, he⟩ hi
      · exact hr.apart a a' B B' l l' h1 h2 hne hl hl' he
  · rcases hget a B h with ⟨rfl, rfl⟩ | ⟨_, h1⟩
    · cases hp
    · rcases hget p Q hq with ⟨rfl, rfl⟩ | ⟨_, h2⟩
      · trivial
      · exact hr.heir a B p Q h1 hp h2
  · rcases hget a B h with ⟨rfl, rfl⟩ | ⟨_, h1⟩
    · cases hp
    · rcases hget p Q hq with ⟨rfl, rfl⟩ | ⟨_, h2⟩
      · rw [hm] at hl'; cases hl'
        exact absurd ⟨a, B, l, h1, hl, he⟩ hi
      · exact hr.ends a B p Q l l' h1 hp h2 hl hl' he
  · rw [sealS_nx]
    rcases hget a B h with ⟨rfl, rfl⟩ | ⟨_, h1⟩
    · cases hp
    · exact hr.pas a B p h1 hp
  · obtain ⟨a, B, l, h1, h2, h3⟩ := hβ
    rcases hget a B h1 with ⟨rfl, rfl⟩ | ⟨_, h4⟩
    · rw [hm] at h2; cases h2; exact .inr h3.symm
    · exact .inl ⟨a, B, l, h4, h2, h3⟩

end
theorem Im.of_le {Φ Φ' : Ren} {h : Tr AB} {w : World} {β : Nat} (hh : HRel Φ h w) (hle : Φ.le Φ') (hi : Im Φ' h β) : Im Φ h β := by
  obtain ⟨a, B, l, h1, h2, h3⟩ := hi
  obtain ⟨l', g1, _⟩ := hh.live a B h1
  rw [hle _ _ g1] at h2; cases h2
  exact ⟨a, B, _, h1, g1, h3⟩
section
variable {P : Program} {E : Env} {r : Rec} {ops : Array Oper} {l : List Nat} {st : Nat → W} {Φ0 : Ren} {s0 : S} {w0 : World} {bs : List Deferred}
  {c : Nat} {listed : Array Bool} {a : Act} {w : World} {Φ Ω : Ren} {g : Act}
/-- the heap that a read goes by -/
theorem Inv.addMu (R : Reg E r ops l st) (I : Inv P bs E r ops l st Φ0 s0 w0 c listed a w Φ Ω g) {id : Nat} {es : List MapEntry} {q : Nat} (hq : c ≤ q) (hql : q ≤ l.length) (hmu : (st q).mu = .se id es)
    (hall : ∀ p d, Pos ops l p d → isIns d.o.op = true → Ls listed d.i) {j : Nat} {sh : S} {rest : List (Nat × S)} (ho : (st c).old = (j, sh) :: rest) :
    HRel Ω (Ev.addMu (.se id es) sh).h w ∧ ((st c).mu = .se id es → HRel Φ (Ev.addMu (.se id es) sh).h w) := by
  obtain ⟨j', sh', rest', ho', hhd, hsub⟩ := I.hd
  rw [ho] at ho'; cases ho'
  have hspec := R.mu_spec q hql
  rw [hmu] at hspec
  obtain ⟨⟨q0, hq0, hmade, rfl⟩, hes⟩ := hspec
  have put : ∀ {Ψ : Ren} {m : Loc}, HRel Ψ sh.h w → Ψ (st q0).s.nx = some m → BR Ψ (.mapu es) m w.heap[m.b]? → (¬ Im Ψ sh.h m.b) → HRel Ψ (Ev.addMu (.se (st q0).s.nx es) sh).h w := by
    intro Ψ m hh hm hb hi
    have hget : ∀ a B, (Ev.addMu (.se (st q0).s.nx es) sh).h.get a = some B → (a = (st q0).s.nx ∧ B = .mapu es) ∨ (a ≠ (st q0).s.nx ∧ sh.h.get a = some B) := by
      intro a B h
      have h' : (sh.h.set (st q0).s.nx (some (.mapu es))).get a = some B := h
      rw [get_set] at h'
      by_cases e : a = (st q0).s.nx
      · rw [if_pos e] at h'; cases h'; exact .inl ⟨e, rfl⟩
      · rw [if_neg e] at h'; exact .inr ⟨e, h'⟩
    refine ⟨fun a B h => ?_, fun a a' B B' l l' h h' hne hl hl' he => ?_, fun a B p Q h hp hq => ?_, fun a B p Q l l' h hp hq hl hl' he => ?_⟩
    · rcases hget a B h with ⟨rfl, rfl⟩ | ⟨_, h1⟩
      · exact ⟨m, hm, hb⟩
      · exact hh.live a B h1
    · rcases hget a B h with ⟨rfl, rfl⟩ | ⟨_, h1⟩
      · rcases hget a' B' h' with ⟨rfl, rfl⟩ | ⟨_, h2⟩
        · exact absurd rfl hne
        · rw [hm] at hl; cases hl
          exact absurd ⟨a', B', l', h2, hl', he.symm⟩ hi
      · rcases hget a' B' h' with ⟨rfl, rfl⟩ | ⟨_, h2⟩
        · rw [hm] at hl'; cases hl'
          exact absurd ⟨a, B, l, h1, hl, he⟩ hi
        · exact hh.apart a a' B B' l l' h1 h2 hne hl hl' he
    · rcases hget a B h with ⟨rfl, rfl⟩ | ⟨_, h1⟩
      · cases hp
      · rcases hget p Q hq with ⟨rfl, rfl⟩ | ⟨_, h2⟩
        · trivial
        · exact hh.heir a B p Q h1 hp h2
    · rcases hget a B h with ⟨rfl, rfl⟩ | ⟨_, h1⟩
      · cases hp
      · rcases hget p Q hq with ⟨rfl, rfl⟩ | ⟨_, h2⟩
        · rw [hm] at hl'; cases hl'
          exact absurd ⟨a, B, l, h1, hl, he⟩ hi
        · exact hh.ends a B p Q l l' h1 hp h2 hl hl' he
  have hle := I.leΩ
  have hrk := R.rank_le hq hql
  rw [hmu] at hrk
  have opens : Open (st c).mu → HRel Ω (Ev.addMu (.se (st q0).s.nx es) sh).h w := by
    intro hop
    obtain ⟨hes1, hes2⟩ := hes
    obtain ⟨p, hp⟩ := List.exists_mem_of_ne_nil _ hes2
    obtain ⟨dp, hdp, hip⟩ := R.ins_of hql hp
    obtain ⟨q1, d1, k1, k2, k3⟩ := I.gin p dp hdp hip (hall p dp hdp hip)
    have := R.made_one k2 hmade k1.lt (by omega)
    subst this
    obtain ⟨m, es', clock, Q, G⟩ := I.grp hop q1 d1 k1 k2 k3
    have hperm : Q.Perm (insB ops l q) := by
      rw [List.perm_ext_iff_of_nodup G.nd (insB_nodup q)]
      intro x
      rw [G.mem]
      constructor
      · rintro ⟨d, h1, h2, _⟩
        exact mem_insB.2 ⟨R.ins_lt (q := q) (by rw [hmu]; exact Nat.le_refl 2) h1 h2, by rw [insAt_pos h1]; exact h2⟩
      · intro hx
        obtain ⟨d, h1, h2⟩ := R.ins_of hql hx
        exact ⟨d, h1, h2, hall x d h1 h2⟩
    refine put (hhd.mono hle) G.at_ ⟨es', clock, Q.map (ent st), G.obj, by rw [hes1]; exact hperm.map _, G.rel⟩ fun hi => G.im ?_
    obtain ⟨a, B, l', g1, g2, g3⟩ := Im.of_le hhd hle hi
    exact ⟨a, B, l', hsub a B g1, g2, g3⟩
  cases hm : (st c).mu with
  | cl => rw [hm] at hrk; exact absurd (show 3 ≤ 2 from hrk) (by decide)
  | se id' es' =>
    have hs := R.se_same hq hql hm hmu
    obtain ⟨rfl, rfl⟩ := hs
    obtain ⟨g1, m, g2, g3⟩ := I.sea _ _ hm
    obtain ⟨g4, g5⟩ := g3 _ _ _ ho
    obtain ⟨m', g6, g7⟩ := I.rel.live _ _ g1
    rw [g2] at g6; cases g6
    have h1 := put hhd g2 g7 g5
    exact ⟨h1.mono hle, fun _ => h1⟩
  | no => exact ⟨opens (by rw [hm]; exact Nat.zero_le 1), fun e => by cases e⟩
  | op id' es' => exact ⟨opens (by rw [hm]; exact Nat.le_refl 1), fun e => by cases e⟩
end
section
variable {P : Program} {E : Env} {r : Rec} {ops : Array Oper} {l : List Nat} {st : Nat → W} {Φ0 : Ren} {s0 : S} {w0 : World} {bs : List Deferred}
  {c : Nat} {listed : Array Bool} {a : Act} {w : World} {Φ Ω : Ren} {g : Act}
theorem GrpF.next {c' q0 : Nat} {Φ' : Ren} {m : Loc} {es' : Array MapEntry} {clock : Nat} {Q : List Nat} (G : GrpF ops l st w0 c listed w Φ Ω q0 m es' clock Q) (him : ¬ Im Φ' (st c').s.h m.b) (hnx : (st c).s.nx ≤ (st c').s.nx) :
    GrpF ops l st w0 c' listed w Φ' Ω q0 m es' clock Q :=
  ⟨G.at_, G.lt, G.new, him, fun b m' hb => G.apart b m' (Nat.le_trans hnx hb), G.obj, G.nd, G.mem, G.rel⟩
theorem EU.restrict {Ω Φ : Ren} (hx : ∀ b l, Φ b = some l → Φ b = Ω b) {e e' : MapEntry} (h : EU Ω e e') (hk : ∃ u, VR Φ e.key u) (hv : ∃ u, VR Φ e.val u) : EU Φ e e' :=
  let ⟨_, h1⟩ := hk; let ⟨_, h2⟩ := hv; ⟨h.1.restrict hx h1, h.2.restrict hx h2⟩
theorem EUs.restrict {Ω Φ : Ren} (hx : ∀ b l, Φ b = some l → Φ b = Ω b) : ∀ {L l' : List MapEntry}, EUs Ω L l' → (∀ e ∈ L, (∃ u, VR Φ e.key u) ∧ ∃ u, VR Φ e.val u) → EUs Φ L l'
  | _, _, .nil, _ => .nil
  | _, _, .cons e e' L l' h hl, hm => .cons _ _ _ _ (h.restrict hx (hm e (List.mem_cons_self ..)).1 (hm e (List.mem_cons_self ..)).2) (EUs.restrict hx hl fun x hx' => hm x (List.mem_cons_of_mem _ hx'))
/-- who makes a block is not who makes the map -/
theorem Reg.made_ne (R : Reg E r ops l st) {q q0 : Nat} (hq : q < l.length) (hq0 : q0 < l.length) (h : MadeAt st q0) (hn : (st (q + 1)).s.nx = (st q).s.nx + 1) (hm : (st (q + 1)).mu = (st q).mu) : (st q).s.nx ≠ (st q0).s.nx := by
  intro e
  rcases Nat.lt_trichotomy q q0 with h1 | h1 | h1
  · have := (R.mono (q := q + 1) (q' := q0) (by omega) (by omega)).1; omega
  · subst h1
    rw [h.1, h.2.1] at hm; cases hm
  · have := (R.mono (q := q0 + 1) (q' := q) (by omega) (by omega)).1
    have := h.2.2
    omega

/-- ONE IS COMMITTED -/
theorem Inv.commit (hE : EOK P E) (R : Reg E r ops l st) (I : Inv P bs E r ops l st Φ0 s0 w0 c listed a w Φ Ω g) {d : DO} (hp : Pos ops l c d) (hL : Ls listed d.i) :
    ∃ Φ' g', Inv P bs E r ops l st Φ0 s0 w0 (c + 1) listed a w Φ' Ω g' := by
  have hlt := hp.lt
  have hlight := I.lt c d (Nat.le_refl _) hp hL
  obtain ⟨hold, _⟩ := R.light hp hlight
  obtain ⟨v, v', BB, hLV, hput, hvr, hB⟩ := I.early c d (Nat.le_refl _) hp hL
  have hle := I.leΩ
  have hdone : ∀ q d', q < c + 1 → Pos ops l q d' → Ls listed d'.i := by
    intro q d' hq hp'
    by_cases e : q = c
    · subst e
      have e1 := hp.ix.1; have e2 := hp'.ix.1
      rw [e1] at e2
      rw [← Option.some.inj e2]; exact hL
    · exact I.done q d' (by omega) hp'
  have hag : ∀ (g' : Act), (∀ τ, d.o.dst ≠ some τ → g'.tmps[τ]? = g.tmps[τ]?) → (∀ τ, d.o.dst = some τ → g'.tmps[τ]? = some v') →
      ∀ τ, (∀ q d', c + 1 ≤ q → Pos ops l q d' → Ls listed d'.i → d'.o.dst ≠ some τ) → a.tmps[τ]? = g'.tmps[τ]? := by
    intro g' h1 h2 τ hτ
    by_cases e : d.o.dst = some τ
    · rw [hput τ e, h2 τ e]
    · rw [h1 τ e]
      refine I.agree τ fun q d' hq hp' hL' => ?_
      by_cases e' : q = c
      · subst e'
        have e1 := hp.ix; have e2 := hp'.ix
        rw [e1.1] at e2
        have e3 := Option.some.inj e2.1
        rw [← e3, e1.2] at e2
        rw [← Option.some.inj e2.2]; exact e
      · exact hτ q d' (by omega) hp' hL'
  have hmv : ∀ {s s' : S} {fr' : AF}, Ev.put (st c).fr s v d.o.dst = some (fr', s') → ∀ τ, d.o.dst = some τ → (g.put d.o.dst v').tmps[τ]? = some v' := by
    intro s s' fr' hp' τ e
    have := ((put_eq hp').2.2.2.2 τ e).1
    rw [e]; exact put_same (by rw [I.frg.nt]; exact this)
  obtain ⟨j, sh, rest, ho, hhd, hsub⟩ := I.hd
  -- those that make nothing
  have quietly : ∀ (hp' : Ev.put (st c).fr (st c).s v d.o.dst = some ((st (c + 1)).fr, (st (c + 1)).s)), (st (c + 1)).mu = (st c).mu → VR Φ v v' → ∃ Φ' g', Inv P bs E r ops l st Φ0 s0 w0 (c + 1) listed a w Φ' Ω g' := by
    intro hp' hmu hv
    obtain ⟨e1, e2⟩ := put_sound hp' I.frg hv
    refine ⟨Φ, g.put d.o.dst v', ⟨I.sz, hlt, hdone, fun q d' hq => I.lt q d' (by omega), I.closed, ⟨j, sh, rest, by rw [hold]; exact ho, hhd, by rw [e1]; exact hsub⟩, by rw [hmu]; exact I.mus, by rw [hmu, e1, hold]; exact I.sea, ?_, I.gin,
      by rw [e1]; exact I.rel, e2, ?_, ?_, ?_, by rw [e1]; exact I.ext, by rw [e1]; exact I.below, ?_, by rw [e1]; exact I.apart, fun q d' hq => I.early q d' (by omega)⟩⟩
    · rw [hmu]
      intro hop q0 d0 h1 h2 h3
      obtain ⟨m, es', clock, Q, G⟩ := I.grp hop q0 d0 h1 h2 h3
      exact ⟨m, es', clock, Q, G.next (by rw [e1]; exact G.im) (by rw [e1]; exact Nat.le_refl _)⟩
    · rw [put_defers]; exact I.dfs
    · rw [put_size]; exact I.asz
    · exact hag _ (fun τ e => put_other e) (hmv hp')
    · rw [e1]
      intro b m hb hm
      obtain ⟨⟨q, d', h1, h2, h3, h4, h5⟩, h6⟩ := I.above b m hb hm
      refine ⟨⟨q, d', ?_, h2, h3, h4, h5⟩, h6⟩
      by_cases e : q = c
      · subst e; rw [e1] at h5; omega
      · omega
  have hres : ∀ {v''}, VR Φ v v'' → VR Φ v v' := fun h => hvr.restrict (fun b m hb => (by rw [hb, hle b m hb])) h
  cases hLV with
  | skip hi hw hp' hmu => exact quietly hp' hmu (hres VR.undef)
  | quiet _ hi hw he hs hp' hmu =>
    have hb : base (st c).old (st c).s = sh := by rw [ho]; rfl
    rw [hb] at he
    have hh : HRel Φ (Ev.addMu (rMu (msk ops) d (st c).mu) sh).h w := by
      unfold rMu
      rw [bi_eq]
      by_cases hk : Nat.beq (Nat.land (msk ops) d.b) (msk ops) = true
      · rw [if_pos hk]
        cases hm : (st c).mu with
        | no => exact hhd
        | op id es => exact hhd
        | cl => exact hhd
        | se id es =>
          refine (Inv.addMu R I (Nat.le_refl c) (Nat.le_of_lt hlt) hm (fun p d' hp'' hi' => ?_) ho).2 hm
          rw [beq_nat] at hk
          exact I.closed c d hp hL _ (land_bit hk (insMask_bit _ d' hp''.mem hi'))
      · rw [if_neg hk]; exact hhd
    obtain ⟨v'', h1, _⟩ := q_sound (P := P) (w := w) hE he hh (ops_sound (a := g) I.frg.tm d.o.op)
    exact quietly hp' hmu (hres h1)
  | alloc _ B hi hw he hp' hmu =>
    obtain ⟨hpa, m, hm, hbr⟩ := hB B rfl
    obtain ⟨_, hm1, hm2, hm3⟩ := I.above _ m (Nat.le_refl _) hm
    obtain ⟨v'', obj, dd, sz, _, _, hmk⟩ := a_sound (P := P) (w := w) hE (o := d.o) (s := (st c).s) (tm := (st c).fr.tm) (r := r) he I.rel.toHRel (ops_sound (a := g) I.frg.tm d.o.op)
    obtain ⟨k1, k2⟩ := hmk (Φ.add (st c).s.nx ⟨w.heap.size, 0, sz⟩) (Ren.le_add I.rel.dom _) (Ren.add_same _ _ _)
    have hx : ∀ b m', (Φ.add (st c).s.nx ⟨w.heap.size, 0, sz⟩) b = some m' → (Φ.add (st c).s.nx m) b = Ω b := by
      intro b m' hb
      by_cases e : b = (st c).s.nx
      · subst e; rw [Ren.add_same, hm]
      · rw [Ren.add_other _ _ e] at hb ⊢
        rw [hb, hle b m' hb]
    have hv := hvr.restrict hx k1
    have hbr' := hbr.restrict hx k2
    obtain ⟨e1, e2⟩ := put_sound hp' (I.frg.mono (Ren.le_add I.rel.dom m)) hv
    obtain ⟨p1, p2⟩ := I.rel.place (w' := w) B m hm2 (fun _ _ => rfl) hbr' hpa
    have hnx : (st (c + 1)).s.nx = (st c).s.nx + 1 := by rw [e1, newB_nx]
    have hladd := Ren.le_add I.rel.dom m
    refine ⟨Φ.add (st c).s.nx m, g.put d.o.dst v', ⟨I.sz, hlt, hdone, fun q d' hq => I.lt q d' (by omega), I.closed, ⟨j, sh, rest, by rw [hold]; exact ho, hhd.mono hladd, ?_⟩, ?_, ?_, ?_, I.gin, by rw [e1]; exact p1, e2, ?_, ?_, ?_, ?_,
      ?_, ?_, ?_, fun q d' hq => I.early q d' (by omega)⟩⟩
    · intro b B' hb
      rw [e1, newB_get]
      obtain ⟨l', g1, _⟩ := hhd.live b B' hb
      rw [if_neg (fun e => by rw [e, I.rel.dom _ (Nat.le_refl _)] at g1; cases g1)]
      exact hsub b B' hb
    · rw [hmu]
      intro id es hm' e he'
      obtain ⟨⟨u, h1⟩, u', h2⟩ := I.mus id es hm' e he'
      exact ⟨⟨u, h1.mono hladd⟩, u', h2.mono hladd⟩
    · rw [hmu, hold]
      intro id es hm'
      obtain ⟨h1, m', h2, h3⟩ := I.sea id es hm'
      refine ⟨?_, m', hladd _ _ h2, fun j' s' rest' ho' => ?_⟩
      · rw [e1, newB_get, if_neg (fun e => by rw [e, I.rel.dom _ (Nat.le_refl _)] at h2; cases h2)]
        exact h1
      · obtain ⟨h4, h5⟩ := h3 j' s' rest' ho'
        rw [ho] at ho'; cases ho'
        exact ⟨h4, fun hi' => h5 (Im.of_le hhd hladd hi')⟩
    · rw [hmu]
      intro hop q0 d0 h1 h2 h3
      obtain ⟨m', es', clock, Q, G⟩ := I.grp hop q0 d0 h1 h2 h3
      refine ⟨m', es', clock, Q, G.next ?_ (by rw [hnx]; exact Nat.le_succ _)⟩
      rw [e1]
      intro hi'
      rcases p2 _ hi' with h | h
      · exact G.im h
      · exact G.apart (st c).s.nx m (Nat.le_refl _) (R.made_ne hlt h1.lt h2 hnx hmu) hm h.symm
    · rw [put_defers]; exact I.dfs
    · rw [put_size]; exact I.asz
    · exact hag _ (fun τ e => put_other e) (hmv hp')
    · have hx := I.ext
      refine ⟨by rw [hnx]; have := hx.nx; omega, fun b hb => ?_, hx.size, hx.frame, ?_, hx.tape, hx.os, hx.output⟩
      · rw [Ren.add_other _ _ (by have := hx.nx; omega)]; exact hx.ag b hb
      · rw [e1]
        intro β hβ
        rcases p2 β hβ with h | h
        · exact hx.im β h
        · exact .inr (h ▸ hm3)
    · intro b hb
      rw [hnx] at hb
      by_cases e : b = (st c).s.nx
      · subst e; rw [Ren.add_same, hm]
      · rw [Ren.add_other _ _ e]; exact I.below b (by omega)
    · intro b m' hb hm'
      rw [hnx] at hb
      obtain ⟨⟨q, d', h1, h2, h3, h4, h5⟩, h6, h7, h8⟩ := I.above b m' (by omega) hm'
      refine ⟨⟨q, d', ?_, h2, h3, h4, h5⟩, h6, ?_, h8⟩
      · by_cases e : q = c
        · subst e; omega
        · omega
      · rw [e1]
        intro hi
        rcases p2 _ hi with h | h
        · exact h7 h
        · exact I.apart b (st c).s.nx m' m (by omega) (Nat.le_refl _) (by omega) hm' hm h
    · intro b b' m1 m2 h1 h2
      rw [hnx] at h1 h2
      exact I.apart b b' m1 m2 (by omega) (by omega)
  | made _ B hi hw he hk hno hp' hmu =>
    have hMA : MadeAt st c := ⟨hno, hmu, by rw [(put_eq hp').1, skipB_nx]⟩
    obtain ⟨m, es', clock, Q, G⟩ := I.grp (by rw [hno]; exact Nat.zero_le 1) c d hp hMA hL
    have hm := G.at_
    obtain ⟨v'', obj, dd, sz, _, _, hmk⟩ := a_sound (P := P) (w := w) hE (o := d.o) (s := (st c).s) (tm := (st c).fr.tm) (r := r) he I.rel.toHRel (ops_sound (a := g) I.frg.tm d.o.op)
    obtain ⟨k1, _⟩ := hmk (Φ.add (st c).s.nx ⟨w.heap.size, 0, sz⟩) (Ren.le_add I.rel.dom _) (Ren.add_same _ _ _)
    have hx : ∀ b m', (Φ.add (st c).s.nx ⟨w.heap.size, 0, sz⟩) b = some m' → (Φ.add (st c).s.nx m) b = Ω b := by
      intro b m' hb
      by_cases e : b = (st c).s.nx
      · subst e; rw [Ren.add_same, hm]
      · rw [Ren.add_other _ _ e] at hb ⊢
        rw [hb, hle b m' hb]
    have hv := hvr.restrict hx k1
    have hladd := Ren.le_add I.rel.dom m
    obtain ⟨e1, e2⟩ := put_sound hp' (I.frg.mono hladd) hv
    have hnx : (st (c + 1)).s.nx = (st c).s.nx + 1 := hMA.2.2
    have hh : (st (c + 1)).s.h = (st c).s.h := by rw [e1, skipB_h]
    refine ⟨Φ.add (st c).s.nx m, g.put d.o.dst v', ⟨I.sz, hlt, hdone, fun q d' hq => I.lt q d' (by omega), I.closed, ⟨j, sh, rest, by rw [hold]; exact ho, hhd.mono hladd, by rw [hh]; exact hsub⟩, ?_, ?_, ?_, I.gin,
      ⟨by rw [hh]; exact I.rel.toHRel.mono hladd, ?_, ?_, I.rel.gl.mono hladd⟩, e2, ?_, ?_, ?_, ?_, ?_, ?_, ?_, fun q d' hq => I.early q d' (by omega)⟩⟩
    · rw [hmu]
      intro id es e e' he'
      cases e; cases he'
    · rw [hmu]
      intro id es e; cases e
    · intro _ q0 d0 h1 h2 h3
      have := R.made_one h2 hMA h1.lt hlt
      subst this
      exact ⟨m, es', clock, Q, G.next (by rw [hh]; exact fun hi' => G.im (Im.of_le I.rel.toHRel hladd hi')) (by rw [hnx]; exact Nat.le_succ _)⟩
    · intro b hb
      rw [hnx] at hb
      rw [Ren.add_other _ _ (by omega)]
      exact I.rel.dom b (by omega)
    · intro b B' p hb hp'
      rw [hh] at hb
      rw [hnx]
      have := I.rel.pas b B' p hb hp'
      omega
    · rw [put_defers]; exact I.dfs
    · rw [put_size]; exact I.asz
    · exact hag _ (fun τ e => put_other e) (hmv hp')
    · have hx := I.ext
      refine ⟨by rw [hnx]; have := hx.nx; omega, fun b hb => ?_, hx.size, hx.frame, ?_, hx.tape, hx.os, hx.output⟩
      · rw [Ren.add_other _ _ (by have := hx.nx; omega)]; exact hx.ag b hb
      · rw [hh]
        intro β hβ
        exact hx.im β (Im.of_le I.rel.toHRel hladd hβ)
    · intro b hb
      rw [hnx] at hb
      by_cases e : b = (st c).s.nx
      · subst e; rw [Ren.add_same, hm]
      · rw [Ren.add_other _ _ e]; exact I.below b (by omega)
    · intro b m' hb hm'
      rw [hnx] at hb
      obtain ⟨⟨q, d', h1, h2, h3, h4, h5⟩, h6, h7, h8⟩ := I.above b m' (by omega) hm'
      refine ⟨⟨q, d', ?_, h2, h3, h4, h5⟩, h6, ?_, h8⟩
      · by_cases e : q = c
        · subst e; omega
        · omega
      · rw [hh]
        exact fun hi' => h7 (Im.of_le I.rel.toHRel hladd hi')
    · intro b b' m1 m2 h1 h2
      rw [hnx] at h1 h2
      exact I.apart b b' m1 m2 (by omega) (by omega)
  | ins hi id es e hmu hd hg he hf hc =>
    obtain ⟨t, mo, ko, vo, ti, kt, et, ki, _, _, _, _, _, hko, hvo, _, _, _⟩ := insV_eq he
    have hks : (∃ u, VR Φ e.key u) ∧ ∃ u, VR Φ e.val u := ⟨⟨_, opnd_sound (a := g) I.frg.tm hko⟩, ⟨_, opnd_sound (a := g) I.frg.tm hvo⟩⟩
    have hspec := R.mu_spec c (Nat.le_of_lt hlt)
    rw [hmu] at hspec
    obtain ⟨⟨q0, hq0, hMA, hid⟩, hes⟩ := hspec
    obtain ⟨d0, hd0⟩ := R.pos (q := q0) (by omega)
    obtain ⟨m, es', clock, Q, G⟩ := I.grp (by rw [hmu]; exact Nat.le_refl 1) q0 d0 hd0 hMA (I.done q0 d0 hq0 hd0)
    have hidlt : id < (st c).s.nx := by
      have := (R.mono (q := q0 + 1) (q' := c) (by omega) (Nat.le_of_lt hlt)).1
      have := hMA.2.2
      omega
    have hΦid : Φ id = some m := by rw [← I.below id hidlt, hid]; exact G.at_
    have hagr : ∀ τ, (∀ q d', c + 1 ≤ q → Pos ops l q d' → Ls listed d'.i → d'.o.dst ≠ some τ) → a.tmps[τ]? = g.tmps[τ]? :=
      hag g (fun _ _ => rfl) (fun τ e' => by rw [hd] at e'; cases e')
    have habv : ∀ (hn : (st (c + 1)).s.nx = (st c).s.nx), ∀ b m', (st (c + 1)).s.nx ≤ b → Ω b = some m' → (∃ q d', c + 1 ≤ q ∧ Pos ops l q d' ∧ Ls listed d'.i ∧ (st q).s.nx = b ∧ (st (q + 1)).s.nx = b + 1) ∧
        m'.b < w.heap.size ∧ ¬ Im Φ (st c).s.h m'.b ∧ w0.heap.size ≤ m'.b := by
      intro hn b m' hb hm'
      rw [hn] at hb
      obtain ⟨⟨q, d', h1, h2, h3, h4, h5⟩, h6⟩ := I.above b m' hb hm'
      refine ⟨⟨q, d', ?_, h2, h3, h4, h5⟩, h6⟩
      by_cases e : q = c
      · subst e; omega
      · omega
    rcases hc with ⟨hs, hm'⟩ | ⟨hs, hm'⟩
    · -- it is sealed
      have hnx : (st (c + 1)).s.nx = (st c).s.nx := by rw [hs, sealS_nx]
      have hspec' := R.mu_spec (c + 1) hlt
      rw [hm'] at hspec'
      obtain ⟨_, hes', _⟩ := hspec'
      have hall : ∀ p d', Pos ops l p d' → isIns d'.o.op = true → Ls listed d'.i := fun p d' h1 h2 =>
        hdone p d' (R.ins_lt (q := c + 1) (by rw [hm']; exact Nat.le_refl 2) h1 h2) h1
      have hperm : Q.Perm (insB ops l (c + 1)) := by
        rw [List.perm_ext_iff_of_nodup G.nd (insB_nodup (c + 1))]
        intro x
        rw [G.mem]
        constructor
        · rintro ⟨d', h1, h2, _⟩
          exact mem_insB.2 ⟨R.ins_lt (q := c + 1) (by rw [hm']; exact Nat.le_refl 2) h1 h2, by rw [insAt_pos h1]; exact h2⟩
        · intro hx
          obtain ⟨d', h1, h2⟩ := R.ins_of hlt hx
          exact ⟨d', h1, h2, hall x d' h1 h2⟩
      have hmem : ∀ x ∈ Q.map (ent st), (∃ u, VR Φ x.key u) ∧ ∃ u, VR Φ x.val u := by
        intro x hx
        have : x ∈ es ++ [e] := by rw [hes']; exact (hperm.map _).mem_iff.1 hx
        rcases List.mem_append.1 this with h | h
        · exact I.mus id es hmu x h
        · rw [List.mem_singleton.1 h]; exact hks
      have hbr : BR Φ (.mapu (es ++ [e])) m w.heap[m.b]? :=
        ⟨es', clock, Q.map (ent st), G.obj, by rw [hes']; exact hperm.map _, G.rel.restrict (fun b l' hb => (by rw [hb, hle b l' hb])) hmem⟩
      obtain ⟨p1, p2⟩ := I.rel.shutU hidlt hΦid G.im hbr
      rw [← hs] at p1 p2
      have hnone : sh.h.get id = none := by
        cases hg' : sh.h.get id with
        | none => rfl
        | some B => exact absurd ⟨id, B, m, hsub id B hg', hΦid, rfl⟩ G.im
      have hnim : ¬ Im Φ sh.h m.b := fun ⟨b, B, l', h1, h2, h3⟩ => G.im ⟨b, B, l', hsub b B h1, h2, h3⟩
      refine ⟨Φ, g, ⟨I.sz, hlt, hdone, fun q d' hq => I.lt q d' (by omega), I.closed, ⟨j, sh, rest, by rw [hold]; exact ho, hhd, ?_⟩, ?_, ?_, ?_, I.gin, p1, by rw [hf]; exact I.frg, I.dfs, I.asz, hagr, ?_, by rw [hnx]; exact I.below, ?_,
        by rw [hnx]; exact I.apart, fun q d' hq => I.early q d' (by omega)⟩⟩
      · intro b B hb
        rw [hs, sealS_h, get_set, if_neg (fun e' => by rw [e', hnone] at hb; cases hb)]
        exact hsub b B hb
      · rw [hm']; intro id' es'' e'; cases e'
      · rw [hm', hold]
        intro id' es'' e'
        cases e'
        refine ⟨by rw [hs, sealS_h, get_set_same], m, hΦid, fun j' s' rest' ho' => ?_⟩
        rw [ho] at ho'; cases ho'
        exact ⟨hnone, hnim⟩
      · rw [hm']; intro hop; exact absurd (show 2 ≤ 1 from hop) (by decide)
      · have hx := I.ext
        refine ⟨by rw [hnx]; exact hx.nx, hx.ag, hx.size, hx.frame, fun β hβ => ?_, hx.tape, hx.os, hx.output⟩
        rcases p2 β hβ with h | h
        · exact hx.im β h
        · exact .inr (h ▸ G.new)
      · intro b m1 hb hm1
        obtain ⟨h1, h2, h3, h4⟩ := habv hnx b m1 hb hm1
        refine ⟨h1, h2, fun hi' => ?_, h4⟩
        rcases p2 _ hi' with h | h
        · exact h3 h
        · exact G.apart b m1 (by omega) (by omega) hm1 h
    · refine ⟨Φ, g, ⟨I.sz, hlt, hdone, fun q d' hq => I.lt q d' (by omega), I.closed, ⟨j, sh, rest, by rw [hold]; exact ho, hhd, by rw [hs]; exact hsub⟩, ?_, ?_, ?_, I.gin, by rw [hs]; exact I.rel, by rw [hf]; exact I.frg, I.dfs, I.asz, hagr,
        by rw [hs]; exact I.ext, by rw [hs]; exact I.below, ?_, by rw [hs]; exact I.apart, fun q d' hq => I.early q d' (by omega)⟩⟩
      · rw [hm']
        intro id' es'' e' x hx
        cases e'
        rcases List.mem_append.1 hx with h | h
        · exact I.mus id es hmu x h
        · rw [List.mem_singleton.1 h]; exact hks
      · rw [hm']; intro id' es'' e'; cases e'
      · intro _ q1 d1 h1 h2 h3
        have := R.made_one h2 hMA h1.lt (by omega)
        subst this
        exact ⟨m, es', clock, Q, G.next (by rw [hs]; exact G.im) (by rw [hs]; exact Nat.le_refl _)⟩
      · intro b m1 hb hm1
        rw [hs]
        exact habv (by rw [hs]) b m1 hb hm1
end
end Go.Ev

/-! Regions that draw their order, 6: a light one done early; a loud one. -/
namespace Go.Ev
open Go Go.Lib
set_option linter.unusedSimpArgs false
set_option linter.unusedVariables false
section
variable {P : Program} {E : Env} {r : Rec} {ops : Array Oper} {l : List Nat} {st : Nat → W} {Φ0 : Ren} {s0 : S} {w0 : World} {bs : List Deferred}
  {c : Nat} {listed : Array Bool} {a : Act} {w : World} {Φ Ω : Ren} {g : Act}

theorem Ls.set {i j : Nat} (h : Ls listed i) : Ls (listed.setIfInBounds j true) i := by
  unfold Ls at *
  rw [Array.getElem?_setIfInBounds]
  by_cases e : j = i
  · rw [if_pos e]
    subst e
    rcases Nat.lt_or_ge j listed.size with h' | h'
    · rw [if_pos h']
    · rw [Array.getElem?_eq_none h'] at h; cases h
  · rw [if_neg e]; exact h
theorem Ls.same {j : Nat} (h : j < listed.size) : Ls (listed.setIfInBounds j true) j := by
  unfold Ls
  rw [Array.getElem?_setIfInBounds, if_pos rfl, if_pos h]
theorem Ls.of_set {i j : Nat} (h : Ls (listed.setIfInBounds j true) i) : i = j ∨ Ls listed i := by
  unfold Ls at *
  rw [Array.getElem?_setIfInBounds] at h
  by_cases e : j = i
  · exact .inl e.symm
  · rw [if_neg e] at h; exact .inr h

/-- whoever writes τ is ordered against d -/
def Tied (ops : Array Oper) (l : List Nat) (q : Nat) (d : DO) (τ : Tmp) : Prop :=
  ∀ k d', Pos ops l k d' → d'.o.dst = some τ → k = q ∨ d.b.testBit d'.i = true ∨ d'.b.testBit d.i = true
theorem Reg.tied (R : Reg E r ops l st) {q : Nat} {d : DO} (hp : Pos ops l q d) {τ : Tmp} (h : τ ∈ opTmps d.o.op) : Tied ops l q d τ := by
  intro k d' hk hd
  by_cases e : d.i = d'.i
  · exact .inl (R.injP hk hp e.symm).1
  · exact .inr (R.ssa.nam d' hk.mem d hp.mem τ hd e h)
theorem Reg.tiedG (R : Reg E r ops l st) {q : Nat} {d : DO} (hp : Pos ops l q d) {j : Nat} {b : Bool} (hg : d.o.guard = some (j, b)) {g0 : Oper} (h0 : ops[j]? = some g0) {τ : Tmp} (hd : g0.dst = some τ) : Tied ops l q d τ := by
  intro k d' hk hd'
  have hb := R.ssa.guard d hp.mem j b hg
  obtain ⟨kj, dj, _, hj, e⟩ := R.pre hp hb
  have ho := hj.op
  rw [e, h0] at ho
  have ho' := Option.some.inj ho
  by_cases e2 : d'.i = dj.i
  · rw [e2, e]; exact .inr (.inl hb)
  · exact absurd hd' (R.ssa.dst dj hj.mem d' hk.mem τ (by rw [← ho']; exact hd) e2)

theorem Inv.reads (R : Reg E r ops l st) (I : Inv P bs E r ops l st Φ0 s0 w0 c listed a w Φ Ω g) {q : Nat} {d : DO} (hp : Pos ops l q d) (hq : c ≤ q) (hn : ¬ Ls listed d.i)
    (hb : ∀ x, d.b.testBit x = true → Ls listed x) {τ : Tmp} (hτ : Tied ops l q d τ) {u : Value} (hu : (st q).fr.tm.get τ = some u) :
    ∃ u', a.tmps[τ]? = some u' ∧ VR Ω u u' ∧ (q = c → VR Φ u u') := by
  by_cases ex : ∃ k d', c ≤ k ∧ Pos ops l k d' ∧ Ls listed d'.i ∧ d'.o.dst = some τ
  · obtain ⟨k, d', h1, h2, h3, h4⟩ := ex
    have hk : k < q := by
      rcases hτ k d' h2 h4 with e | e | e
      · subst e
        have e1 := hp.ix; have e2 := h2.ix
        rw [e1.1] at e2
        rw [← Option.some.inj e2.1] at h3
        exact absurd h3 hn
      · obtain ⟨k0, d0, g1, g2, g3⟩ := R.pre hp e
        have := (R.injP g2 h2 g3).1; omega
      · exact absurd (I.closed k d' h2 h3 _ e) hn
    obtain ⟨v, v', BB, hLV, hput, hvr, _⟩ := I.early k d' h1 h2 h3
    have := R.wrote h2 (I.lt k d' h1 h2 h3) hLV h4 hk (Nat.le_of_lt hp.lt)
    rw [hu] at this
    cases this
    exact ⟨v', hput τ h4, hvr, fun e => by omega⟩
  · have hag := I.agree τ fun k d' h1 h2 h3 h4 => ex ⟨k, d', h1, h2, h3, h4⟩
    have hst := R.stays (τ := τ) hq (Nat.le_of_lt hp.lt) fun k d' h1 h2 h3 h4 => by
      rcases hτ k d' h3 h4 with e | e | e
      · omega
      · exact ex ⟨k, d', h1, h3, hb _ e, h4⟩
      · obtain ⟨k0, d0, g1, g2, g3⟩ := R.pre h3 e
        have := (R.injP g2 hp g3).1; omega
    rw [hst] at hu
    obtain ⟨u', g1, g2⟩ := I.frg.tm.get τ u hu
    exact ⟨u', by rw [hag]; exact g1, g2.mono I.leΩ, fun _ => g2⟩

theorem ops_of {Ψ : Ren} {tm : Tr Value} {op : Op} (hgl : GlR Ψ) (h : ∀ τ ∈ opTmps op, ∀ u, tm.get τ = some u → ∃ u', a.tmps[τ]? = some u' ∧ VR Ψ u u') : OpsR Ψ tm a.eval op := by
  intro x hx v hv
  cases x with
  | tmp t =>
    have hv' : tm.get t = some v := hv
    obtain ⟨v', h1, h2⟩ := h t (mem_opTmps hx) v hv'
    have : a.eval (.tmp t) = v' := by simp [Act.eval, Array.getD_eq_getD_getElem?, h1]
    rw [this]; exact h2
  | const u =>
    obtain ⟨h1, h2⟩ := gd_eq (show gd (plainC u) (some u) = some v from hv)
    cases h2; exact VR.plainC h1
  | global g => exact global_sound hgl hv
  | func f => cases hv; exact .func _ _ _ _ _ .nil .nil
theorem want_core {Ψ : Ren} {fr : AF} {o : Oper} {b : Bool} (h : want ops.toList fr o = some b)
    (hr : ∀ j b0 g0 τ v, o.guard = some (j, b0) → ops[j]? = some g0 → g0.dst = some τ → fr.tm.get τ = some v → ∃ v', a.tmps[τ]? = some v' ∧ VR Ψ v v') : Region.wanted o (yielded ops a.tmps) = b := by
  unfold want at h
  unfold Region.wanted
  cases hg : o.guard with
  | none => rw [hg] at h; cases h; rfl
  | some p =>
    obtain ⟨j, c⟩ := p
    rw [hg] at h
    have h' : want1 ops.toList fr.tm j c = some b := h
    obtain ⟨g, h1, h2⟩ := ob_eq h'
    obtain ⟨d, h3, h4⟩ := ob_eq h2
    obtain ⟨v, h5, h6⟩ := ob_eq h4
    cases h6
    rw [nth_eq] at h1
    have h1' : ops[j]? = some g := by simpa using h1
    obtain ⟨v', h7, h8⟩ := hr j c g d v hg h1' h3 h5
    show (yielded ops a.tmps j == some c) = isB c v
    rw [← isB_sound (b := c) h8]
    simp only [yielded, h1', Option.bind_some, h3, h7]
    cases v' <;> rfl

/-- ONE IS DONE EARLY -/
theorem Inv.add (R : Reg E r ops l st) (I : Inv P bs E r ops l st Φ0 s0 w0 c listed a w Φ Ω g) {q : Nat} {d : DO} (hp : Pos ops l q d) (hq : c ≤ q) (hn : ¬ Ls listed d.i)
    (hb : ∀ x, d.b.testBit x = true → Ls listed x) (hl : Ev.loud d.o.op = false) {v v' : Value} {BB : Option AB} (hLV : LightV E r ops.toList (msk ops) d (st q) (st (q + 1)) v BB) {w' : World} {Ω' : Ren} (X : Nat → Prop)
    (hw : w.heap.size ≤ w'.heap.size) (hh : ∀ β, β < w.heap.size → ¬ X β → w'.heap[β]? = w.heap[β]?) (hr : Rel Φ (st c).s w') (hx : Ext Φ0 s0 w0 Φ (st c).s w')
    (hXi : ∀ β, X β → ¬ Im Φ (st c).s.h β)
    (hXe : ∀ q' d' v B, c ≤ q' → Pos ops l q' d' → Ls listed d'.i → LightV E r ops.toList (msk ops) d' (st q') (st (q' + 1)) v (some B) → ∀ m, Ω (st q').s.nx = some m → ¬ X m.b)
    (hΩ : Ω.le Ω') (hbel : ∀ b, b < (st c).s.nx → Ω' b = Ω b)
    (hnew : ∀ b m, Ω' b = some m → Ω b = some m ∨ (b = (st q).s.nx ∧ (st (q + 1)).s.nx = (st q).s.nx + 1 ∧ m.b = w.heap.size ∧ w.heap.size < w'.heap.size))
    (hv : VR Ω' v v') (hB : ∀ B, BB = some B → B.pa = [] ∧ ∃ m, Ω' (st q).s.nx = some m ∧ BR Ω' B m w'.heap[m.b]?)
    (hgrp : Open (st c).mu → ∀ q0 d0, Pos ops l q0 d0 → MadeAt st q0 → Ls (listed.setIfInBounds d.i true) d0.i → ∃ m es' clock Q, GrpF ops l st w0 c (listed.setIfInBounds d.i true) w' Φ Ω' q0 m es' clock Q)
    (hgin : ∀ q' d', Pos ops l q' d' → isIns d'.o.op = true → Ls (listed.setIfInBounds d.i true) d'.i → ∃ q0 d0, Pos ops l q0 d0 ∧ MadeAt st q0 ∧ Ls (listed.setIfInBounds d.i true) d0.i) :
    Inv P bs E r ops l st Φ0 s0 w0 c (listed.setIfInBounds d.i true) (a.put d.o.dst v') w' Φ Ω' g := by
  have hsz : d.i < listed.size := by rw [I.sz]; exact hp.lts
  have hof : ∀ q' d', Pos ops l q' d' → Ls (listed.setIfInBounds d.i true) d'.i → (q' = q ∧ d' = d) ∨ Ls listed d'.i := by
    intro q' d' hp' h
    rcases h.of_set with e | e
    · exact .inl (R.injP hp' hp e)
    · exact .inr e
  refine ⟨by simp [I.sz], I.le, fun q' d' h1 h2 => (I.done q' d' h1 h2).set, ?_, ?_, ?_, I.mus, I.sea, hgrp, hgin, hr, I.frg, ?_, ?_, ?_, hx, ?_, ?_, ?_, ?_⟩
  · intro q' d' h1 h2 h3
    rcases hof q' d' h2 h3 with ⟨_, rfl⟩ | h
    · exact hl
    · exact I.lt q' d' h1 h2 h
  · intro q' d' h2 h3 x hx'
    rcases hof q' d' h2 h3 with ⟨_, rfl⟩ | h
    · exact (hb x hx').set
    · exact (I.closed q' d' h2 h x hx').set
  · obtain ⟨j, s, rest, h1, h2, h3⟩ := I.hd
    exact ⟨j, s, rest, h1, h2.same fun β hi => hh β (Im.lt h2 hi) fun hX => hXi β hX (let ⟨b, B, m, k1, k2, k3⟩ := hi; ⟨b, B, m, h3 b B k1, k2, k3⟩), h3⟩
  · rw [put_defers]; exact I.dfs
  · rw [put_size]; exact I.asz
  · intro τ hτ
    have hne := hτ q d hq hp (Ls.same hsz)
    rw [put_other hne]
    exact I.agree τ fun q' d' h1 h2 h3 => hτ q' d' h1 h2 h3.set
  · intro b hb'
    rw [hbel b hb']; exact I.below b hb'
  · intro b m h1 h2
    rcases hnew b m h2 with h | ⟨e1, e2, e3, e4⟩
    · obtain ⟨⟨q', d', g1, g2, g3, g4, g5⟩, g6, g7, g8⟩ := I.above b m h1 h
      exact ⟨⟨q', d', g1, g2, g3.set, g4, g5⟩, by omega, g7, g8⟩
    · refine ⟨⟨q, d, hq, hp, Ls.same hsz, e1.symm, by rw [e2, e1]⟩, by omega, fun hi => ?_, by rw [e3]; exact I.ext.size⟩
      have := Im.lt I.rel.toHRel hi
      omega
  · intro b b' m m' h1 h2 hne hm hm'
    rcases hnew b m hm with h | ⟨e1, _, e3, _⟩
    · rcases hnew b' m' hm' with h' | ⟨e1', _, e3', _⟩
      · exact I.apart b b' m m' h1 h2 hne h h'
      · have := (I.above b m h1 h).2.1; omega
    · rcases hnew b' m' hm' with h' | ⟨e1', _, e3', _⟩
      · have := (I.above b' m' h2 h').2.1; omega
      · omega
  · intro q' d' h1 h2 h3
    rcases hof q' d' h2 h3 with ⟨rfl, rfl⟩ | h
    · refine ⟨v, v', BB, hLV, fun τ e => ?_, hv, hB⟩
      obtain ⟨s, hp', _⟩ := hLV.put
      have h4 := ((put_eq hp').2.2.2.2 τ e).1
      rw [(R.mono h1 (Nat.le_of_lt h2.lt)).2, ← I.frg.nt, ← I.asz] at h4
      rw [e]; exact put_same h4
    · obtain ⟨u, u', BB', k1, k2, k3, k4⟩ := I.early q' d' h1 h2 h
      refine ⟨u, u', BB', k1, fun τ e => ?_, k3.mono hΩ, fun B hB' => ?_⟩
      · have : d.o.dst ≠ some τ := R.ssa.dst d' h2.mem d hp.mem τ e fun e' => hn (by rw [e']; exact h)
        rw [put_other this]; exact k2 τ e
      · obtain ⟨g1, m, g2, g3⟩ := k4 B hB'
        have hlt := (I.above _ m (R.mono h1 (Nat.le_of_lt h2.lt)).1 g2).2.1
        subst hB'
        exact ⟨g1, m, hΩ _ _ g2, by rw [hh _ hlt (hXe q' d' u B h1 h2 h k1 m g2)]; exact g3.mono hΩ⟩

/-- one that neither makes the map nor puts something in -/
theorem Inv.grp_plain (R : Reg E r ops l st) (I : Inv P bs E r ops l st Φ0 s0 w0 c listed a w Φ Ω g) {q : Nat} {d : DO} (hp : Pos ops l q d) (hi : isIns d.o.op = false) (hm : (st (q + 1)).mu = (st q).mu) {w' : World} {Ω' : Ren}
    (hw : w.heap.size ≤ w'.heap.size) (hh : ∀ β, β < w.heap.size → w'.heap[β]? = w.heap[β]?) (hΩ : Ω.le Ω')
    (hnew : ∀ b m, Ω' b = some m → Ω b = some m ∨ (b = (st q).s.nx ∧ (st (q + 1)).s.nx = (st q).s.nx + 1 ∧ m.b = w.heap.size ∧ w.heap.size < w'.heap.size)) :
    (Open (st c).mu → ∀ q0 d0, Pos ops l q0 d0 → MadeAt st q0 → Ls (listed.setIfInBounds d.i true) d0.i → ∃ m es' clock Q, GrpF ops l st w0 c (listed.setIfInBounds d.i true) w' Φ Ω' q0 m es' clock Q) ∧
    (∀ q' d', Pos ops l q' d' → isIns d'.o.op = true → Ls (listed.setIfInBounds d.i true) d'.i → ∃ q0 d0, Pos ops l q0 d0 ∧ MadeAt st q0 ∧ Ls (listed.setIfInBounds d.i true) d0.i) := by
  refine ⟨fun hop q0 d0 h1 h2 h3 => ?_, fun q' d' h1 h2 h3 => ?_⟩
  · have h4 : Ls listed d0.i := by
      rcases h3.of_set with e | e
      · exfalso
        obtain ⟨rfl, rfl⟩ := R.injP h1 hp e
        rw [h2.1, h2.2.1] at hm; cases hm
      · exact e
    obtain ⟨m, es', clock, Q, G⟩ := I.grp hop q0 d0 h1 h2 h4
    refine ⟨m, es', clock, Q, hΩ _ _ G.at_, by have := G.lt; omega, G.new, G.im, fun b m' hb hne hm' => ?_, by rw [hh _ G.lt]; exact G.obj, G.nd, fun x => ?_, G.rel.mono hΩ⟩
    · rcases hnew b m' hm' with h | ⟨_, _, e3, _⟩
      · exact G.apart b m' hb hne h
      · have := G.lt; omega
    · rw [G.mem]
      constructor
      · rintro ⟨d', k1, k2, k3⟩; exact ⟨d', k1, k2, k3.set⟩
      · rintro ⟨d', k1, k2, k3⟩
        refine ⟨d', k1, k2, ?_⟩
        rcases k3.of_set with e | e
        · obtain ⟨_, rfl⟩ := R.injP k1 hp e
          rw [hi] at k2; cases k2
        · exact e
  · have h4 : Ls listed d'.i := by
      rcases h3.of_set with e | e
      · obtain ⟨_, rfl⟩ := R.injP h1 hp e
        rw [hi] at h2; cases h2
      · exact e
    obtain ⟨q0, d0, k1, k2, k3⟩ := I.gin q' d' h1 h2 h4
    exact ⟨q0, d0, k1, k2, k3.set⟩

theorem HRel.empty (Ψ : Ren) (w : World) : HRel Ψ (.e : Tr AB) w :=
  ⟨(fun a B h => by rw [get_e] at h; cases h), (fun a a' B B' m m' h => by rw [get_e] at h; cases h), (fun a B p P h => by rw [get_e] at h; cases h), (fun a B p P m m' h => by rw [get_e] at h; cases h)⟩
theorem reads_eq {v : Value} {x : R} (h : Ev.reads v x = true) : x = .q (some v) := by
  unfold Ev.reads at h
  split at h
  · rw [veq_eq h]
  · cases h
theorem keyEqU_form {kd : TypeDesc} {x y : Value} {b : Bool} (h : keyEqU kd x y = some b) :
    (∃ i k a a', kd = .int i ∧ x = .int k a ∧ y = .int k a' ∧ b = iEq a a') ∨ (∃ s s', kd = .string ∧ x = .string s ∧ y = .string s' ∧ b = sEq s.data.toList s'.data.toList) := by
  unfold keyEqU at h
  split at h
  · obtain ⟨h1, h2⟩ := gd_eq h
    rw [kEq_eq] at h1; subst h1
    cases h2
    exact .inl ⟨_, _, _, _, rfl, rfl, rfl, rfl⟩
  · cases h
    exact .inr ⟨_, _, rfl, rfl, rfl, rfl⟩
  · cases h
theorem keyEqU_symm {kd kd' : TypeDesc} {x y : Value} {b : Bool} (h : keyEqU kd x x = some b) (h' : keyEqU kd' y x = some false) : keyEqU kd x y = some false := by
  rcases keyEqU_form h with ⟨i, k, a, a', rfl, rfl, e, _⟩ | ⟨s, s', rfl, rfl, e, _⟩
  · rcases keyEqU_form h' with ⟨i', k1, a1, a1', _, rfl, e1, e2⟩ | ⟨_, _, _, _, e1, _⟩
    · cases e1
      show gd (kEq k k) (some (iEq a a1)) = some false
      rw [show kEq k k = true from by rw [kEq_eq]]
      rw [iEq_eq] at e2 ⊢
      simp only [gd_true, Option.some.injEq, beq_eq_false_iff_ne]
      intro e3; subst e3; simp at e2
    · cases e1
  · rcases keyEqU_form h' with ⟨_, _, _, _, _, _, e1, _⟩ | ⟨s1, s1', _, rfl, e1, e2⟩
    · cases e1
    · cases e1
      show some (sEq s.data.toList s1.data.toList) = some false
      rw [sEq_eq] at e2 ⊢
      simp only [Option.some.injEq, beq_eq_false_iff_ne]
      intro e3; rw [e3] at e2; simp at e2
theorem made_form {r : Rec} {op : Op} {tm : Tr Value} {s : S} {v : Value} {B : AB} (hk : isMk op = true) (he : ev op ⟨E, r, tm, s⟩ = .a (some (v, B))) : B = .map [] 0 := by
  cases op with
  | makeMap t o =>
    have he' : (R.a (gd o.isNone (some (.map (some s.nx), .map [] 0))) : R) = .a (some (v, B)) := he
    injection he' with he'
    obtain ⟨_, h⟩ := gd_eq he'
    cases h; rfl
  | _ => exact Bool.noConfusion hk
theorem Inv.alloc_core (hE : EOK P E) (R : Reg E r ops l st) (I : Inv P bs E r ops l st Φ0 s0 w0 c listed a w Φ Ω g) {q : Nat} {d : DO} (hp : Pos ops l q d) (hq : c ≤ q) (hn : ¬ Ls listed d.i) (hl : Ev.loud d.o.op = false)
    {v : Value} {B : AB} (he : ev d.o.op ⟨E, r, (st q).fr.tm, (st q).s⟩ = .a (some (v, B))) (hρ : OpsR Ω (st q).fr.tm a.eval d.o.op) (hnx : (st (q + 1)).s.nx = (st q).s.nx + 1) :
    ∃ sz v' obj dd, (execOp a.eval d.o).run P w = .ok (.value v') (pushW w obj dd) ∧
      (B.pa = [] ∧ VR (Ω.add (st q).s.nx ⟨w.heap.size, 0, sz⟩) v v' ∧ BR (Ω.add (st q).s.nx ⟨w.heap.size, 0, sz⟩) B ⟨w.heap.size, 0, sz⟩ (some obj)) ∧
      Ω.le (Ω.add (st q).s.nx ⟨w.heap.size, 0, sz⟩) ∧ (∀ b, b < (st c).s.nx → (Ω.add (st q).s.nx ⟨w.heap.size, 0, sz⟩) b = Ω b) ∧
      (∀ b m, (Ω.add (st q).s.nx ⟨w.heap.size, 0, sz⟩) b = some m → Ω b = some m ∨ (b = (st q).s.nx ∧ (st (q + 1)).s.nx = (st q).s.nx + 1 ∧ m.b = w.heap.size ∧ w.heap.size < (pushW w obj dd).heap.size)) := by
  have hev : ev d.o.op ⟨E, r, (st q).fr.tm, ⟨.e, (st q).s.nx⟩⟩ = .a (some (v, B)) := by
    generalize (st q).s = sq at he ⊢
    obtain ⟨h, n⟩ := sq
    exact alloc_ev hl he
  obtain ⟨v', obj, dd, sz, h1, h2, h3⟩ := a_sound (P := P) (w := w) (Φ := Ω) hE hev (HRel.empty Ω w) hρ
  have hnone : Ω (st q).s.nx = none := by
    cases hm : Ω (st q).s.nx with
    | none => rfl
    | some m =>
      obtain ⟨⟨k, d', g1, g2, g3, g4, g5⟩, _⟩ := I.above _ m (R.mono hq (Nat.le_of_lt hp.lt)).1 hm
      rcases Nat.lt_trichotomy k q with e | e | e
      · have := (R.mono (q := k + 1) (q' := q) (by omega) (Nat.le_of_lt hp.lt)).1; omega
      · subst e
        have e1 := hp.ix; have e2 := g2.ix
        rw [e1.1] at e2
        rw [← Option.some.inj e2.1] at g3
        exact absurd g3 hn
      · have := (R.mono (q := q + 1) (q' := k) (by omega) (Nat.le_of_lt g2.lt)).1; omega
  have hle : Ω.le (Ω.add (st q).s.nx ⟨w.heap.size, 0, sz⟩) := by
    intro b m hb'
    by_cases e : b = (st q).s.nx
    · subst e; rw [hnone] at hb'; cases hb'
    · rw [Ren.add_other _ _ e]; exact hb'
  obtain ⟨h4, h5⟩ := h3 _ hle (Ren.add_same _ _ _)
  refine ⟨sz, v', obj, dd, h1, ⟨h2, h4, h5⟩, hle, fun b hb' => ?_, fun b m hm => ?_⟩
  · exact Ren.add_other _ _ (by have := (R.mono hq (Nat.le_of_lt hp.lt)).1; omega)
  · by_cases e : b = (st q).s.nx
    · subst e
      rw [Ren.add_same] at hm; cases hm
      exact .inr ⟨rfl, hnx, rfl, by rw [pushW_size]; omega⟩
    · rw [Ren.add_other _ _ e] at hm; exact .inl hm

theorem Inv.ins_step (hE : EOK P E) (R : Reg E r ops l st) (I : Inv P bs E r ops l st Φ0 s0 w0 c listed a w Φ Ω g) {q : Nat} {d : DO} (hp : Pos ops l q d) (hq : c ≤ q) (hn : ¬ Ls listed d.i)
    (hb : ∀ x, d.b.testBit x = true → Ls listed x) (hl : Ev.loud d.o.op = false) (hi : isIns d.o.op = true) (hρ : OpsR Ω (st q).fr.tm a.eval d.o.op) {K : Act → World → Prop} {Q : Exit → Act → World → Prop}
    (hK : ∀ a' w' Ω', Inv P bs E r ops l st Φ0 s0 w0 c (listed.setIfInBounds d.i true) a' w' Φ Ω' g → K a' w') : wpOp P ops Q d.i K a w := by
  have hsz : d.i < listed.size := by rw [I.sz]; exact hp.lts
  obtain ⟨_, v, BB, hLV⟩ := R.light hp hl
  have hLV' := hLV
  cases hLV with
  | skip e => rw [hi] at e; cases e
  | quiet _ e => rw [hi] at e; cases e
  | alloc _ _ e => rw [hi] at e; cases e
  | made _ _ e => rw [hi] at e; cases e
  | ins _ id es e hmu hd hg he hf hc =>
  have hent : ent st q = e := by
    unfold ent
    rcases hc with ⟨_, h2⟩ | ⟨_, h2⟩ <;> rw [h2] <;> simp [lastE]
  obtain ⟨t, mo, ko, vo, ti, kt, et, ki, hop, h1, h2, h3, h4, h5, h6, h7, ⟨b0, h8⟩, h9⟩ := insV_eq he
  have hspec := R.mu_spec q (Nat.le_of_lt hp.lt)
  rw [hmu] at hspec
  obtain ⟨⟨q0, hq0, hMA, hid⟩, hes⟩ := hspec
  obtain ⟨d0, hd0⟩ := R.pos (q := q0) (by have := hp.lt; omega)
  rw [hop] at hρ
  have hmv := hρ mo (by simp [Op.operands]) _ h4
  have hkv := hρ ko (by simp [Op.operands]) _ h5
  have hvv := hρ vo (by simp [Op.operands]) _ h6
  generalize hme : a.eval mo = m' at hmv
  cases hmv with
  | map _ m hm =>
  have hL0 : Ls listed d0.i := by
    rcases Nat.lt_or_ge q0 c with hlt | hge
    · exact I.done q0 d0 hlt hd0
    · have hnx : (st c).s.nx ≤ id := by rw [hid]; exact (R.mono hge (Nat.le_of_lt hd0.lt)).1
      obtain ⟨⟨q1, d1, g1, g2, g3, g4, g5⟩, _⟩ := I.above id m hnx hm
      have hq1 : q1 = q0 := by
        rcases Nat.lt_trichotomy q1 q0 with e1 | e1 | e1
        · have := (R.mono (q := q1 + 1) (q' := q0) (by omega) (Nat.le_of_lt hd0.lt)).1; omega
        · exact e1
        · have := (R.mono (q := q0 + 1) (q' := q1) (by omega) (Nat.le_of_lt g2.lt)).1
          have := hMA.2.2; omega
      subst hq1
      have e1 := hd0.ix; have e2 := g2.ix
      rw [e1.1] at e2
      rw [Option.some.inj e2.1]; exact g3
  have hopen : Open (st c).mu := by
    have := R.rank_le hq (Nat.le_of_lt hp.lt)
    rw [hmu] at this
    exact this
  obtain ⟨m2, es', clock, Qs, G⟩ := I.grp hopen q0 d0 hd0 hMA hL0
  have hm2 : m2 = m := by
    have := G.at_
    rw [← hid, hm] at this
    exact (Option.some.inj this).symm
  subst hm2
  have hu := (hE.ty _ _ h1).und
  rw [h2] at hu
  have huk := (hE.ty _ _ h3).und
  have hkey : isKey ki.kd = true := by
    rcases keyEqU_form h8 with ⟨i, _, _, _, e1, _⟩ | ⟨_, _, e1, _⟩ <;> rw [e1] <;> rfl
  have hfalse : ∀ x ∈ Qs.map (ent st), keyEqU ki.kd e.key x.key = some false := by
    intro x hx
    obtain ⟨q', hq', rfl⟩ := List.mem_map.1 hx
    obtain ⟨d', k1, k2, k3⟩ := (G.mem q').1 hq'
    have hne : q' ≠ q := by
      intro e1; subst e1
      have e1 := hp.ix; have e2 := k1.ix
      rw [e1.1] at e2
      rw [← Option.some.inj e2.1] at k3
      exact hn k3
    rcases Nat.lt_or_ge q' q with hlt | hge
    · refine findU_none h7 _ ?_
      rw [hes]
      exact List.mem_map_of_mem (mem_insB.2 ⟨hlt, by rw [insAt_pos k1]; exact k2⟩)
    · obtain ⟨_, v1, BB1, hLV1⟩ := R.light k1 (isIns_quiet k2)
      cases hLV1 with
      | skip e1 => rw [k2] at e1; cases e1
      | quiet _ e1 => rw [k2] at e1; cases e1
      | alloc _ _ e1 => rw [k2] at e1; cases e1
      | made _ _ e1 => rw [k2] at e1; cases e1
      | ins _ id1 es1 e1 hmu1 _ _ he1 _ hc1 =>
        have hent1 : ent st q' = e1 := by
          unfold ent
          rcases hc1 with ⟨_, h2⟩ | ⟨_, h2⟩ <;> rw [h2] <;> simp [lastE]
        obtain ⟨_, _, _, _, _, _, _, ki1, _, _, _, _, _, _, _, n7, _, _⟩ := insV_eq he1
        have hspec1 := R.mu_spec q' (Nat.le_of_lt k1.lt)
        rw [hmu1] at hspec1
        have hmem : ent st q ∈ es1 := by
          rw [hspec1.2]
          exact List.mem_map_of_mem (mem_insB.2 ⟨by omega, by rw [insAt_pos hp]; exact hi⟩)
        have := findU_none n7 _ hmem
        rw [hent] at this
        rw [hent1]
        exact keyEqU_symm h8 this
  have hfind : (Instr.findKey kt (a.eval ko) es'.toList).run P w = .ok none w := run_findKey (P := P) (w := w) huk (findNow_none hkv 0 G.rel hfalse)
  have hrun : (execOp a.eval d.o).run P w = .ok .skip (putO w m2.b (.map (es'.push { key := a.eval ko, val := a.eval vo, born := clock }) (clock + 1))) := by
    have e1 : (Instr.mapUpdate t (.map (some m2.b)) (a.eval ko) (a.eval vo)).run P w = .ok () (putO w m2.b (.map (es'.push { key := a.eval ko, val := a.eval vo, born := clock }) (clock + 1))) := by
      unfold Instr.mapUpdate
      simp only [Sem.run_bind, run_underlying hu, Result.andThen_ok, run_getMap (P := P) G.obj, checkKey_ok (P := P) (w := w) _ huk hkey, hfind, run_setMap (P := P) G.obj]
    unfold execOp
    simp only [hop, hme, Sem.run_bind, e1, Result.andThen_ok, Sem.run_pure]
  have hput : ∀ β, β ≠ m2.b → (putO w m2.b (.map (es'.push { key := a.eval ko, val := a.eval vo, born := clock }) (clock + 1))).heap[β]? = w.heap[β]? := fun β hβ => putO_other hβ
  unfold wpOp
  simp only [hp.op]
  have hwant : Region.wanted d.o (yielded ops a.tmps) = true := by unfold Region.wanted; rw [hg]
  rw [hwant]
  simp only [if_true]
  refine .inl ?_
  unfold Oper.wp
  rw [hrun, Oper.upon_skip]
  refine hK _ _ Ω (I.add R hp hq hn hb hl hLV' (fun β => β = m2.b) (by rw [putO_size]; exact Nat.le_refl _) (fun β _ hβ => hput β hβ) ?_ ?_ (fun β hβ => by subst hβ; exact G.im) ?_ (Ren.le_refl _) (fun _ _ => rfl) (fun b m' h => .inl h) VR.undef (fun B h => by cases h) ?_ ?_)
  · exact ⟨I.rel.toHRel.same fun β hi' => hput β fun e1 => G.im (e1 ▸ hi'), I.rel.dom, I.rel.pas, I.rel.gl⟩
  · have hx := I.ext
    refine ⟨hx.nx, hx.ag, by rw [putO_size]; exact hx.size, fun β hβ hi' => ?_, hx.im, hx.tape, hx.os, hx.output⟩
    rw [hput β (fun e1 => by have := G.new; omega)]
    exact hx.frame β hβ hi'
  · intro q' d' v1 B1 k0 k1 k2 k3 m' hm'
    have hnx' : (st (q' + 1)).s.nx = (st q').s.nx + 1 ∧ (st (q' + 1)).mu = (st q').mu := by
      cases k3 with
      | alloc _ _ _ _ _ hp'' hm'' => exact ⟨by rw [(put_eq hp'').1, newB_nx], hm''⟩
    exact G.apart _ m' (R.mono k0 (Nat.le_of_lt k1.lt)).1 (R.made_ne k1.lt hd0.lt hMA hnx'.1 hnx'.2) hm'
  · intro _ q1 d1 k1 k2 k3
    have := R.made_one k2 hMA k1.lt hd0.lt
    subst this
    have hnQ : q ∉ Qs := by
      intro h
      obtain ⟨d', n1, _, n3⟩ := (G.mem q).1 h
      have e1 := hp.ix; have e2 := n1.ix
      rw [e1.1] at e2
      rw [← Option.some.inj e2.1] at n3
      exact hn n3
    refine ⟨m2, _, _, Qs ++ [q], G.at_, by rw [putO_size]; exact G.lt, G.new, G.im, G.apart, putO_same G.lt, ?_, fun x => ?_, ?_⟩
    · rw [List.nodup_append]
      refine ⟨G.nd, List.nodup_cons.2 ⟨(fun h => by cases h), List.nodup_nil⟩, fun x hx y hy => ?_⟩
      rw [List.mem_singleton] at hy
      subst hy
      intro e1; subst e1; exact hnQ hx
    · rw [List.mem_append, List.mem_singleton, G.mem]
      constructor
      · rintro (⟨d', n1, n2, n3⟩ | rfl)
        · exact ⟨d', n1, n2, n3.set⟩
        · exact ⟨d, hp, hi, Ls.same hsz⟩
      · rintro ⟨d', n1, n2, n3⟩
        rcases n3.of_set with e1 | e1
        · exact .inr (R.injP n1 hp e1).1
        · exact .inl ⟨d', n1, n2, e1⟩
    · rw [List.map_append, List.map_cons, List.map_nil, Array.toList_push, hent]
      exact G.rel.append (.cons _ _ _ _ ⟨hkv, hvv⟩ .nil)
  · intro q' d' n1 n2 n3
    exact ⟨q0, d0, hd0, hMA, hL0.set⟩

theorem Inv.light_step (hE : EOK P E) (R : Reg E r ops l st) (I : Inv P bs E r ops l st Φ0 s0 w0 c listed a w Φ Ω g) {q : Nat} {d : DO} (hp : Pos ops l q d) (hq : c ≤ q) (hn : ¬ Ls listed d.i)
    (hb : ∀ x, d.b.testBit x = true → Ls listed x) (hl : Ev.loud d.o.op = false) {K : Act → World → Prop} {Q : Exit → Act → World → Prop}
    (hK : ∀ a' w' Ω', Inv P bs E r ops l st Φ0 s0 w0 c (listed.setIfInBounds d.i true) a' w' Φ Ω' g → K a' w') : wpOp P ops Q d.i K a w := by
  obtain ⟨_, v, BB, hLV⟩ := R.light hp hl
  have hglΩ : GlR Ω := I.rel.gl.mono I.leΩ
  have hρ : OpsR Ω (st q).fr.tm a.eval d.o.op := ops_of hglΩ fun τ hτ u hu => by
    obtain ⟨u', h1, h2, _⟩ := I.reads R hp hq hn hb (R.tied hp hτ) hu
    exact ⟨u', h1, h2⟩
  have hwant : ∀ b, want ops.toList (st q).fr d.o = some b → Region.wanted d.o (yielded ops a.tmps) = b := fun b h =>
    want_core (Ψ := Ω) h fun j b0 g0 τ u hg h0 hd hu => by
      obtain ⟨u', h1, h2, _⟩ := I.reads R hp hq hn hb (R.tiedG hp hg h0 hd) hu
      exact ⟨u', h1, h2⟩
  cases hiI : isIns d.o.op with
  | true => exact I.ins_step hE R hp hq hn hb hl hiI hρ hK
  | false =>
  unfold wpOp
  simp only [hp.op]
  obtain ⟨j, sh, rest, ho, hhd, hsub⟩ := I.hd
  have hLV' := hLV
  have hsz : d.i < listed.size := by rw [I.sz]; exact hp.lts
  have hnoX : ∀ β, False → ¬ Im Φ (st c).s.h β := fun _ h => h.elim
  cases hLV with
  | skip hi hw hp' hm =>
    rw [hwant _ hw]
    simp only [Bool.false_eq_true, if_false]
    obtain ⟨g1, g2⟩ := I.grp_plain R hp hi hm (w' := w) (Ω' := Ω) (Nat.le_refl _) (fun _ _ => rfl) (Ren.le_refl _) (fun b m h => .inl h)
    exact hK _ _ Ω (I.add R hp hq hn hb hl hLV' (fun _ => False) (Nat.le_refl _) (fun _ _ _ => rfl) I.rel I.ext (fun _ h => h.elim) (fun _ _ _ _ _ _ _ _ _ _ h => h) (Ren.le_refl _) (fun _ _ => rfl) (fun b m h => .inl h) VR.undef (fun B h => by cases h) g1 g2)
  | quiet _ hi hw he hs hp' hm =>
    rw [hwant _ hw]
    simp only [if_true]
    have hev : ev d.o.op ⟨E, r, (st q).fr.tm, Ev.addMu (rMu (msk ops) d (st q).mu) sh⟩ = .q (some v) := by
      rcases hs with hs | hs
      · rw [← he]; exact heapFree_ev hs
      · refine reads_eq (R.reads (d := d) hq (Nat.le_of_lt hp.lt) ho (fun k d' h1 h2 h3 h4 => ?_) hs)
        cases hbit : d.b.testBit d'.i with
        | false => rfl
        | true =>
          have := I.lt k d' h1 h3 (hb _ hbit)
          rw [this] at h4; cases h4
    have hhx : HRel Ω (Ev.addMu (rMu (msk ops) d (st q).mu) sh).h w := by
      have h0 := hhd.mono I.leΩ
      unfold rMu
      rw [bi_eq]
      by_cases hk : Nat.beq (Nat.land (msk ops) d.b) (msk ops) = true
      · rw [if_pos hk]
        cases hmu : (st q).mu with
        | no => exact h0
        | op id es => exact h0
        | cl => exact h0
        | se id es =>
          refine (Inv.addMu R I hq (Nat.le_of_lt hp.lt) hmu (fun p d' hp'' hi' => ?_) ho).1
          rw [beq_nat] at hk
          exact hb _ (land_bit hk (insMask_bit _ d' hp''.mem hi'))
      · rw [if_neg hk]; exact h0
    obtain ⟨v', h1, h2⟩ := q_sound (P := P) (w := w) hE hev hhx hρ
    refine .inl ?_
    unfold Oper.wp
    rw [h2, Oper.upon_value]
    obtain ⟨g1, g2⟩ := I.grp_plain R hp hi hm (w' := w) (Ω' := Ω) (Nat.le_refl _) (fun _ _ => rfl) (Ren.le_refl _) (fun b m h => .inl h)
    exact hK _ _ Ω (I.add R hp hq hn hb hl hLV' (fun _ => False) (Nat.le_refl _) (fun _ _ _ => rfl) I.rel I.ext (fun _ h => h.elim) (fun _ _ _ _ _ _ _ _ _ _ h => h) (Ren.le_refl _) (fun _ _ => rfl) (fun b m h => .inl h) h1 (fun B h => by cases h) g1 g2)
  | alloc _ B hi hw he hp' hm =>
    rw [hwant _ hw]
    simp only [if_true]
    obtain ⟨sz, v', obj, dd, hh1, hh2, hh3⟩ := I.alloc_core hE R hp hq hn hl he hρ (by rw [(put_eq hp').1, newB_nx])
    refine .inl ?_
    unfold Oper.wp
    rw [hh1, Oper.upon_value]
    obtain ⟨h2, h4, h5⟩ := hh2
    obtain ⟨hle, hbel, hnew⟩ := hh3
    obtain ⟨r1, r2⟩ := I.rel.world (w' := pushW w obj dd) (by rw [pushW_size]; omega) (fun β hβ => pushW_other hβ) rfl rfl rfl
    obtain ⟨g1, g2⟩ := I.grp_plain R hp hi hm (w' := pushW w obj dd) (by rw [pushW_size]; omega) (fun β hβ => pushW_other hβ) hle hnew
    refine hK _ _ _ (I.add R hp hq hn hb hl hLV' (w' := pushW w obj dd) (fun _ => False) (by rw [pushW_size]; omega) (fun β hβ _ => pushW_other hβ) r1 (I.ext.trans r2) (fun _ h => h.elim) (fun _ _ _ _ _ _ _ _ _ _ h => h) hle hbel hnew h4 ?_ g1 g2)
    intro B' hB'
    cases hB'
    exact ⟨h2, _, Ren.add_same _ _ _, by rw [pushW_same]; exact h5⟩
  | made _ B hi hw he hk hno hp' hm =>
    rw [hwant _ hw]
    simp only [if_true]
    have hMA : MadeAt st q := ⟨hno, hm, by rw [(put_eq hp').1, skipB_nx]⟩
    obtain ⟨sz, v', obj, dd, hh1, hh2, hh3⟩ := I.alloc_core hE R hp hq hn hl he hρ hMA.2.2
    refine .inl ?_
    unfold Oper.wp
    rw [hh1, Oper.upon_value]
    obtain ⟨h2, h4, h5⟩ := hh2
    obtain ⟨hle, hbel, hnew⟩ := hh3
    obtain ⟨r1, r2⟩ := I.rel.world (w' := pushW w obj dd) (by rw [pushW_size]; omega) (fun β hβ => pushW_other hβ) rfl rfl rfl
    have hBm : B = .map [] 0 := made_form hk he
    subst hBm
    obtain ⟨es', k1, k2⟩ := h5
    have hes : es'.toList = [] := by cases hes : es'.toList with
      | nil => rfl
      | cons x y => rw [hes] at k2; cases k2
    have hnol : ∀ q' d', Pos ops l q' d' → isIns d'.o.op = true → ¬ Ls listed d'.i := by
      intro q' d' h1 h2 h3
      obtain ⟨q0, d0, m1, m2, m3⟩ := I.gin q' d' h1 h2 h3
      have := R.made_one m2 hMA m1.lt hp.lt
      subst this
      have e1 := hp.ix; have e2 := m1.ix
      rw [e1.1] at e2
      rw [← Option.some.inj e2.1] at m3
      exact hn m3
    have hnol' : ∀ q' d', Pos ops l q' d' → isIns d'.o.op = true → ¬ Ls (listed.setIfInBounds d.i true) d'.i := by
      intro q' d' h1 h2 h3
      rcases h3.of_set with e | e
      · obtain ⟨_, rfl⟩ := R.injP h1 hp e
        rw [hi] at h2; cases h2
      · exact hnol q' d' h1 h2 e
    refine hK _ _ _ (I.add R hp hq hn hb hl hLV' (w' := pushW w obj dd) (fun _ => False) (by rw [pushW_size]; omega) (fun β hβ _ => pushW_other hβ) r1 (I.ext.trans r2) (fun _ h => h.elim) (fun _ _ _ _ _ _ _ _ _ _ h => h) hle hbel hnew h4 (fun B h => by cases h) ?_
      (fun q' d' h1 h2 h3 => absurd h3 (hnol' q' d' h1 h2)))
    intro _ q0 d0 m1 m2 m3
    have := R.made_one m2 hMA m1.lt hp.lt
    subst this
    refine ⟨⟨w.heap.size, 0, sz⟩, es', 0, [], Ren.add_same _ _ _, by rw [pushW_size]; exact Nat.lt_succ_self _, I.ext.size, fun hi' => ?_, fun b m' hb' hne hm' => ?_, by rw [pushW_same]; exact k1, List.nodup_nil, fun x => ⟨(fun h => by cases h), fun ⟨d', n1, n2, n3⟩ => absurd n3 (hnol' x d' n1 n2)⟩, by rw [hes]; exact .nil⟩
    · have := Im.lt I.rel.toHRel hi'
      exact absurd this (Nat.lt_irrefl _)
    · rcases hnew b m' hm' with h | ⟨e, _⟩
      · have := (I.above b m' hb' h).2.1
        intro e; rw [e] at this; exact Nat.lt_irrefl _ this
      · exact absurd e hne
  | ins hi => rw [hiI] at hi; cases hi
end
end Go.Ev

/-! Regions that draw their order, 7: a loud one; the whole. -/
namespace Go.Ev
open Go Go.Lib
set_option linter.unusedSimpArgs false
set_option linter.unusedVariables false
section
variable {P : Program} {E : Env} {r : Rec} {ops : Array Oper} {l : List Nat} {st : Nat → W} {Φ0 : Ren} {s0 : S} {w0 : World} {bs : List Deferred}
  {c : Nat} {listed : Array Bool} {a : Act} {w : World} {Φ Ω : Ren} {g : Act}

theorem Inv.pass (R : Reg E r ops l st) (I : Inv P bs E r ops l st Φ0 s0 w0 c listed a w Φ Ω g) {d : DO} (hp : Pos ops l c d) (hn : ¬ Ls listed d.i)
    (hb : ∀ x, d.b.testBit x = true → Ls listed x) (hl : Ev.loud d.o.op = true) {Φ' : Ren} {w' : World} {a' g' : Act} (hr : Rel Φ' (st (c + 1)).s w') (hx : Ext Φ (st c).s w Φ' (st (c + 1)).s w')
    (hf : FrR P bs Φ' (st (c + 1)).fr g') (hdf : a'.defers = g'.defers) (hs : a'.tmps.size = g'.tmps.size)
    (ha : ∀ τ, d.o.dst ≠ some τ → a'.tmps[τ]? = a.tmps[τ]?) (hg : ∀ τ, d.o.dst ≠ some τ → g'.tmps[τ]? = g.tmps[τ]?) (hd : ∀ τ, d.o.dst = some τ → a'.tmps[τ]? = g'.tmps[τ]?) :
    ∃ Ω', Inv P bs E r ops l st Φ0 s0 w0 (c + 1) (listed.setIfInBounds d.i true) a' w' Φ' Ω' g' := by
  have hsz : d.i < listed.size := by rw [I.sz]; exact hp.lts
  have hof : ∀ q' d', c + 1 ≤ q' → Pos ops l q' d' → Ls (listed.setIfInBounds d.i true) d'.i → Ls listed d'.i := by
    intro q' d' hq hp' h
    rcases h.of_set with e | e
    · have := (R.injP hp' hp e).1; omega
    · exact e
  have hne : ∀ q' d', c ≤ q' → Pos ops l q' d' → Ls listed d'.i → c + 1 ≤ q' := by
    intro q' d' hq hp' h
    by_cases e : q' = c
    · subst e
      have e1 := hp.ix; have e2 := hp'.ix
      rw [e1.1] at e2
      rw [← Option.some.inj e2.1] at h
      exact absurd h hn
    · omega
  have hold : (st (c + 1)).old = (d.i, (st (c + 1)).s) :: (st c).old ∧ (st c).s.nx ≤ (st (c + 1)).s.nx ∧ isIns d.o.op = false ∧ (st (c + 1)).mu = closeMu (st c).mu := by
    cases (R.step hp).step with
    | skip e => rw [e] at hl; cases hl
    | quiet e => rw [e] at hl; cases hl
    | alloc e => rw [e] at hl; cases hl
    | made e => rw [e] at hl; cases hl
    | ins e => rw [e] at hl; cases hl
    | loud _ hi wb hw hb hd hn ho hm => exact ⟨ho, hn, hi, hm⟩
  obtain ⟨hold1, hnxle, hiI, hmu⟩ := hold
  have hleΦ : Φ.le Φ' := hx.le I.rel.dom
  have hrank : Open (st (c + 1)).mu → Open (st c).mu := fun h => by
    have := R.rank_le (q := c) (q' := c + 1) (Nat.le_succ c) hp.lt
    exact Nat.le_trans this h
  have hle : Φ.le Ω := I.leΩ
  refine ⟨fun b => if b < (st (c + 1)).s.nx then Φ' b else Ω b, ?_⟩
  have hΩ : Ω.le (fun b => if b < (st (c + 1)).s.nx then Φ' b else Ω b) := by
    intro b m hm
    show (if b < (st (c + 1)).s.nx then Φ' b else Ω b) = some m
    by_cases hlt : b < (st (c + 1)).s.nx
    · rw [if_pos hlt]
      by_cases h2 : b < (st c).s.nx
      · rw [hx.ag b h2, ← I.below b h2]; exact hm
      · obtain ⟨⟨q, d', h3, h4, h5, h6, h7⟩, _⟩ := I.above b m (by omega) hm
        have := (R.mono (hne q d' h3 h4 h5) (Nat.le_of_lt h4.lt)).1
        omega
    · rw [if_neg hlt]; exact hm
  have hhi : ∀ b, (st (c + 1)).s.nx ≤ b → (if b < (st (c + 1)).s.nx then Φ' b else Ω b) = Ω b := fun b h => if_neg (by omega)
  have hofI : ∀ q' d', Pos ops l q' d' → isIns d'.o.op = true → Ls (listed.setIfInBounds d.i true) d'.i → Ls listed d'.i := by
    intro q' d' hp' hi' h
    rcases h.of_set with e | e
    · obtain ⟨_, rfl⟩ := R.injP hp' hp e
      rw [hiI] at hi'; cases hi'
    · exact e
  refine ⟨by simp [I.sz], hp.lt, ?_, ?_, ?_, ⟨_, _, _, hold1, hr.toHRel, fun _ _ h => h⟩, ?_, ?_, ?_, ?_, hr, hf, hdf, hs, ?_, I.ext.trans hx, fun b h => if_pos h, ?_, ?_, ?_⟩
  · intro q d' hq hp'
    by_cases e : q = c
    · subst e
      have e1 := hp.ix; have e2 := hp'.ix
      rw [e1.1] at e2
      rw [← Option.some.inj e2.1]; exact Ls.same hsz
    · exact (I.done q d' (by omega) hp').set
  · intro q d' hq hp' h
    exact I.lt q d' (by omega) hp' (hof q d' hq hp' h)
  · intro q d' hp' h x hx'
    rcases h.of_set with e | e
    · have e3 := (R.injP hp' hp e).2
      subst e3
      exact (hb x hx').set
    · exact (I.closed q d' hp' e x hx').set
  · rw [hmu]
    intro id es e x hx'
    cases hm : (st c).mu with
    | op id' es' =>
      rw [hm] at e
      cases e
      obtain ⟨⟨u, h1⟩, u', h2⟩ := I.mus _ _ hm x hx'
      exact ⟨⟨u, h1.mono hleΦ⟩, u', h2.mono hleΦ⟩
    | no => rw [hm] at e; cases e
    | se id' es' => rw [hm] at e; cases e
    | cl => rw [hm] at e; cases e
  · rw [hmu]
    intro id es e
    cases hm : (st c).mu <;> rw [hm] at e <;> cases e
  · intro hop q0 d0 h1 h2 h3
    have h4 : Ls listed d0.i := by
      rcases h3.of_set with e | e
      · exfalso
        obtain ⟨rfl, rfl⟩ := R.injP h1 hp e
        have h5 := h2.2.1
        rw [hmu, h2.1] at h5; cases h5
      · exact e
    obtain ⟨m, es', clock, Q, G⟩ := I.grp (hrank hop) q0 d0 h1 h2 h4
    refine ⟨m, es', clock, Q, hΩ _ _ G.at_, by have := G.lt; have := hx.size; omega, G.new, fun hi' => ?_, fun b m' hb' hne hm' => ?_, by rw [hx.frame _ G.lt G.im]; exact G.obj, G.nd, fun x => ?_, G.rel.mono hΩ⟩
    · rcases hx.im _ hi' with h | h
      · exact G.im h
      · have := G.lt; omega
    · have e1 : Ω b = some m' := by rw [← hhi b hb']; exact hm'
      exact G.apart b m' (by omega) hne e1
    · rw [G.mem]
      constructor
      · rintro ⟨d', k1, k2, k3⟩; exact ⟨d', k1, k2, k3.set⟩
      · rintro ⟨d', k1, k2, k3⟩; exact ⟨d', k1, k2, hofI x d' k1 k2 k3⟩
  · intro q' d' h1 h2 h3
    obtain ⟨q0, d0, k1, k2, k3⟩ := I.gin q' d' h1 h2 (hofI q' d' h1 h2 h3)
    exact ⟨q0, d0, k1, k2, k3.set⟩
  · intro τ hτ
    by_cases e : d.o.dst = some τ
    · exact hd τ e
    · rw [ha τ e, hg τ e]
      exact I.agree τ fun q d' h1 h2 h3 => hτ q d' (hne q d' h1 h2 h3) h2 h3.set
  · intro b m h1 h2
    have h2' : Ω b = some m := by rw [← hhi b h1]; exact h2
    obtain ⟨⟨q, d', g1, g2, g3, g4, g5⟩, g6, g7, g8⟩ := I.above b m (by omega) h2'
    refine ⟨⟨q, d', hne q d' g1 g2 g3, g2, g3.set, g4, g5⟩, by have := hx.size; omega, fun hi => ?_, g8⟩
    rcases hx.im _ hi with h | h
    · exact g7 h
    · omega
  · intro b b' m m' h1 h2 hne' hm hm'
    have e1 : Ω b = some m := by rw [← hhi b h1]; exact hm
    have e2 : Ω b' = some m' := by rw [← hhi b' h2]; exact hm'
    exact I.apart b b' m m' (by omega) (by omega) hne' e1 e2
  · intro q d' h1 h2 h3
    have h4 := hof q d' h1 h2 h3
    obtain ⟨u, u', BB', k1, k2, k3, k4⟩ := I.early q d' (by omega) h2 h4
    refine ⟨u, u', BB', k1, fun τ e => ?_, k3.mono hΩ, fun B hB' => ?_⟩
    · have : d.o.dst ≠ some τ := R.ssa.dst d' h2.mem d hp.mem τ e fun e' => hn (by rw [e']; exact h4)
      rw [ha τ this]; exact k2 τ e
    · obtain ⟨g1, m, g2, g3⟩ := k4 B hB'
      obtain ⟨_, g6, g7, _⟩ := I.above _ m (R.mono (q := c) (by omega) (Nat.le_of_lt h2.lt)).1 g2
      exact ⟨g1, m, hΩ _ _ g2, by rw [hx.frame _ g6 g7]; exact g3.mono hΩ⟩

theorem Inv.loud_step (hE : EOK P E) (hC : CallOK P r) (R : Reg E r ops l st) (I : Inv P bs E r ops l st Φ0 s0 w0 c listed a w Φ Ω g) {d : DO} (hp : Pos ops l c d) (hn : ¬ Ls listed d.i)
    (hb : ∀ x, d.b.testBit x = true → Ls listed x) (hl : Ev.loud d.o.op = true) {K : Act → World → Prop} {Q : Exit → Act → World → Prop}
    (hK : ∀ a' w' Φ' Ω' g', Inv P bs E r ops l st Φ0 s0 w0 (c + 1) (listed.setIfInBounds d.i true) a' w' Φ' Ω' g' → K a' w') : wpOp P ops Q d.i K a w := by
  have hρ : OpsR Φ (st c).fr.tm a.eval d.o.op := ops_of I.rel.gl fun τ hτ u hu => by
    obtain ⟨u', h1, _, h2⟩ := I.reads R hp (Nat.le_refl _) hn hb (R.tied hp hτ) hu
    exact ⟨u', h1, h2 rfl⟩
  have hwant : ∀ b, want ops.toList (st c).fr d.o = some b → Region.wanted d.o (yielded ops a.tmps) = b := fun b h =>
    want_core (Ψ := Ω) h fun j b0 g0 τ u hg h0 hd hu => by
      obtain ⟨u', h1, h2, _⟩ := I.reads R hp (Nat.le_refl _) hn hb (R.tiedG hp hg h0 hd) hu
      exact ⟨u', h1, h2⟩
  unfold wpOp
  simp only [hp.op]
  cases (R.step hp).step with
  | skip e => rw [e] at hl; cases hl
  | quiet e => rw [e] at hl; cases hl
  | alloc e => rw [e] at hl; cases hl
  | made e => rw [e] at hl; cases hl
  | ins e => rw [e] at hl; cases hl
  | loud _ _ wb hw hb' hd hnx ho =>
    rw [hwant _ hw]
    rw [bi_eq] at hd
    have hdt : ∀ (x y : Act) (v : Value), x.tmps.size = y.tmps.size → ∀ τ, d.o.dst = some τ → (x.put d.o.dst v).tmps[τ]? = (y.put d.o.dst v).tmps[τ]? := by
      intro x y v hxy τ e
      rw [e]
      show (x.tmps.setIfInBounds τ v)[τ]? = (y.tmps.setIfInBounds τ v)[τ]?
      rw [Array.getElem?_setIfInBounds, Array.getElem?_setIfInBounds, if_pos rfl, if_pos rfl, hxy]
    cases wb with
    | false =>
      rw [if_neg (by simp)] at hd
      simp only [Bool.false_eq_true, if_false]
      obtain ⟨e1, e2⟩ := put_sound hd I.frg VR.undef
      obtain ⟨Ω', I'⟩ := I.pass R hp hn hb hl (a' := a.put d.o.dst undef) (g' := g.put d.o.dst undef) (Φ' := Φ) (w' := w) (by rw [e1]; exact I.rel) (by rw [e1]; exact Ext.refl _ _ _) e2 (by rw [put_defers, put_defers]; exact I.dfs)
        (by rw [put_size, put_size]; exact I.asz) (fun τ e => Ev.put_other e) (fun τ e => Ev.put_other e) (hdt a g undef I.asz)
      exact hK _ _ _ _ _ I'
    | true =>
      rw [if_pos rfl] at hd
      simp only [if_true]
      refine .inl (op_core (bs := bs) hE hC I.rel hρ hd fun Φ' w' v' ds h1 h2 h3 => ?_)
      obtain ⟨Ω', I'⟩ := I.pass R hp hn hb hl (a' := ({ a with defers := ds } : Act).put d.o.dst v') (g' := ({ g with defers := ds } : Act).put d.o.dst v') (Φ' := Φ') (w' := w') h1 h2 (h3 g I.frg I.dfs.symm)
        (by rw [put_defers, put_defers]) (by rw [put_size, put_size]; exact I.asz) (fun τ e => Ev.put_other e) (fun τ e => Ev.put_other e) (hdt _ _ v' I.asz)
      exact hK _ _ _ _ _ I'

/-- commit up to a place -/
theorem Inv.commits (hE : EOK P E) (R : Reg E r ops l st) : ∀ (n c : Nat) (Φ Ω : Ren) (g : Act), Inv P bs E r ops l st Φ0 s0 w0 c listed a w Φ Ω g → c + n ≤ l.length →
    (∀ q d, q < c + n → Pos ops l q d → Ls listed d.i) → ∃ Φ' g', Inv P bs E r ops l st Φ0 s0 w0 (c + n) listed a w Φ' Ω g' := by
  intro n
  induction n with
  | zero => intro c Φ Ω g I _ _; exact ⟨Φ, g, I⟩
  | succ n ih =>
    intro c Φ Ω g I hle hL
    obtain ⟨d, hp⟩ := R.pos (q := c) (by omega)
    obtain ⟨Φ1, g1, I1⟩ := I.commit hE R hp (hL c d (by omega) hp)
    have := ih (c + 1) Φ1 Ω g1 I1 (by omega) (fun q d' hq => hL q d' (by omega))
    rw [show c + 1 + n = c + (n + 1) from by omega] at this
    exact this

theorem ready_mem {i : Nat} (h : i ∈ Region.ready .any ops listed) : i < ops.size ∧ listed.getD i true = false ∧ ∃ o, ops[i]? = some o ∧ ∀ e ∈ o.after.toList, Region.binds .any e = true → listed.getD e.on false = true := by
  unfold Region.ready at h
  rw [List.mem_filter] at h
  obtain ⟨h1, h2⟩ := h
  rw [Bool.and_eq_true] at h2
  obtain ⟨h3, h4⟩ := h2
  refine ⟨by simpa using h1, by simpa using h3, ?_⟩
  cases ho : ops[i]? with
  | none => rw [ho] at h4; simp at h4
  | some o =>
    rw [ho] at h4
    refine ⟨o, rfl, fun e he hb => ?_⟩
    have h5 : o.after.all (fun e => !Region.binds .any e || listed.getD e.on false) = true := by simpa using h4
    rw [← Array.all_toList, List.all_eq_true] at h5
    have := h5 e he
    rw [hb] at this
    simpa using this
theorem ready_of {i : Nat} {o : Oper} (hi : listed.getD i true = false) (ho : ops[i]? = some o) (h : ∀ e ∈ o.after.toList, Region.binds .any e = true → listed.getD e.on false = true) : i ∈ Region.ready .any ops listed := by
  unfold Region.ready
  rw [List.mem_filter]
  refine ⟨?_, ?_⟩
  · rw [List.mem_range]
    rcases Nat.lt_or_ge i ops.size with h' | h'
    · exact h'
    · rw [Array.getElem?_eq_none h'] at ho; cases ho
  · rw [Bool.and_eq_true]
    refine ⟨by simp [hi], ?_⟩
    rw [ho]
    show (o.after.all fun e => !Region.binds .any e || listed.getD e.on false) = true
    rw [← Array.all_toList, List.all_eq_true]
    intro e he
    cases hb : Region.binds .any e with
    | false => rfl
    | true => simp [h e he hb]
theorem Ls.getD {i : Nat} : Ls listed i ↔ listed.getD i false = true := by
  unfold Ls
  rw [Array.getD_eq_getD_getElem?]
  cases listed[i]? with
  | none => simp
  | some b => simp

theorem filter_one {α : Type} (p q : α → Bool) : ∀ (l : List α) (x : α), l.Nodup → x ∈ l → p x = true → q x = false → (∀ y, y ≠ x → q y = p y) → (l.filter q).length + 1 = (l.filter p).length := by
  intro l
  induction l with
  | nil => intro x _ h; cases h
  | cons y l ih =>
    intro x hnd hx hp hq hs
    have hnd' := List.nodup_cons.1 hnd
    by_cases e : y = x
    · subst e
      have : l.filter q = l.filter p := by
        apply List.filter_congr
        intro z hz
        exact hs z (fun e => hnd'.1 (e ▸ hz))
      rw [List.filter_cons_of_neg (by simp [hq]), List.filter_cons_of_pos (by simpa using hp), this, List.length_cons]
    · have hx' : x ∈ l := by
        rcases List.mem_cons.1 hx with h | h
        · exact absurd h.symm e
        · exact h
      have h1 := ih x hnd'.2 hx' hp hq hs
      rw [List.filter_cons, List.filter_cons, hs y e]
      cases p y <;> simp <;> omega
/-- how many are not listed yet -/
def left (n : Nat) (listed : Array Bool) : Nat := ((List.range n).filter fun i => !listed.getD i false).length
theorem left_set {n i : Nat} (hi : i < n) (hs : listed.size = n) (hn : ¬ Ls listed i) : left n (listed.setIfInBounds i true) + 1 = left n listed := by
  unfold left
  refine filter_one _ _ _ i List.nodup_range (List.mem_range.2 hi) ?_ ?_ fun y hy => ?_
  · rw [Ls.getD] at hn; simpa using hn
  · have : Ls (listed.setIfInBounds i true) i := Ls.same (by omega)
    rw [Ls.getD] at this; simp [this]
  · rw [Array.getD_eq_getD_getElem?, Array.getD_eq_getD_getElem?, Array.getElem?_setIfInBounds, if_neg (fun e => hy e.symm)]
theorem left_zero {n : Nat} (h : left n listed = 0) {i : Nat} (hi : i < n) : Ls listed i := by
  unfold left at h
  have := List.eq_nil_of_length_eq_zero h
  rw [List.filter_eq_nil_iff] at this
  have := this i (List.mem_range.2 hi)
  rw [Ls.getD]
  simpa using this

theorem any_sound (hE : EOK P E) (hC : CallOK P r) (R : Reg E r ops l st) {Q : Exit → Act → World → Prop}
    (hn : ∀ Φ' w' a', FrR P bs Φ' (st l.length).fr a' → Rel Φ' (st l.length).s w' → Ext Φ0 s0 w0 Φ' (st l.length).s w' → Q .normal a' w') :
    ∀ (fuel c : Nat) (listed : Array Bool) (a : Act) (w : World) (Φ Ω : Ren) (g : Act), Inv P bs E r ops l st Φ0 s0 w0 c listed a w Φ Ω g → left ops.size listed = fuel → wpAny P .any ops Q fuel listed a w := by
  have hend : ∀ (c : Nat) (listed : Array Bool) (a : Act) (w : World) (Φ Ω : Ren) (g : Act), Inv P bs E r ops l st Φ0 s0 w0 c listed a w Φ Ω g → (∀ q d, Pos ops l q d → Ls listed d.i) → Q .normal a w := by
    intro c listed a w Φ Ω g I hL
    have hle := I.le
    obtain ⟨Φ', g', I'⟩ := I.commits hE R (l.length - c) c Φ Ω g (by omega) (fun q d _ hp => hL q d hp)
    rw [show c + (l.length - c) = l.length from by omega] at I'
    refine hn Φ' w a ⟨⟨I'.frg.tm.gl, ?_⟩, ?_, ?_⟩ I'.rel I'.ext
    · intro t v hv
      obtain ⟨v', h1, h2⟩ := I'.frg.tm.get t v hv
      refine ⟨v', ?_, h2⟩
      rw [I'.agree t fun q d h1 h2 h3 => absurd h2.lt (by omega)]
      exact h1
    · rw [I'.asz]; exact I'.frg.nt
    · rw [I'.dfs]; exact I'.frg.df
  have hready : ∀ (c : Nat) (listed : Array Bool) (a : Act) (w : World) (Φ Ω : Ren) (g : Act), Inv P bs E r ops l st Φ0 s0 w0 c listed a w Φ Ω g → Region.ready .any ops listed = [] → ∀ q d, Pos ops l q d → Ls listed d.i := by
    intro c listed a w Φ Ω g I hnil q
    induction q using Nat.strongRecOn with
    | _ q ih =>
      intro d hp
      cases hg : listed.getD d.i false with
      | true => exact Ls.getD.2 hg
      | false =>
        exfalso
        have hlt : d.i < listed.size := by rw [I.sz]; exact hp.lts
        have hg' : listed.getD d.i true = false := by
          rw [Array.getD_eq_getD_getElem?] at hg ⊢
          rw [Array.getElem?_eq_getElem hlt] at hg ⊢
          exact hg
        have := ready_of hg' hp.op fun e he hb => by
          have h1 := (annF hp.ix.2).dir e he hb
          obtain ⟨k, d', h2, h3, h4⟩ := R.pre hp h1
          rw [← h4]
          exact Ls.getD.1 (ih k h2 d' h3)
        rw [hnil] at this
        cases this
  intro fuel
  induction fuel with
  | zero =>
    intro c listed a w Φ Ω g I hleft
    have hall : ∀ q d, Pos ops l q d → Ls listed d.i := fun q d hp => left_zero hleft hp.lts
    refine ⟨?_, hend c listed a w Φ Ω g I hall⟩
    apply List.eq_nil_iff_forall_not_mem.2
    intro i hi
    obtain ⟨h1, h2, _⟩ := ready_mem hi
    have := left_zero hleft h1
    unfold Ls at this
    rw [Array.getD_eq_getD_getElem?, this] at h2
    cases h2
  | succ fuel ih =>
    intro c listed a w Φ Ω g I hleft
    refine ⟨fun hnil => hend c listed a w Φ Ω g I (hready c listed a w Φ Ω g I hnil), fun i hi => ?_⟩
    obtain ⟨h1, h2, o, h3, h4⟩ := ready_mem hi
    obtain ⟨q, d, hp, rfl⟩ := R.total h1
    have ho : o = d.o := by have := hp.op; rw [h3] at this; exact Option.some.inj this
    subst ho
    have hnL : ¬ Ls listed d.i := by
      intro h
      unfold Ls at h
      rw [Array.getD_eq_getD_getElem?, h] at h2; cases h2
    have hb : ∀ x, d.b.testBit x = true → Ls listed x := by
      intro x hx
      obtain ⟨e, he, hbd, hx'⟩ := (annF hp.ix.2).far x hx
      have hon := Ls.getD.2 (h4 e he hbd)
      rcases hx' with rfl | ⟨d', hd', hx'⟩
      · exact hon
      · have hbe := (annF hp.ix.2).dir e he hbd
        obtain ⟨k, dk, _, hk, hki⟩ := R.pre hp hbe
        have e1 := hk.ix.2
        rw [hki, hd'] at e1
        have e2 := Option.some.inj e1
        subst e2
        exact I.closed k d' hk (by rw [hki]; exact hon) x hx'
    have hset := left_set h1 I.sz hnL
    cases hl : loud d.o.op with
    | true =>
      have hqc : c ≤ q := by
        rcases Nat.lt_or_ge q c with h | h
        · exact absurd (I.done q d h hp) hnL
        · exact h
      obtain ⟨Φ', g', I'⟩ := I.commits hE R (q - c) c Φ Ω g (by have := hp.lt; omega) (fun k d' hk hp' => by
        exact hb _ (R.loud hp hl (by omega) hp'))
      rw [show c + (q - c) = q from by omega] at I'
      exact I'.loud_step hE hC R hp hnL hb hl fun a' w' Φ2 Ω2 g2 I2 => ih _ _ _ _ _ _ _ I2 (by omega)
    | false =>
      have hqc : c ≤ q := by
        rcases Nat.lt_or_ge q c with h | h
        · exact absurd (I.done q d h hp) hnL
        · exact h
      exact I.light_step hE R hp hqc hnL hb hl fun a' w' Ω2 I2 => ih _ _ _ _ _ _ _ I2 (by omega)

theorem drawnOK (hE : EOK P E) : DrawnOK P E := by
  intro bs r hC ops fr fr' s s' Φ a w Q h hf hr hn
  obtain ⟨hssa, h2⟩ := gd_eq (show gd (ssa (annot ops.toList 0 [])) (ob (walk E r ops.toList (insCnt (annot ops.toList 0 [])) (insMask (annot ops.toList 0 [])) (annot ops.toList 0 []) (order (annot ops.toList 0 []) (annot ops.toList 0 []) 0) ⟨0, [(ops.toList.length, s)], fr, s, .no⟩) fun w =>
    W.rec (motive := fun _ => Option (AF × S)) (fun dn _ fr s _ => gd (Nat.beq dn (2 ^ ops.toList.length - 1)) (some (fr, s))) w) = some (fr', s') from h)
  obtain ⟨Wf, h3, h4⟩ := ob_eq h2
  obtain ⟨dn, old, fr1, s1, mu1⟩ := Wf
  obtain ⟨h5, h6⟩ := gd_eq (show gd (Nat.beq dn (2 ^ ops.toList.length - 1)) (some (fr1, s1)) = some (fr', s') from h4)
  cases h6
  rw [beq_nat, Array.length_toList] at h5
  generalize order (annot ops.toList 0 []) (annot ops.toList 0 []) 0 = l at h3
  obtain ⟨st, t1, t2, t3⟩ := walk_trace l _ _ h3
  have R : Reg E r ops l st := by
    refine ⟨fun q i hq => ?_, by rw [t1], by rw [t1, Array.length_toList], by rw [t1], by rw [t2]; exact h5, ssa_eq hssa⟩
    obtain ⟨d, g1, g2⟩ := t3 q i hq
    exact ⟨d, by rw [← nth_eq]; exact g1, g2⟩
  have hno : ∀ i, ¬ Ls (Array.replicate ops.size false) i := by
    intro i h
    rw [Ls.getD, Array.getD_eq_getD_getElem?, Array.getElem?_replicate] at h
    split at h <;> cases h
  have I : Inv P bs E r ops l st Φ s w 0 (Array.replicate ops.size false) a w Φ Φ a := by
    refine ⟨by simp, Nat.zero_le _, fun q d hq => by omega, fun q d _ _ hL => absurd hL (hno _), fun q d _ hL => absurd hL (hno _), ⟨_, _, _, by rw [R.old0], by rw [t1]; exact hr.toHRel, fun _ _ h => h⟩,
      (fun id es e => by rw [R.mu0] at e; cases e), (fun id es e => by rw [R.mu0] at e; cases e), (fun _ q0 d0 _ _ hL => absurd hL (hno _)), (fun q d _ _ hL => absurd hL (hno _)), by rw [t1]; exact hr, by rw [t1]; exact hf, rfl, rfl,
      fun _ _ => rfl, by rw [t1]; exact Ext.refl _ _ _, fun _ _ => rfl, fun b m hb hm => ?_, fun b b' m m' hb _ _ hm _ => ?_, fun q d _ _ hL => absurd hL (hno _)⟩
    · rw [t1] at hb
      rw [hr.dom b hb] at hm; cases hm
    · rw [t1] at hb
      rw [hr.dom b hb] at hm; cases hm
  have hleft : left ops.size (Array.replicate ops.size false) = ops.size := by
    unfold left
    have : (List.range ops.size).filter (fun i => !(Array.replicate ops.size false).getD i false) = List.range ops.size := by
      rw [List.filter_eq_self]
      intro i _
      have := hno i
      rw [Ls.getD] at this
      simpa using this
    rw [this, List.length_range]
  exact any_sound hE hC R (fun Φ' w' a' p1 p2 p3 => by rw [t2] at p1 p2 p3; exact hn Φ' w' a' p1 p2 p3) ops.size 0 _ a w Φ Φ a I hleft
end
end Go.Ev

