/-
  A part of the proof that virgatetop.ModeLoop answers true for every text and every fuel: what the evaluator says holds of every run of the model. No condition.
-/
import Derived.Test.YtlndamldkcangaaGreatDoorEvA
import Derived.Laws.IdiomRangeMap
import Derived.Test.YtlndamldkcangaaGreatDoorEvD
import Derived.Test.YtlndamldkcangaaGreatDoorEvC
import GoSem.ClaimFn
set_option linter.all false
/-! A range over a map of several entries: the world's side. -/
namespace Go.Ev
open Go
set_option linter.unusedSimpArgs false
set_option linter.unusedVariables false
section
variable {P : Program} {w : World}
theorem run_next_at (ty : TypeId) (r bm since c0 : Nat) (seen : Array Nat) (es : Array MapEntry) (clock : Nat) (hr : w.heap[r]? = some (.mapIter (some bm) since seen c0)) (hb : w.heap[bm]? = some (.map es clock))
    (hold : ∀ x ∈ es.toList, x.born < since) (hsc : since ≤ c0) :
    ((leftOf es seen).size = 0 ∧ (Instr.next (.pointer (some ⟨r, 0, none⟩)) false ty).run P w = .ok (.tuple #[.bool false]) w) ∨
    ∃ e ∈ (leftOf es seen).toList, ∃ d : Nat, (Instr.next (.pointer (some ⟨r, 0, none⟩)) false ty).run P w = .ok (.tuple #[.bool true, e.key, e.val]) (putO { w with drawn := d } r (.mapIter (some bm) since (seen.push e.born) clock)) := by
  simp only [Instr.next, getObj, Sem.run_bind, Sem.run, hr, hb, Result.andThen, next_test_false seen es since c0 hold hsc, Bool.false_eq_true, if_false]
  unfold leftOf
  have hmem : ∀ x ∈ (Array.filter (fun e => !seen.contains e.born) es).toList, x.born < since := fun x hx => hold x (by simp at hx ⊢; exact hx.1)
  generalize Array.filter (fun e => !seen.contains e.born) es = L at hmem ⊢
  have e1 : L.filter (fun x => decide (x.born < since)) = L := Array.filter_eq_self.2 (fun x hx => by simpa using hmem x (by simpa using hx))
  have e2 : L.filter (fun x => decide (x.born ≥ since)) = #[] := by
    rw [Array.filter_eq_empty_iff]
    intro x hx
    have := hmem x (by simpa using hx)
    simp
    omega
  simp only [e1, e2, Array.append_empty]
  by_cases h0 : L.size = 0
  · left
    have : L = #[] := Array.eq_empty_of_size_eq_zero h0
    subst this
    refine ⟨rfl, ?_⟩
    simp [choose, Sem.run, Question.forced]
  · right
    have hne : L.isEmpty = false := by simp [Array.isEmpty, h0]
    simp only [hne, Bool.false_eq_true, if_false, Array.empty_append, Array.size_map]
    have hch : ∃ (j d : Nat), j < L.size ∧ (choose (Question.mapNext L.size)).run P w = .ok j { w with drawn := d } := by
      by_cases hf : L.size ≤ 1
      · exact ⟨0, w.drawn, by omega, by simp [choose, Sem.run, Question.forced, hf]⟩
      · exact ⟨_, w.drawn + 1, Nat.mod_lt _ (by omega), by
          simp only [choose, Sem.run, Question.forced, decide_eq_true_eq, hf, if_false, Question.cut]
          rfl⟩
    obtain ⟨j, d, hj, hrun⟩ := hch
    refine ⟨L[j], by simp, d, ?_⟩
    have hset : ∀ o, (setObj r o).run P { w with drawn := d } = .ok () (putO { w with drawn := d } r o) := fun o => by
      have hr' : ({ w with drawn := d } : World).heap[r]? = some (.mapIter (some bm) since seen c0) := hr
      simp only [setObj, Sem.run, hr', putO]
    simp only [hrun, Array.getElem?_map, Array.getElem?_eq_getElem hj, Option.map_some, Sem.run_bind, hset, Result.andThen]
    rfl
theorem run_entry_at (r bm since : Nat) (seen : Array Nat) (es : Array MapEntry) (clock : Nat) (e : MapEntry) (hr : w.heap[r]? = some (.mapIter (some bm) since (seen.push e.born) clock)) (hb : w.heap[bm]? = some (.map es clock))
    (he : e ∈ es.toList) (hn : (es.toList.map (·.born)).Nodup) : (Instr.entry (.pointer (some ⟨r, 0, none⟩))).run P w = .ok (.tuple #[e.key, e.val]) w := by
  have hf : es.find? (·.born == e.born) = some e := by rw [← Array.find?_toList]; exact find_born e es.toList hn he
  simp only [Instr.entry, getObj, Sem.run_bind, Sem.run, hr, hb, Result.andThen, Array.back?_push, bne_self_eq_false, Bool.false_eq_true, if_false, hf]
  rfl
end
end Go.Ev

/-! Ranges over maps of several entries. -/
namespace Go.Ev
open Go
set_option linter.unusedSimpArgs false
set_option linter.unusedVariables false
section
variable {P : Program} {E : Env} {bs : List Deferred} {Φ : Ren} {w : World}
theorem noDf_eq {fr : AF} (h : noDf fr = true) : fr.df = [] := by
  obtain ⟨tm, nt, df⟩ := fr
  cases df with
  | nil => rfl
  | cons => cases h
theorem DfRs.nil_inv {ds : List Deferred} (h : DfRs P bs Φ [] ds) : ds = bs := by cases h; rfl
theorem bMit_eq {β : Type} {o : AB} {f : Nat → Nat → Option β} {b : β} (h : bMit o f = some b) : ∃ m n, o = .mit (some m) n ∧ f m n = some b := by
  unfold bMit at h; split at h <;> first | exact ⟨_, _, rfl, h⟩ | cases h
theorem tmSame_get {t u : Tr Value} : ∀ {n : Nat}, tmSame t u n = true → ∀ k v, k < n → t.get k = some v → u.get k = some v := by
  intro n
  induction n with
  | zero => intro _ k v hk; omega
  | succ n ih =>
    intro h k v hk hv
    have h' : band (Option.casesOn (motive := fun _ => Bool) (t.get n) true (fun v => Option.casesOn (motive := fun _ => Bool) (u.get n) false (fun w => vEqN 20 v w))) (tmSame t u n) = true := h
    rw [band_eq, Bool.and_eq_true] at h'
    by_cases e : k = n
    · subst e
      have h1 := h'.1
      rw [hv] at h1
      cases hu : u.get k with
      | none => rw [hu] at h1; cases h1
      | some y => rw [hu] at h1; rw [vEqN_eq 20 _ _ h1]
    · exact ih h'.2 k v (by omega) hv
theorem bornIn_mem {n : Nat} : ∀ {es : List MapEntry}, bornIn n es = false → n ∉ es.map (·.born) := by
  intro es
  induction es with
  | nil => intro _ h; cases h
  | cons e es ih =>
    intro h hm
    have h' : bor (Nat.beq n e.born) (bornIn n es) = false := h
    rw [bor_eq, Bool.or_eq_false_iff] at h'
    rcases List.mem_cons.1 hm with h1 | h1
    · have := beq_nat.2 h1
      rw [this] at h'; cases h'.1
    · exact ih h'.2 h1
theorem bornOk_spec {since : Nat} : ∀ {es : List MapEntry}, bornOk since es = true → (∀ e ∈ es, e.born < since) ∧ (es.map (·.born)).Nodup := by
  intro es
  induction es with
  | nil => intro _; exact ⟨(fun e h => by cases h), List.nodup_nil⟩
  | cons e es ih =>
    intro h
    have h' : band (band (Nat.blt e.born since) (bnot (bornIn e.born es))) (bornOk since es) = true := h
    rw [band_eq, Bool.and_eq_true, band_eq, Bool.and_eq_true, blt_nat, bnot_eq, Bool.not_eq_true'] at h'
    obtain ⟨⟨h1, h2⟩, h3⟩ := h'
    obtain ⟨i1, i2⟩ := ih h3
    refine ⟨fun x hx => ?_, ?_⟩
    · rcases List.mem_cons.1 hx with rfl | hx
      · exact h1
      · exact i1 x hx
    · rw [List.map_cons, List.nodup_cons]; exact ⟨bornIn_mem h2, i2⟩
theorem Rel.none {s : S} (hr : Rel Φ s w) (w' : World) : Rel Φ ⟨.e, s.nx⟩ w' :=
  ⟨⟨(fun a B h => by rw [get_e] at h; cases h), (fun a a' B B' m m' h => by rw [get_e] at h; cases h), (fun a B p P h => by rw [get_e] at h; cases h), (fun a B p P m m' h => by rw [get_e] at h; cases h)⟩,
    hr.dom, (fun a B p h => by rw [get_e] at h; cases h), hr.gl⟩
theorem not_im_e {β : Nat} : ¬ Im Φ (Tr.e) β := by rintro ⟨a, B, l, h, _⟩; rw [get_e] at h; cases h
theorem ERs.born : ∀ {l l' : List MapEntry}, ERs Φ l l' → l'.map (·.born) = l.map (·.born)
  | _, _, .nil => rfl
  | _, _, .cons _ _ _ _ h hl => by simp [h.2.2, ERs.born hl]
theorem ERs.back : ∀ {l l' : List MapEntry}, ERs Φ l l' → ∀ e' ∈ l', ∃ e ∈ l, ER Φ e e'
  | _, _, .cons e e' l l' h hl, x, hx => by
    rcases List.mem_cons.1 hx with rfl | hx
    · exact ⟨e, List.mem_cons_self .., h⟩
    · obtain ⟨y, h1, h2⟩ := ERs.back hl x hx
      exact ⟨y, List.mem_cons_of_mem _ h1, h2⟩
/-- the frame is as it was, as far as it was known -/
theorem FrR.back {Φ' : Ren} {tm0 : Tr Value} {nt : Nat} {fr : AF} {a0 a : Act} (hle : Φ.le Φ') (h0 : FrR P bs Φ ⟨tm0, nt, []⟩ a0) (h : FrR P bs Φ' fr a) (hd : fr.df = []) (hn : fr.nt = nt)
    (hs : tmSame tm0 fr.tm nt = true) : FrR P bs Φ ⟨tm0, nt, []⟩ a := by
  refine ⟨⟨h0.tm.gl, fun t v hv => ?_⟩, by rw [h.nt, hn], ?_⟩
  · obtain ⟨v0, e1, e2⟩ := h0.tm.get t v hv
    have hlt : t < nt := by
      have h1 : t < a0.tmps.size := by
        rcases Nat.lt_or_ge t a0.tmps.size with h' | h'
        · exact h'
        · rw [Array.getElem?_eq_none h'] at e1; cases e1
      rw [h0.nt] at h1; exact h1
    obtain ⟨v1, e3, e4⟩ := h.tm.get t v (tmSame_get hs t v hlt hv)
    exact ⟨v1, e3, VR.restrict (fun b l hb => by rw [hb, hle b l hb]) e4 e2⟩
  · have := h.df
    rw [hd] at this
    rw [this.nil_inv]; exact .nil
/-- a region whose first operation is told -/
theorem region_head {rc : Rec} {o : Oper} {rest : List Oper} {ops : Array Oper} (hE : EOK P E) (hC : CallOK P rc) (hops : ops.toList = o :: rest) (hg : o.guard = none) {d : Tmp} (hdst : o.dst = some d) {v v' : Value} {w1 : World} {a : Act}
    {tm : Tr Value} {nt : Nat} {df : List Dfr} (hf : FrR P bs Φ ⟨tm, nt, df⟩ a) (hd : d < nt) (hx : (execOp a.eval o).run P w = .ok (.value v') w1) (hv : VR Φ v v') {s s2 : S} {fr2 : AF} (hr : Rel Φ s w1)
    (hs : seqOps E rc ops.toList rest ⟨tm.set d (some v), nt, df⟩ s = some (fr2, s2)) {id : Nat} {Q : Exit → Act → World → Prop}
    (hn : ∀ Φ' w' a', FrR P bs Φ' fr2 a' → Rel Φ' s2 w' → Ext Φ s w1 Φ' s2 w' → Q .normal a' w') : (Code.region id ops false).wp P Q a w := by
  refine wp_region ?_
  have hsz : ops.size = rest.length + 1 := by rw [← Array.length_toList, hops]; rfl
  rw [hsz, List.range_eq_range', List.range'_succ]
  have ho : ops[0]? = some o := by
    have : ops.toList[0]? = some o := by rw [hops]; rfl
    simpa using this
  have hw : Region.wanted o (yielded ops a.tmps) = true := by simp [Region.wanted, hg]
  simp only [wpOps, ho, hw, if_true]
  left
  unfold Oper.wp
  rw [hx, Oper.upon_value, hdst]
  have hp : put ⟨tm, nt, df⟩ s v (some d) = some (⟨tm.set d (some v), nt, df⟩, s) := by
    show gd (Nat.blt d nt) _ = _
    rw [blt_nat.2 hd]; rfl
  obtain ⟨_, q1⟩ := put_sound hp hf hv
  exact seqOps_sound hE hC rest 1 _ s Φ _ w1 (by rw [hops]; rfl) hs q1 hr hn
theorem rgAll_mem {rc : Rec} {c : Operand} {b2 : Nat} {all2 rest2 all3 rest3 : List Oper} {cd : Code} {tm0 : Tr Value} {nt nx : Nat} {it tn te : Tmp} : ∀ {es : List MapEntry},
    rgAll E rc c b2 all2 rest2 all3 rest3 cd tm0 nt nx it tn te es = true →
    (rgHead E rc c all2 rest2 tm0 nt nx tn (.tuple ⟨[.bool false]⟩) false (rgEnd tm0 nt)).isSome = true ∧
    ∀ e ∈ es, (rgHead E rc c all2 rest2 tm0 nt nx tn (.tuple ⟨[.bool true, e.key, e.val]⟩) true (rgTail E rc b2 all3 rest3 cd tm0 nt it te (.tuple ⟨[e.key, e.val]⟩))).isSome = true := by
  intro es
  induction es with
  | nil => intro h; exact ⟨h, fun e h => by cases h⟩
  | cons e es ih =>
    intro h
    have h' : band (rgHead E rc c all2 rest2 tm0 nt nx tn (.tuple ⟨[.bool true, e.key, e.val]⟩) true (rgTail E rc b2 all3 rest3 cd tm0 nt it te (.tuple ⟨[e.key, e.val]⟩))).isSome
      (rgAll E rc c b2 all2 rest2 all3 rest3 cd tm0 nt nx it tn te es) = true := h
    rw [band_eq, Bool.and_eq_true] at h'
    obtain ⟨i1, i2⟩ := ih h'.2
    refine ⟨i1, fun x hx => ?_⟩
    rcases List.mem_cons.1 hx with rfl | hx
    · exact h'.1
    · exact i2 x hx
end
end Go.Ev

/-! Ranges over maps of several entries: the loop. -/
namespace Go.Ev
open Go
set_option linter.unusedSimpArgs false
set_option linter.unusedVariables false
section
variable {P : Program} {E : Env} {bs : List Deferred} {Φ : Ren} {w : World}
theorem rgNext_eq {o : Oper} {p : Tmp × Tmp} (h : rgNext o = some p) : o.guard = none ∧ o.dst = some p.2 ∧ o.op = .next (.tmp p.1) false := by
  unfold rgNext at h; split at h
  · cases h; exact ⟨rfl, rfl, rfl⟩
  · cases h
theorem rgEntry_eq {o : Oper} {p : Tmp × Tmp} (h : rgEntry o = some p) : o.guard = none ∧ o.dst = some p.2 ∧ o.op = .entry (.tmp p.1) := by
  unfold rgEntry at h; split at h
  · cases h; exact ⟨rfl, rfl, rfl⟩
  · cases h
theorem isSome_unit {x : Option Unit} (h : x.isSome = true) : x = some () := by cases x with | none => cases h | some u => rfl
/-- the world goes on as it was but for one block and those behind -/
structure Keeps (r : Nat) (w wk : World) : Prop where
  heap : ∀ β, β < w.heap.size → β ≠ r → wk.heap[β]? = w.heap[β]?
  size : w.heap.size ≤ wk.heap.size
  tape : wk.tape = w.tape
  os : wk.os = w.os
  out : wk.output = w.output
theorem Keeps.ext {r : Nat} {w wk w' : World} {Φ' : Ren} {s' : S} {nx : Nat} (h : Keeps r w wk) (x : Ext Φ ⟨.e, nx⟩ wk Φ' s' w') : Keeps r w w' :=
  ⟨fun β hβ hn => by rw [x.frame β (by have := h.size; omega) not_im_e]; exact h.heap β hβ hn, Nat.le_trans h.size x.size, x.tape.trans h.tape, x.os.trans h.os, x.output.trans h.out⟩
theorem rg_sound {rc : Rec} {n : Nat} (hE : EOK P E) (hC : CallOK P rc) (ih : CodeOK P rc n) {bid b2 id2 id3 : Nat} {ops ops3 : Array Oper} {o2 o3 : Oper} {rest2 rest3 : List Oper} {c : Operand} {cd : Code} {fr : AF} {s : S} {x : Ex} {fr' : AF} {s' : S}
    (ho2 : ops.toList = o2 :: rest2) (ho3 : ops3.toList = o3 :: rest3) {it tn te : Tmp} (hn2 : rgNext o2 = some (it, tn)) (hn3 : rgEntry o3 = some (it, te))
    (h : rgGo E rc fr s c b2 (o2 :: rest2) rest2 (o3 :: rest3) rest3 cd it tn te = some (x, fr', s')) {a : Act} (hf : FrR P bs Φ fr a) (hr : Rel Φ s w) :
    CdR P bs Φ a s w x fr' s' (fun Q => (Code.block bid (.loop (.seq (.region id2 ops false) (.seq (.cond c .skip (.exit bid)) (.block b2 (.seq (.region id3 ops3 false) cd)))))).wp P Q a w) := by
  intro Q hn
  obtain ⟨v, g4, h4⟩ := ob_eq h
  obtain ⟨ad, rfl, h5⟩ := vPtr_eq h4
  obtain ⟨g5, h6⟩ := gd_eq h5
  obtain ⟨o, g6, h7⟩ := ob_eq h6
  obtain ⟨m, since, rfl, h8⟩ := bMit_eq h7
  obtain ⟨om, g7, h9⟩ := ob_eq h8
  obtain ⟨es, clock, rfl, h10⟩ := bMap_eq h9
  obtain ⟨g8, h11⟩ := gd_eq (show gd _ (some (Ex.normal, (⟨Tr.set (Tr.set fr.tm tn none) te none, fr.nt, []⟩ : AF), dropB s ad.block)) = some (x, fr', s') from h10)
  cases h11
  simp only [band_eq, bnot_eq, Bool.and_eq_true, Bool.not_eq_true', blt_nat, ble_nat] at g8
  obtain ⟨⟨⟨gdf, gt1, gt2⟩, gn1, gn2⟩, ⟨gb, gsc⟩, gall⟩ := g8
  rw [beq_nat] at g5
  have hne1 : it ≠ tn := fun e => by rw [beq_nat.2 e] at gt1; cases gt1
  have hne2 : it ≠ te := fun e => by rw [beq_nat.2 e] at gt2; cases gt2
  obtain ⟨hend, hround⟩ := rgAll_mem gall
  have hend := isSome_unit hend
  obtain ⟨hold0, hnd0⟩ := bornOk_spec gb
  -- the world's iterator and map
  obtain ⟨itv, e1, e2⟩ := hf.tm.get it _ g4
  obtain ⟨ad', rfl, ⟨l, hl, rfl⟩, hsp⟩ := e2.ptr_inv
  obtain ⟨l', f1, f2, m', f3, f4⟩ := hr.toHRel.live _ _ g6
  rw [hl] at f1; cases f1
  obtain ⟨lm, f5, rfl⟩ := f4
  obtain ⟨es', f6, f7⟩ := map_row hr.toHRel g7 f5
  have hlt : l.b < w.heap.size := lt_of_get f3
  have hltm : lm.b < w.heap.size := lt_of_get f6
  have hnem : lm.b ≠ l.b := fun e => by rw [e, f3] at f6; cases f6
  have hold : ∀ x ∈ es'.toList, x.born < since := fun x hx => by
    obtain ⟨y, q1, q2⟩ := f7.back x hx
    have := hold0 y q1
    have q3 : x.born = y.born := q2.2.2
    omega
  have hnd : (es'.toList.map (·.born)).Nodup := by rw [f7.born]; exact hnd0
  have hf0 : FrR P bs Φ ⟨Tr.set (Tr.set fr.tm tn none) te none, fr.nt, []⟩ a := by
    refine ⟨⟨hf.tm.gl, fun t v hv => hf.tm.get t v ?_⟩, hf.nt, ?_⟩
    · rw [get_set] at hv
      split at hv
      · cases hv
      · rw [get_set] at hv
        split at hv
        · cases hv
        · exact hv
    · have := hf.df
      rw [noDf_eq gdf] at this; exact this
  have hgit : (Tr.set (Tr.set fr.tm tn none) te none).get it = some (.pointer (some ad)) := by
    rw [get_set, if_neg hne2, get_set, if_neg hne1]
    exact g4
  -- behind the loop
  have hdone : ∀ wk ak, FrR P bs Φ ⟨Tr.set (Tr.set fr.tm tn none) te none, fr.nt, []⟩ ak → Keeps l.b w wk → Q .normal ak wk := by
    intro wk ak hfk hk
    have hr1 : Rel Φ (dropB s ad.block) w := (hr.less (s' := dropB s ad.block) (fun a B hg => by
      have : (s.h.set ad.block none).get a = some B := by cases s; exact hg
      rw [get_set] at this
      split at this
      · cases this
      · exact this) (by cases s; rfl)).1
    have hnim : ¬ Im Φ (dropB s ad.block).h l.b := by
      rintro ⟨b, B, l1, q1, q2, q3⟩
      have q1' : (s.h.set ad.block none).get b = some B := by cases s; exact q1
      rw [get_set] at q1'
      split at q1'
      · cases q1'
      · rename_i hbne
        rcases hr.toHRel.apart b ad.block B _ l1 l q1' g6 hbne q2 hl q3 with h1 | h1
        · exact hr.toHRel.heir b B ad.block _ q1' h1 g6
        · cases h1
    refine hn Φ wk ak hfk ⟨hr1.toHRel.same fun β hi => hk.heap β (Im.lt hr1.toHRel hi) (fun e => hnim (e ▸ hi)), hr1.dom, hr1.pas, hr1.gl⟩ ?_
    refine ⟨by cases s; exact Nat.le_refl _, fun _ _ => rfl, hk.size, fun β hβ hi => hk.heap β hβ (fun e => hi ⟨ad.block, _, l, g6, hl, e.symm⟩), fun β hi => .inl ?_, hk.tape, hk.os, hk.out⟩
    obtain ⟨b, B, l1, q1, q2, q3⟩ := hi
    have q1' : (s.h.set ad.block none).get b = some B := by cases s; exact q1
    rw [get_set] at q1'
    split at q1'
    · cases q1'
    · exact ⟨b, B, l1, q1', q2, q3⟩
  refine wp_block (wp_loop_rounds (es'.size + 1) ?_)
  have heval : ∀ {Φ' : Ren} {frx : AF} {ax : Act}, FrR P bs Φ' frx ax → Φ.le Φ' → frx.tm.get it = some (.pointer (some ad)) → ax.eval (.tmp it) = .pointer (some ⟨l.b, 0, none⟩) := by
    intro Φ' frx ax hx hle hg
    obtain ⟨u, u1, u2⟩ := hx.tm.get it _ hg
    obtain ⟨ad2, rfl, ⟨l2, hl2, rfl⟩, _⟩ := u2.ptr_inv
    rw [hle _ _ hl] at hl2; cases hl2
    show ax.tmps.getD it undef = _
    rw [Array.getD_eq_getD_getElem?, u1]
    simp [f2, g5]
  obtain ⟨gd2, dst2, op2⟩ := rgNext_eq hn2
  obtain ⟨gd3, dst3, op3⟩ := rgEntry_eq hn3
  have step : ∀ (K : Act → World → Prop) (seen : Array Nat) (c0 : Nat) (ak : Act) (wk : World), FrR P bs Φ ⟨Tr.set (Tr.set fr.tm tn none) te none, fr.nt, []⟩ ak → Keeps l.b w wk →
      wk.heap[l.b]? = some (.mapIter (some lm.b) since seen c0) → since ≤ c0 →
      (∀ e' ∈ (leftOf es' seen).toList, ∀ ak' wk', FrR P bs Φ ⟨Tr.set (Tr.set fr.tm tn none) te none, fr.nt, []⟩ ak' → Keeps l.b w wk' → wk'.heap[l.b]? = some (.mapIter (some lm.b) since (seen.push e'.born) clock) → K ak' wk') →
      (Code.seq (.region id2 ops false) (.seq (.cond c .skip (.exit bid)) (.block b2 (.seq (.region id3 ops3 false) cd)))).wp P (Exit.then K (Exit.inBlock bid Q)) ak wk := by
    intro K seen c0 ak wk hfk hk hobj hc0 hK
    have hmap : wk.heap[lm.b]? = some (.map es' clock) := by rw [hk.heap _ hltm hnem]; exact f6
    have hex : ∀ v' w1, (Instr.next (.pointer (some ⟨l.b, 0, none⟩)) false o2.type).run P wk = .ok v' w1 → (execOp ak.eval o2).run P wk = .ok (.value v') w1 := by
      intro v' w1 hh
      have he := heval hfk (fun _ _ h => h) hgit
      obtain ⟨dst, op, type, pos, after, guard⟩ := o2
      simp only at op2
      subst op2
      show (do pure (Next.value (← Instr.next (ak.eval (.tmp it)) false type)) : Sem Next).run P wk = _
      rw [he]
      simp only [Sem.run_bind, hh, Result.andThen_ok, Sem.run_pure]
    refine wp_seq ?_
    rcases run_next_at (P := P) o2.type l.b lm.b since c0 seen es' clock hobj hmap hold hc0 with ⟨_, hrun⟩ | ⟨e', he', d, hrun⟩
    · obtain ⟨⟨fr2, s2⟩, j1, j2⟩ := ob_eq hend
      obtain ⟨tv, j3, j4⟩ := ob_eq (show (ob (opnd fr2.tm c) fun t => vBool t fun t => gd (bi false t (bnot t)) (rgEnd _ _ fr2 s2)) = some () from j2)
      obtain ⟨t, rfl, j5⟩ := vBool_eq j4
      obtain ⟨j6, j7⟩ := gd_eq j5
      obtain ⟨j8, _⟩ := gd_eq (show gd (band (noDf fr2) (band (Nat.beq fr2.nt fr.nt) (tmSame _ fr2.tm fr.nt))) (some ()) = some () from j7)
      rw [band_eq, Bool.and_eq_true, band_eq, Bool.and_eq_true, beq_nat] at j8
      have ht : t = false := by cases t with | false => rfl | true => cases j6
      subst ht
      refine region_head hE hC ho2 gd2 dst2 hfk gn1 (hex _ _ hrun) (.tup _ _ (.cons _ _ _ _ (.bool false) .nil)) (hr.none wk) (by rw [ho2]; exact j1) fun Φ2 w2 a2 p1 p2 p3 => ?_
      have hcv : a2.eval c = .bool false := by
        have := opnd_sound p1.tm j3
        generalize a2.eval c = cv at this
        cases this; rfl
      refine wp_seq (wp_cond_false hcv (wp_exit ?_))
      show (if bid = bid then Q .normal a2 w2 else _)
      rw [if_pos rfl]
      exact hdone w2 a2 (FrR.back (p3.le hr.dom) hfk p1 (noDf_eq j8.1) j8.2.1 j8.2.2) (hk.ext p3)
    · obtain ⟨e, he, hER⟩ := f7.back e' (mem_left he').1
      obtain ⟨⟨fr2, s2⟩, j1, j2⟩ := ob_eq (isSome_unit (hround e he))
      obtain ⟨tv, j3, j4⟩ := ob_eq (show (ob (opnd fr2.tm c) fun t => vBool t fun t => gd (bi true t (bnot t)) (rgTail E rc b2 (o3 :: rest3) rest3 cd (Tr.set (Tr.set fr.tm tn none) te none) fr.nt it te (.tuple ⟨[e.key, e.val]⟩) fr2 s2)) = some () from j2)
      obtain ⟨t, rfl, j5⟩ := vBool_eq j4
      obtain ⟨j6, j7⟩ := gd_eq j5
      have ht : t = true := by cases t with | true => rfl | false => cases j6
      subst ht
      obtain ⟨j8, j9⟩ := gd_eq j7
      rw [band_eq, Bool.and_eq_true, blt_nat] at j8
      obtain ⟨⟨fr4, s4⟩, j10, j11⟩ := ob_eq j9
      obtain ⟨⟨x5, fr5, s5⟩, j12, j13⟩ := ob_eq (show (ob (rc.cd cd fr4 s4) (rgBack b2 (Tr.set (Tr.set fr.tm tn none) te none) fr.nt)) = some () from j11)
      obtain ⟨j14, _⟩ := gd_eq (show gd (band (band (endsIn b2 x5) (noDf fr5)) (band (Nat.beq fr5.nt fr.nt) (tmSame (Tr.set (Tr.set fr.tm tn none) te none) fr5.tm fr.nt))) (some ()) = some () from j13)
      simp only [band_eq, Bool.and_eq_true, beq_nat] at j14
      have hltk : l.b < wk.heap.size := lt_of_get hobj
      have hk1 : Keeps l.b w (putO { wk with drawn := d } l.b (.mapIter (some lm.b) since (seen.push e'.born) clock)) :=
        ⟨fun β hβ hne => by rw [putO_other hne]; exact hk.heap β hβ hne, by rw [putO_size]; exact hk.size, hk.tape, hk.os, hk.out⟩
      refine region_head hE hC ho2 gd2 dst2 hfk gn1 (hex _ _ hrun) (.tup _ _ (.cons _ _ _ _ (.bool true) (.cons _ _ _ _ hER.1 (.cons _ _ _ _ hER.2.1 .nil)))) (hr.none _) (by rw [ho2]; exact j1) fun Φ2 w2 a2 p1 p2 p3 => ?_
      have hcv : a2.eval c = .bool true := by
        have := opnd_sound p1.tm j3
        generalize a2.eval c = cv at this
        cases this; rfl
      have hle2 := p3.le hr.dom
      refine wp_seq (wp_cond_true hcv (wp_skip ?_))
      show (Code.block b2 (.seq (.region id3 ops3 false) cd)).wp P _ a2 w2
      have hk2 := hk1.ext p3
      have hobj2 : w2.heap[l.b]? = some (.mapIter (some lm.b) since (seen.push e'.born) clock) := by
        rw [p3.frame _ (by rw [putO_size]; exact hltk) not_im_e]; exact putO_same hltk
      have hmap2 : w2.heap[lm.b]? = some (.map es' clock) := by rw [hk2.heap _ hltm hnem]; exact f6
      have hent := run_entry_at (P := P) l.b lm.b since seen es' clock e' hobj2 hmap2 (mem_left he').1 hnd
      have hsame : fr2.tm.get it = some (.pointer (some ad)) := by
        have h1 := j8.1
        unfold sameAt at h1
        rw [hgit] at h1
        cases hu : fr2.tm.get it with
        | none => rw [hu] at h1; cases h1
        | some y => rw [hu] at h1; rw [← vEqN_eq 20 _ _ h1]
      have hex3 : (execOp a2.eval o3).run P w2 = .ok (.value (.tuple #[e'.key, e'.val])) w2 := by
        have he3 := heval p1 hle2 hsame
        obtain ⟨dst, op, type, pos, after, guard⟩ := o3
        simp only at op3
        subst op3
        show (do pure (Next.value (← Instr.entry (a2.eval (.tmp it)))) : Sem Next).run P w2 = _
        rw [he3]
        simp only [Sem.run_bind, hent, Result.andThen_ok, Sem.run_pure]
      refine wp_block (wp_seq (region_head (tm := fr2.tm) (nt := fr2.nt) (df := fr2.df) hE hC ho3 gd3 dst3 p1 j8.2 hex3 (.tup _ _ (.cons _ _ _ _ (hER.1.mono hle2) (.cons _ _ _ _ (hER.2.1.mono hle2) .nil))) p2 (by rw [ho3]; exact j10)
        fun Φ4 w4 a4 r1 r2 r3 => ?_))
      show cd.wp P _ a4 w4
      refine (ih cd fr4 s4 x5 fr5 s5 j12 Φ4 a4 w4 r1 r2).1 _ fun Φ5 w5 a5 t1 t2 t3 => ?_
      have x15 := (p3.trans r3).trans t3
      have hgoal : K a5 w5 := hK e' he' a5 w5 (FrR.back (x15.le hr.dom) hfk t1 (noDf_eq j14.1.2) j14.2.1 j14.2.2) (hk1.ext x15) (by
        rw [x15.frame _ (by rw [putO_size]; exact hltk) not_im_e]; exact putO_same hltk)
      cases x5 with
      | normal => exact hgoal
      | ret => cases j14.1.1
      | exit id =>
        have hid : id = b2 := beq_nat.1 j14.1.1
        subst hid
        show (if id = id then _ else _)
        rw [if_pos rfl]
        exact hgoal
  have key : ∀ (k : Nat) (seen : Array Nat) (c0 : Nat) (ak : Act) (wk : World), (leftOf es' seen).size ≤ k → FrR P bs Φ ⟨Tr.set (Tr.set fr.tm tn none) te none, fr.nt, []⟩ ak → Keeps l.b w wk →
      wk.heap[l.b]? = some (.mapIter (some lm.b) since seen c0) → since ≤ c0 →
      Code.rounds P (.seq (.region id2 ops false) (.seq (.cond c .skip (.exit bid)) (.block b2 (.seq (.region id3 ops3 false) cd)))) (Exit.inBlock bid Q) (k + 1) ak wk := by
    intro k
    induction k with
    | zero =>
      intro seen c0 ak wk hz hfk hk hobj hc0
      rw [rounds_succ]
      refine step _ seen c0 ak wk hfk hk hobj hc0 fun e' he' => ?_
      have : 0 < (leftOf es' seen).toList.length := List.length_pos_of_mem he'
      simp at this; omega
    | succ k ihk =>
      intro seen c0 ak wk hz hfk hk hobj hc0
      rw [rounds_succ]
      refine step _ seen c0 ak wk hfk hk hobj hc0 fun e' he' ak' wk' h1 h2 h3 => ?_
      exact ihk _ _ ak' wk' (by have := left_shrinks es' seen e' he'; omega) h1 h2 h3 gsc
  refine key es'.size #[] since a w ?_ hf0 ⟨fun _ _ _ => rfl, Nat.le_refl _, rfl, rfl, rfl⟩ f3 (Nat.le_refl _)
  unfold leftOf
  exact Array.size_filter_le
end
end Go.Ev

/-! The whole. -/
namespace Go.Ev
open Go
set_option linter.unusedSimpArgs false
set_option linter.unusedVariables false
section
variable {P : Program} {E : Env}
theorem rgOK (hE : EOK P E) : RgOK P E := by
  intro bs rc n hC ih id c fr s x fr' s' Φ a w h hf hr
  unfold rgBlock at h
  split at h
  · obtain ⟨h1, h2⟩ := gd_eq h
    rw [beq_nat] at h1
    subst h1
    unfold rgRun at h2
    split at h2
    · rename_i o2 rest2 o3 rest3 e2 e3
      obtain ⟨⟨it, tn⟩, g1, k1⟩ := ob_eq h2
      have k1' : (ob (rgEntry o3) (pr fun it' te => gd (Nat.beq it it') (rgGo E rc fr s _ _ (o2 :: rest2) rest2 (o3 :: rest3) rest3 _ it tn te))) = some (x, fr', s') := k1
      obtain ⟨⟨it', te⟩, g2, k2⟩ := ob_eq k1'
      obtain ⟨g3, k3⟩ := gd_eq k2
      rw [beq_nat] at g3
      subst g3
      exact rg_sound hE hC ih e2 e3 g1 g2 k3 hf hr
    · cases h2
  · cases h
/-- WHAT THE EVALUATOR SAYS HOLDS -/
theorem lvl_ok (hE : EOK P E) (hO : OvOK P E) (n : Nat) : CallOK P (lvl E n) := (lvl_sound hE hO (drawnOK hE) (rgOK hE) n).1
end
end Go.Ev

/-! The environment of a program. -/
namespace Go.Ev
open Go
set_option linter.unusedSimpArgs false
set_option linter.unusedVariables false

/-- a trie out of a list -/
noncomputable def ofList {α : Type} (l : List (Nat × α)) : Tr α := List.rec (motive := fun _ => Tr α) .e (fun p _ ih => Tr.set ih p.1 (some p.2)) l
theorem get_ofList {α : Type} : ∀ (l : List (Nat × α)) (k : Nat) (v : α), (ofList l).get k = some v → (k, v) ∈ l := by
  intro l
  induction l with
  | nil => intro k v h; rw [show ofList ([] : List (Nat × α)) = Tr.e from rfl, get_e] at h; cases h
  | cons p l ih =>
    intro k v h
    have h' : (Tr.set (ofList l) p.1 (some p.2)).get k = some v := h
    rw [get_set] at h'
    by_cases e : k = p.1
    · rw [if_pos e] at h'
      cases h'
      subst e
      exact List.mem_cons_self
    · rw [if_neg e] at h'
      exact List.mem_cons_of_mem _ (ih k v h')
inductive AllL {α : Type} (Q : α → Prop) : List α → Prop
  | nil : AllL Q []
  | cons (x : α) (l : List α) (h : Q x) (hl : AllL Q l) : AllL Q (x :: l)
theorem AllL.mem {α : Type} {Q : α → Prop} : ∀ {l : List α}, AllL Q l → ∀ x ∈ l, Q x := by
  intro l h
  induction h with
  | nil => intro x hx; cases hx
  | cons y l hy _ ih =>
    intro x hx
    rcases List.mem_cons.1 hx with rfl | hx
    · exact hy
    · exact ih x hx

noncomputable def aggB (d : TypeDesc) : Bool := match d with | .struct _ | .array _ _ => true | _ => false
noncomputable def aggV (v : Value) : Bool := match v with | .agg _ => true | _ => false
noncomputable def fieldsIn (n : Nat) (d : TypeDesc) : Bool := match d with | .struct fs => fs.toList.all fun f => Nat.blt f.type n | _ => true
noncomputable def tiChk (n : Nat) (d : TypeDesc) (i : TypeInfo) (z : Value) : Bool :=
  band (plainL z.cells.toList) (band (Nat.beq z.cells.toList.length i.size) (band (bi (aggB d) (aggV z) (bnot (aggV z))) (fieldsIn n d)))
theorem TIok.of {P : Program} {t n : Nat} {d : TypeDesc} {i : TypeInfo} {z : Value} (hu : P.underlying t = some d) (hi : P.info? t = some i) (hz : i.zero = some z) (hn : P.types.size = n) (h : tiChk n d i z = true) :
    TIok P t ⟨d, i.size, i.bytes, z.cells.toList, aggB d⟩ := by
  simp only [tiChk, band_eq, Bool.and_eq_true, beq_nat] at h
  obtain ⟨h1, h2, h3, h4⟩ := h
  refine ⟨hu, ⟨i, z, hi, rfl, rfl, hz, rfl, fun e => ?_, fun e => ?_⟩, ?_, h1, h2, fun fs hfs f hf => ?_⟩
  · have e' : aggB d = true := e
    rw [e', bi_true] at h3
    cases z with
    | agg c => rfl
    | _ => cases h3
  · have e' : aggB d = false := e
    rw [e', bi_false, bnot_eq] at h3
    cases z with
    | agg c => cases h3
    | _ => rfl
  · unfold aggB; cases d <;> rfl
  · have hd : d = .struct fs := hfs
    subst hd
    have h4' : (fs.toList.all fun f => Nat.blt f.type n) = true := h4
    have := List.all_eq_true.1 h4' f hf
    have hlt : f.type < n := blt_nat.1 this
    rw [← hn] at hlt
    exact ⟨P.types[f.type], by unfold Tables.info?; simp [hlt]⟩

/-- what is told of a function -/
structure FnOk (P : Program) (f : FuncId) (fn : Func) : Prop where
  get : P.funcs[f]? = some fn
  rn : fn.name ≠ "runtime.NumGoroutine"
  ext : fn.body = none → ∀ (args args' : List Value) (v : Value) (Φ : Ren) (w : World), extern fn args = some v → VRs Φ args args' → ∃ v', VR Φ v v' ∧ (callFunc f ⟨args'⟩).run P w = .ok (.value v') w
theorem FnOk.body {P : Program} {f : FuncId} {fn : Func} {c : Code} (h : P.funcs[f]? = some fn) (hn : (fn.name == "runtime.NumGoroutine") = false) (hb : fn.body = some c) : FnOk P f fn :=
  ⟨h, (fun e => by rw [e] at hn; cases hn), (fun e => by rw [hb] at e; cases e)⟩
theorem EOK.of {P : Program} {E : Env} {ts : List (Nat × TI)} {fs : List (Nat × Func)} (hts : E.ty = ofList ts) (hfs : E.fn = ofList fs) (ht : AllL (fun p => TIok P p.1 p.2) ts) (hf : AllL (fun p => FnOk P p.1 p.2) fs)
    (hi : AllL (fun p : TypeId × Nat × TypeId => liesAt P P.depth p.1 1 p.2.1 p.2.2 1 = true) E.inn) (hm : P.follows .mixedOrders = true) : EOK P E where
  ty := fun t ti h => ht.mem (t, ti) (get_ofList ts t ti (by rw [← hts]; exact h))
  fn := fun f fn h => (hf.mem (f, fn) (get_ofList fs f fn (by rw [← hfs]; exact h))).get
  rn := fun f fn h => (hf.mem (f, fn) (get_ofList fs f fn (by rw [← hfs]; exact h))).rn
  ext := fun f fn h hb => (hf.mem (f, fn) (get_ofList fs f fn (by rw [← hfs]; exact h))).ext hb
  inn := by
    intro el o t h
    have key : ∀ l : List (TypeId × Nat × TypeId), isIn el o t l = true → (el, o, t) ∈ l := by
      intro l
      induction l with
      | nil => intro h; cases h
      | cons p l ih =>
        intro h
        have h' : bor (band (Nat.beq p.1 el) (band (Nat.beq p.2.1 o) (Nat.beq p.2.2 t))) (isIn el o t l) = true := h
        rw [bor_eq, Bool.or_eq_true, band_eq, Bool.and_eq_true, band_eq, Bool.and_eq_true, beq_nat, beq_nat, beq_nat] at h'
        rcases h' with ⟨h1, h2, h3⟩ | h'
        · obtain ⟨p1, p2, p3⟩ := p
          simp only at h1 h2 h3
          subst h1 h2 h3
          exact List.mem_cons_self
        · exact List.mem_cons_of_mem _ (ih h')
    exact hi.mem _ (key _ h)
  mix := hm

theorem info_of {P : Program} {t : TypeId} {i : TypeInfo} (h : P.types[t]? = some i) : P.info? t = some i := by
  have hlt : t < P.types.size := by
    rcases Nat.lt_or_ge t P.types.size with h' | h'
    · exact h'
    · rw [Array.getElem?_eq_none h'] at h; cases h
  unfold Tables.info?
  rw [if_pos hlt]; exact h
theorem TIok.of' {P : Program} {t n : Nat} {d : TypeDesc} {i : TypeInfo} {z : Value} {ti : TI} (hu : P.underlying t = some d) (hi : P.types[t]? = some i) (hz : i.zero = some z) (hn : P.types.size = n) (h : tiChk n d i z = true)
    (he : ti = ⟨d, i.size, i.bytes, z.cells.toList, aggB d⟩) : TIok P t ti := by
  rw [he]; exact TIok.of hu (info_of hi) hz hn h
theorem FnOk.of {P : Program} {f : FuncId} {fn : Func} (h : P.funcs[f]? = some fn) (hn : (fn.name == "runtime.NumGoroutine") = false) (hb : fn.body.isSome = true) : FnOk P f fn :=
  let ⟨_, hc⟩ := Option.isSome_iff_exists.1 hb
  FnOk.body h hn hc
theorem FnOk.noEscape {P : Program} {f : FuncId} {fn : Func} (h : P.funcs[f]? = some fn) (hn : (fn.name == "runtime.NumGoroutine") = false) (hb : fn.body.isNone = true) (h1 : Extern.findNext fn = none)
    (h2 : Extern.find fn = some Extern.AbiNoEscape.same) : FnOk P f fn := by
  refine ⟨h, (fun e => by rw [e] at hn; cases hn), fun hb0 args args' v Φ w he ha => ?_⟩
  obtain ⟨_, h3⟩ := gd_eq he
  obtain ⟨u, rfl, h4⟩ := one_eq h3
  cases h4
  obtain ⟨v', l', rfl, hv, hl⟩ := ha.cons_inv
  have := hl.nil_inv
  subst this
  refine ⟨v', hv, ?_⟩
  have hs : Extern.AbiNoEscape.same #[v'] = pure v' := rfl
  have hn' : ¬ fn.name = "runtime.NumGoroutine" := fun e => by rw [e] at hn; cases hn
  simp [callFunc, h, hn', hb0, h1, h2, hs]

/-- the start: nothing is known of the heap but the package-level variables' numbers -/
noncomputable def Ren.glob : Ren := fun g => if g < 64 then some ⟨g, 0, 0⟩ else none
theorem Rel.start (w : World) : Rel Ren.glob ⟨.e, 64⟩ w :=
  ⟨⟨(fun a B h => by rw [get_e] at h; cases h), (fun a a' B B' m m' h => by rw [get_e] at h; cases h), (fun a B p P h => by rw [get_e] at h; cases h), (fun a B p P m m' h => by rw [get_e] at h; cases h)⟩,
    (fun a ha => if_neg (Nat.not_lt.2 ha)), (fun a B p h => by rw [get_e] at h; cases h), fun g hg => ⟨0, if_pos hg⟩⟩

/-- what stands of a world behind a run that was begun with nothing known of the heap -/
structure Kept0 (w w' : World) : Prop where
  heap : ∀ β, β < w.heap.size → w'.heap[β]? = w.heap[β]?
  size : w.heap.size ≤ w'.heap.size
  tape : w'.tape = w.tape
  os : w'.os = w.os
  output : w'.output = w.output
theorem isT_eq {x : Option (Value × S)} (h : isT x = true) : ∃ s, x = some (.bool true, s) := by
  unfold isT at h
  split at h
  · exact ⟨_, by rw [h]⟩
  · cases h
/-- A RUN THAT ANSWERS true -/
theorem run_true {P : Program} {E : Env} {n : Nat} {f : FuncId} {fn : Func} {args : List Value} {args' : Array Value} {w : World} (hE : EOK P E) (hO : OvOK P E) (h : isT ((lvl E n).cl f args ⟨.e, 64⟩) = true)
    (hf : P.funcs[f]? = some fn) (hn : (fn.name == "runtime.NumGoroutine") = false) (hb : fn.body.isSome = true) (ha : VRs Ren.glob args args'.toList) :
    Calls P f args' w fun e w' => e = .returned (.bool true) ∧ Kept0 w w' := by
  obtain ⟨s', hs⟩ := isT_eq h
  obtain ⟨c, hc⟩ := Option.isSome_iff_exists.1 hb
  have hrun := callFunc_body (P := P) (w := w) (args := args') hf hc (fun e => by rw [e] at hn; cases hn)
  rcases lvl_ok hE hO n f args args' ⟨.e, 64⟩ (.bool true) s' Ren.glob w hs (Rel.start w) ha with ⟨_, g2, _⟩ | ⟨v', g1, _⟩
  · refine g2.mono fun e w' => ?_
    rintro ⟨v', rfl, Φ', g3, g4, g5⟩
    cases g3
    refine ⟨rfl, fun β hβ => g5.frame β hβ ?_, g5.size, g5.tape, g5.os, g5.output⟩
    rintro ⟨a, B, l, h1, _⟩
    rw [get_e] at h1
    cases h1
  · rw [hrun] at g1; cases g1
end Go.Ev

/-! What a function comes to, reckoned over a table. -/
namespace Go.Ev
open Go
set_option linter.unusedSimpArgs false
noncomputable def adjAt (adj : Tr (List Nat)) (f : Nat) : List Nat := Option.rec (motive := fun _ => List Nat) [] (fun l => l) (adj.get f)
noncomputable def fastVia (adj : Tr (List Nat)) (n : Nat) : List Nat → List Nat → Tr Unit → List Nat :=
  Nat.rec (motive := fun _ => List Nat → List Nat → Tr Unit → List Nat) (fun _ seen _ => seen)
    (fun _ ih todo seen tr => List.rec (motive := fun _ => List Nat) seen
      (fun f todo _ => Option.rec (motive := fun _ => List Nat) (ih (adjAt adj f ++ todo) (f :: seen) (Tr.set tr f (some ()))) (fun _ => ih todo seen tr) (Tr.get tr f)) todo) n
theorem fastVia_eq {P : Program} {adj : Tr (List Nat)} (h : ∀ f, (P.funcs[f]?).elim [] P.leadsTo = adjAt adj f) :
    ∀ (n : Nat) (todo seen : List Nat) (tr : Tr Unit), (∀ f, (tr.get f).isSome = seen.contains f) → P.closureVia n todo seen = (fastVia adj n todo seen tr).reverse := by
  intro n
  induction n with
  | zero => intro todo seen tr _; unfold Program.closureVia; rfl
  | succ n ih =>
    intro todo seen tr ht
    cases todo with
    | nil => unfold Program.closureVia; rfl
    | cons f todo =>
      unfold Program.closureVia
      show _ = (Option.rec (motive := fun _ => List Nat) (fastVia adj n (adjAt adj f ++ todo) (f :: seen) (Tr.set tr f (some ()))) (fun _ => fastVia adj n todo seen tr) (Tr.get tr f)).reverse
      have h1 := ht f
      cases hg : tr.get f with
      | some u =>
        rw [hg] at h1
        rw [if_pos (show seen.contains f = true from h1.symm)]
        exact ih todo seen tr ht
      | none =>
        rw [hg] at h1
        rw [if_neg (show ¬ seen.contains f = true from by rw [← h1]; simp), h f]
        refine ih _ _ _ fun x => ?_
        rw [get_set, List.contains_cons]
        by_cases e : x = f
        · subst e; simp
        · rw [if_neg e, ht x, beq_false_of_ne e, Bool.false_or]
noncomputable def toTr {α : Type} (l : List α) : Nat → Tr α → Tr α :=
  List.rec (motive := fun _ => Nat → Tr α → Tr α) (fun _ t => t) (fun x _ ih i t => ih (Nat.succ i) (Tr.set t i (some x))) l
theorem toTr_get {α : Type} : ∀ (l : List α) (i : Nat) (t : Tr α) (f : Nat), (toTr l i t).get f = if i ≤ f ∧ f < i + l.length then l[f - i]? else t.get f := by
  intro l
  induction l with
  | nil => intro i t f; rw [if_neg (by simp)]; rfl
  | cons x l ih =>
    intro i t f
    show (toTr l (i + 1) (t.set i (some x))).get f = _
    rw [ih, get_set]
    by_cases e : f = i
    · subst e
      rw [if_neg (by omega), if_pos rfl, if_pos (by simp)]
      simp
    · by_cases h : i + 1 ≤ f ∧ f < i + 1 + l.length
      · rw [if_pos h, if_pos (by simp; omega)]
        rw [show f - i = (f - (i + 1)) + 1 from by omega, List.getElem?_cons_succ]
      · rw [if_neg h, if_neg e, if_neg (by simp; omega)]
theorem closure_fast {P : Program} {ls : List (List Nat)} {f : FuncId} (h : P.funcs.toList.map P.leadsTo = ls) :
    P.closure f = (fastVia (toTr ls 0 .e) (1 + (ls.map fun l => l.length + 1).sum) [f] [] .e).reverse := by
  have h1 : (P.funcs.toList.map fun g => (P.leadsTo g).length + 1).sum = (ls.map fun l => l.length + 1).sum := by
    rw [← h, List.map_map]; rfl
  unfold Program.closure
  rw [h1]
  refine fastVia_eq (fun g => ?_) _ _ _ _ fun g => by rw [get_e]; rfl
  unfold adjAt
  rw [toTr_get, get_e]
  have hg : ls[g]? = (P.funcs[g]?).map P.leadsTo := by rw [← h, List.getElem?_map]; simp
  by_cases hlt : g < ls.length
  · rw [if_pos ⟨Nat.zero_le _, by omega⟩, Nat.sub_zero, hg]
    cases P.funcs[g]? <;> rfl
  · rw [if_neg (by omega)]
    have : ls[g]? = none := List.getElem?_eq_none (by omega)
    rw [hg] at this
    cases hp : P.funcs[g]? with
    | none => rfl
    | some x => rw [hp] at this; cases this
/-- a row of numbers in two pieces -/
theorem all_split {f : Nat → Bool} {n : Nat} (a : Nat) (h1 : (List.range a).all f = true) (h2 : (List.range' a (n - a)).all f = true) : (List.range n).all f = true := by
  rw [List.all_eq_true] at h1 h2 ⊢
  intro x hx
  rw [List.mem_range] at hx
  by_cases e : x < a
  · exact h1 x (List.mem_range.2 e)
  · exact h2 x (by rw [List.mem_range']; exact ⟨x - a, by omega, by omega⟩)
theorem all_split' {f : Nat → Bool} {b n : Nat} (a : Nat) (ha : a ≤ n) (h1 : (List.range' b a).all f = true) (h2 : (List.range' (b + a) (n - a)).all f = true) : (List.range' b n).all f = true := by
  rw [List.all_eq_true] at h1 h2 ⊢
  intro x hx
  rw [List.mem_range'] at hx
  obtain ⟨i, hi, rfl⟩ := hx
  by_cases e : i < a
  · exact h1 _ (by rw [List.mem_range']; exact ⟨i, e, rfl⟩)
  · exact h2 _ (by rw [List.mem_range']; exact ⟨i - a, by omega, by omega⟩)
end Go.Ev

/-! A call whose run has been told apart: from a part of the heap to another. -/
namespace Go.Ev
open Go
set_option linter.unusedSimpArgs false
set_option linter.unusedVariables false
noncomputable section
/-! equality -/
def nsEq (x : List Nat) : List Nat → Bool :=
  List.rec (motive := fun _ => List Nat → Bool) (fun y => List.rec (motive := fun _ => Bool) true (fun _ _ _ => false) y)
    (fun a _ ih y => List.rec (motive := fun _ => Bool) false (fun b y _ => band (Nat.beq a b) (ih y)) y) x
def fzEq (x y : Option (Nat × Nat)) : Bool := match x, y with
  | none, none => true
  | some (a, b), some (c, d) => band (Nat.beq a c) (Nat.beq b d)
  | _, _ => false
def blkEq (a b : Blk) : Bool :=
  Blk.rec (motive := fun _ => Bool) (fun c el gr pa st fz => Blk.rec (motive := fun _ => Bool) (fun c' el' gr' pa' st' fz' =>
    band (vsEq (vEqN 20) c c') (band (Nat.beq el el') (band (beqB gr gr') (band (nsEq pa pa') (band (beqB st st') (fzEq fz fz')))))) b) a
def entEq (a b : MapEntry) : Bool := band (vEqN 20 a.key b.key) (band (vEqN 20 a.val b.val) (Nat.beq a.born b.born))
def entsEq (x : List MapEntry) : List MapEntry → Bool :=
  List.rec (motive := fun _ => List MapEntry → Bool) (fun y => List.rec (motive := fun _ => Bool) true (fun _ _ _ => false) y)
    (fun a _ ih y => List.rec (motive := fun _ => Bool) false (fun b y _ => band (entEq a b) (ih y)) y) x
def optEq (a b : Option Nat) : Bool := match a, b with
  | none, none => true
  | some a, some b => Nat.beq a b
  | _, _ => false
def abEq (a b : AB) : Bool := match a, b with
  | .cells k, .cells k' => blkEq k k'
  | .map e c, .map e' c' => band (entsEq e e') (Nat.beq c c')
  | .mapu e, .mapu e' => entsEq e e'
  | .mit m n, .mit m' n' => band (optEq m m') (Nat.beq n n')
  | .sit x p, .sit x' p' => band (sEq x.data.toList x'.data.toList) (Nat.beq p p')
  | _, _ => false
end
theorem nsEq_eq : ∀ {x y : List Nat}, nsEq x y = true → x = y := by
  intro x
  induction x with
  | nil => intro y h; cases y with
    | nil => rfl
    | cons b y => cases h
  | cons a x ih =>
    intro y h
    cases y with
    | nil => cases h
    | cons b y =>
      have h' : band (Nat.beq a b) (nsEq x y) = true := h
      rw [band_eq, Bool.and_eq_true, beq_nat] at h'
      rw [h'.1, ih h'.2]
theorem fzEq_eq {x y : Option (Nat × Nat)} (h : fzEq x y = true) : x = y := by
  unfold fzEq at h
  split at h
  · rfl
  · rw [band_eq, Bool.and_eq_true, beq_nat, beq_nat] at h; rw [h.1, h.2]
  · cases h
theorem blkEq_eq {a b : Blk} (h : blkEq a b = true) : a = b := by
  obtain ⟨c, el, gr, pa, st, fz⟩ := a
  obtain ⟨c', el', gr', pa', st', fz'⟩ := b
  have h' : band (vsEq (vEqN 20) c c') (band (Nat.beq el el') (band (beqB gr gr') (band (nsEq pa pa') (band (beqB st st') (fzEq fz fz'))))) = true := h
  simp only [band_eq, Bool.and_eq_true, beq_nat] at h'
  obtain ⟨h1, h2, h3, h4, h5, h6⟩ := h'
  rw [vsEq_eq (vEqN_eq 20) h1, h2, beqB_eq h3, nsEq_eq h4, beqB_eq h5, fzEq_eq h6]
theorem entEq_eq {a b : MapEntry} (h : entEq a b = true) : a = b := by
  obtain ⟨k, v, n⟩ := a
  obtain ⟨k', v', n'⟩ := b
  have h' : band (vEqN 20 k k') (band (vEqN 20 v v') (Nat.beq n n')) = true := h
  simp only [band_eq, Bool.and_eq_true, beq_nat] at h'
  rw [vEqN_eq _ _ _ h'.1, vEqN_eq _ _ _ h'.2.1, h'.2.2]
theorem entsEq_eq : ∀ {x y : List MapEntry}, entsEq x y = true → x = y := by
  intro x
  induction x with
  | nil => intro y h; cases y with
    | nil => rfl
    | cons b y => cases h
  | cons a x ih =>
    intro y h
    cases y with
    | nil => cases h
    | cons b y =>
      have h' : band (entEq a b) (entsEq x y) = true := h
      rw [band_eq, Bool.and_eq_true] at h'
      rw [entEq_eq h'.1, ih h'.2]
theorem optEq_eq {a b : Option Nat} (h : optEq a b = true) : a = b := by
  unfold optEq at h
  split at h
  · rfl
  · rw [beq_nat] at h; rw [h]
  · cases h
theorem abEq_eq {a b : AB} (h : abEq a b = true) : a = b := by
  unfold abEq at h
  split at h
  · rw [blkEq_eq h]
  · rw [band_eq, Bool.and_eq_true, beq_nat] at h; rw [entsEq_eq h.1, h.2]
  · rw [entsEq_eq h]
  · rw [band_eq, Bool.and_eq_true, beq_nat] at h; rw [optEq_eq h.1, h.2]
  · rw [band_eq, Bool.and_eq_true, beq_nat] at h; rw [bytes_eq h.1, h.2]
  · cases h
end Go.Ev

/-! A call whose run has been told apart, 2: what it says holds wherever that part of the heap is as it was. -/
namespace Go.Ev
open Go
set_option linter.unusedSimpArgs false
set_option linter.unusedVariables false
/-- a call, told: with these arguments, behind so many objects, where these objects stand, it answers so, and these stand then -/
structure Mem where
  args : List Value
  nx : Nat
  pre : List (Nat × AB)
  v : Value
  nx' : Nat
  post : List (Nat × AB)
noncomputable section
def isAt (h : Tr AB) (p : Nat × AB) : Bool := Option.rec (motive := fun _ => Bool) false (fun B => abEq B p.2) (h.get p.1)
def hasAll (h : Tr AB) (l : List (Nat × AB)) : Bool := List.rec (motive := fun _ => Bool) true (fun p _ ih => band (isAt h p) ih) l
def puts (h : Tr AB) (l : List (Nat × AB)) : Tr AB := List.rec (motive := fun _ => Tr AB) h (fun p _ ih => Tr.set ih p.1 (some p.2)) l
def drops (h : Tr AB) (l : List (Nat × AB)) : Tr AB := List.rec (motive := fun _ => Tr AB) h (fun p _ ih => kill p.2.pa (Tr.set ih p.1 none)) l
def memS (m : Mem) (s : S) : S := S.rec (motive := fun _ => S) (fun h _ => ⟨puts (drops h m.pre) m.post, m.nx'⟩) s
def memF (m : Mem) (args : List Value) (s : S) : Option (Value × S) :=
  gd (band (vsEq (vEqN 20) m.args args) (band (Nat.beq m.nx s.nx) (hasAll s.h m.pre))) (some (m.v, memS m s))
def memL (l : List Mem) (g : List Value → S → Option (Value × S)) (args : List Value) (s : S) : Option (Value × S) :=
  List.rec (motive := fun _ => Option (Value × S)) (g args s) (fun m _ ih => Option.rec (motive := fun _ => Option (Value × S)) ih some (memF m args s)) l
def fresh (B : AB) : Bool := match B with
  | .cells k => bnot k.st
  | .mapu _ => false
  | _ => true
def elemN (n : Nat) (l : List Nat) : Bool := List.rec (motive := fun _ => Bool) false (fun x _ ih => bor (Nat.beq n x) ih) l
def idsOf (l : List (Nat × AB)) : List Nat := List.rec (motive := fun _ => List Nat) [] (fun p _ ih => p.1 :: ih) l
def pasOf (l : List (Nat × AB)) : List Nat := List.rec (motive := fun _ => List Nat) [] (fun p _ ih => p.2.pa ++ ih) l
def allFresh (l : List (Nat × AB)) : Bool := List.rec (motive := fun _ => Bool) true (fun p _ ih => band (fresh p.2) ih) l
def allIn (nx : Nat) (l : List Nat) (xs : List Nat) : Bool := List.rec (motive := fun _ => Bool) true (fun x _ ih => band (bor (elemN x l) (Nat.ble nx x)) ih) xs
def memOK (m : Mem) : Bool :=
  band (allFresh m.pre) (band (allIn m.nx (idsOf m.pre) (idsOf m.post)) (allIn m.nx (idsOf m.pre ++ pasOf m.pre) (pasOf m.post)))
def runsAs (m : Mem) (x : Option (Value × S)) : Bool :=
  Option.rec (motive := fun _ => Bool) false (fun p => Prod.rec (motive := fun _ => Bool) (fun v s => band (vEqN 20 v m.v) (band (Nat.beq s.nx m.nx') (hasAll s.h m.post))) p) x
def runs (E : Env) (n : Nat) (f : FuncId) (m : Mem) : Bool := runsAs m ((lvl E n).cl f m.args ⟨ofList m.pre, m.nx⟩)
end
theorem hasAll_mem {h : Tr AB} : ∀ {l : List (Nat × AB)}, hasAll h l = true → ∀ p ∈ l, h.get p.1 = some p.2 := by
  intro l
  induction l with
  | nil => intro _ p hp; cases hp
  | cons q l ih =>
    intro hh p hp
    have h' : band (isAt h q) (hasAll h l) = true := hh
    rw [band_eq, Bool.and_eq_true] at h'
    rcases List.mem_cons.1 hp with rfl | hp
    · have h1 : (Option.rec (motive := fun _ => Bool) false (fun B => abEq B p.2) (h.get p.1)) = true := h'.1
      cases hg : h.get p.1 with
      | none => rw [hg] at h1; cases h1
      | some B => rw [hg] at h1; rw [abEq_eq h1]
    · exact ih h'.2 p hp
theorem get_puts {h : Tr AB} : ∀ {l : List (Nat × AB)} {i : Nat} {B : AB}, (puts h l).get i = some B → (i, B) ∈ l ∨ (i ∉ idsOf l ∧ h.get i = some B) := by
  intro l
  induction l with
  | nil => intro i B hg; exact .inr ⟨(fun h => by cases h), hg⟩
  | cons q l ih =>
    intro i B hg
    have hg' : ((puts h l).set q.1 (some q.2)).get i = some B := hg
    rw [get_set] at hg'
    by_cases e : i = q.1
    · rw [if_pos e] at hg'; cases hg'; subst e; exact .inl (List.mem_cons_self ..)
    · rw [if_neg e] at hg'
      rcases ih hg' with h1 | ⟨h1, h2⟩
      · exact .inl (List.mem_cons_of_mem _ h1)
      · exact .inr ⟨(fun hm => by
          have hm' : i ∈ q.1 :: idsOf l := hm
          rcases List.mem_cons.1 hm' with h | h
          · exact e h
          · exact h1 h), h2⟩
theorem get_drops {h : Tr AB} : ∀ {l : List (Nat × AB)} {i : Nat} {B : AB}, (drops h l).get i = some B → h.get i = some B ∧ i ∉ idsOf l ∧ i ∉ pasOf l := by
  intro l
  induction l with
  | nil => intro i B hg; exact ⟨hg, (fun h => by cases h), fun h => by cases h⟩
  | cons q l ih =>
    intro i B hg
    have hg' : (kill q.2.pa ((drops h l).set q.1 none)).get i = some B := hg
    rw [get_kill, get_set] at hg'
    by_cases e1 : i ∈ q.2.pa
    · rw [if_pos e1] at hg'; cases hg'
    · rw [if_neg e1] at hg'
      by_cases e : i = q.1
      · rw [if_pos e] at hg'; cases hg'
      · rw [if_neg e] at hg'
        obtain ⟨h1, h2, h3⟩ := ih hg'
        refine ⟨h1, fun hm => ?_, fun hm => ?_⟩
        · have hm' : i ∈ q.1 :: idsOf l := hm
          rcases List.mem_cons.1 hm' with h | h
          · exact e h
          · exact h2 h
        · have hm' : i ∈ q.2.pa ++ pasOf l := hm
          rcases List.mem_append.1 hm' with h | h
          · exact e1 h
          · exact h3 h
theorem elemN_mem {n : Nat} : ∀ {l : List Nat}, elemN n l = true → n ∈ l := by
  intro l
  induction l with
  | nil => intro h; cases h
  | cons x l ih =>
    intro h
    have h' : bor (Nat.beq n x) (elemN n l) = true := h
    rw [bor_eq, Bool.or_eq_true, beq_nat] at h'
    rcases h' with rfl | h'
    · exact List.mem_cons_self ..
    · exact List.mem_cons_of_mem _ (ih h')
theorem allIn_mem {nx : Nat} {l : List Nat} : ∀ {xs : List Nat}, allIn nx l xs = true → ∀ x ∈ xs, x ∈ l ∨ nx ≤ x := by
  intro xs
  induction xs with
  | nil => intro _ x hx; cases hx
  | cons y xs ih =>
    intro h x hx
    have h' : band (bor (elemN y l) (Nat.ble nx y)) (allIn nx l xs) = true := h
    rw [band_eq, Bool.and_eq_true, bor_eq, Bool.or_eq_true, ble_nat] at h'
    rcases List.mem_cons.1 hx with rfl | hx
    · rcases h'.1 with h1 | h1
      · exact .inl (elemN_mem h1)
      · exact .inr h1
    · exact ih h'.2 x hx
theorem allFresh_mem : ∀ {l : List (Nat × AB)}, allFresh l = true → ∀ p ∈ l, fresh p.2 = true := by
  intro l
  induction l with
  | nil => intro _ p hp; cases hp
  | cons q l ih =>
    intro h p hp
    have h' : band (fresh q.2) (allFresh l) = true := h
    rw [band_eq, Bool.and_eq_true] at h'
    rcases List.mem_cons.1 hp with rfl | hp
    · exact h'.1
    · exact ih h'.2 p hp
theorem mem_ids {l : List (Nat × AB)} {p : Nat × AB} (h : p ∈ l) : p.1 ∈ idsOf l := by
  induction l with
  | nil => cases h
  | cons q l ih =>
    show p.1 ∈ q.1 :: idsOf l
    rcases List.mem_cons.1 h with rfl | h
    · exact List.mem_cons_self ..
    · exact List.mem_cons_of_mem _ (ih h)
theorem ids_mem {l : List (Nat × AB)} {i : Nat} (h : i ∈ idsOf l) : ∃ B, (i, B) ∈ l := by
  induction l with
  | nil => cases h
  | cons q l ih =>
    have h' : i ∈ q.1 :: idsOf l := h
    rcases List.mem_cons.1 h' with rfl | h'
    · exact ⟨q.2, List.mem_cons_self ..⟩
    · obtain ⟨B, hB⟩ := ih h'; exact ⟨B, List.mem_cons_of_mem _ hB⟩
theorem mem_pas {l : List (Nat × AB)} {p : Nat × AB} (h : p ∈ l) {i : Nat} (hi : i ∈ p.2.pa) : i ∈ pasOf l := by
  induction l with
  | nil => cases h
  | cons q l ih =>
    show i ∈ q.2.pa ++ pasOf l
    rcases List.mem_cons.1 h with rfl | h
    · exact List.mem_append_left _ hi
    · exact List.mem_append_right _ (ih h)
theorem fresh_not {B : AB} (h : fresh B = true) : ¬ B.isStale := by
  cases B with
  | cells k => intro hs; have hs' : k.st = true := hs; have h' : bnot k.st = true := h; rw [hs'] at h'; cases h'
  | mapu es => cases h
  | map es c => exact id
  | mit m c => exact id
  | sit x p => exact id
theorem Answers.mono {P : Program} {f : FuncId} {args : Array Value} {w : World} {R R' : Value → World → Prop} (h : Answers P f args w R) (hR : ∀ v w', R v w' → R' v w') : Answers P f args w R' := by
  rcases h with ⟨h1, h2, h3⟩ | ⟨v, h1, h2⟩
  · exact .inl ⟨h1, h2.mono fun e w' ⟨v, e1, e2⟩ => ⟨v, e1, hR _ _ e2⟩, h3.mono fun e u w' ⟨e0, v, e1, e2⟩ => ⟨e0, v, e1, hR _ _ e2⟩⟩
  · exact .inr ⟨v, h1, hR _ _ h2⟩
theorem mem_sound {P : Program} {E : Env} {n : Nat} {f : FuncId} {m : Mem} (hE : EOK P E) (hO : OvOK P E) (hok : memOK m = true) (hrun : runs E n f m = true)
    {args : List Value} {args' : Array Value} {s : S} {v : Value} {s' : S} {Φ : Ren} {w : World} (h : memF m args s = some (v, s')) (hr : Rel Φ s w) (ha : VRs Φ args args'.toList) :
    Answers P f args' w fun v' w' => ∃ Φ', VR Φ' v v' ∧ Rel Φ' s' w' ∧ Ext Φ s w Φ' s' w' := by
  obtain ⟨h1, h2⟩ := gd_eq h
  cases h2
  rw [band_eq, Bool.and_eq_true, band_eq, Bool.and_eq_true, beq_nat] at h1
  obtain ⟨ha0, hnx, hpre⟩ := h1
  have ha1 := vsEq_eq (vEqN_eq 20) ha0
  subst ha1
  unfold memOK at hok
  rw [band_eq, Bool.and_eq_true, band_eq, Bool.and_eq_true] at hok
  obtain ⟨hfr, hid, hpa⟩ := hok
  have hfr := allFresh_mem hfr
  have hid := allIn_mem hid
  have hpa := allIn_mem hpa
  have hpre := hasAll_mem hpre
  unfold runs at hrun
  cases hx : (lvl E n).cl f m.args ⟨ofList m.pre, m.nx⟩ with
  | none => rw [hx] at hrun; cases hrun
  | some y =>
  obtain ⟨v1, s1⟩ := y
  rw [hx] at hrun
  have hrun' : band (vEqN 20 v1 m.v) (band (Nat.beq s1.nx m.nx') (hasAll s1.h m.post)) = true := hrun
  rw [band_eq, Bool.and_eq_true, band_eq, Bool.and_eq_true, beq_nat] at hrun'
  obtain ⟨e1, e2, hpost⟩ := hrun'
  have e1 := vEqN_eq _ _ _ e1
  subst e1
  have hpost := hasAll_mem hpost
  have hsub : ∀ a B, (⟨ofList m.pre, m.nx⟩ : S).h.get a = some B → s.h.get a = some B := fun a B hg => hpre (a, B) (get_ofList _ _ _ hg)
  obtain ⟨hr0, _⟩ := hr.less (s' := ⟨ofList m.pre, m.nx⟩) hsub hnx
  have him : ∀ {β}, Im Φ (ofList m.pre) β → Im Φ s.h β := fun hi => Im.less hsub hi
  refine (lvl_ok hE hO n f m.args args' ⟨ofList m.pre, m.nx⟩ m.v s1 Φ w hx hr0 ha).mono fun v' w' => ?_
  rintro ⟨Φ', g1, g2, g3⟩
  have hnxle : s.nx ≤ m.nx' := by have := g3.nx; have e : (⟨ofList m.pre, m.nx⟩ : S).nx = m.nx := rfl; omega
  have hag : ∀ a, a < s.nx → Φ' a = Φ a := fun a h => g3.ag a (by show a < m.nx; omega)
  -- what stands behind it
  have hget : ∀ a B, (memS m s).h.get a = some B → ((a, B) ∈ m.post ∧ s1.h.get a = some B) ∨ (s.h.get a = some B ∧ a ∉ idsOf m.pre ∧ a ∉ pasOf m.pre ∧ a ∉ idsOf m.post) := by
    intro a B hg
    rcases get_puts (show (puts (drops s.h m.pre) m.post).get a = some B from hg) with h1 | ⟨h1, h2⟩
    · exact .inl ⟨h1, hpost _ h1⟩
    · obtain ⟨h3, h4, h5⟩ := get_drops h2
      exact .inr ⟨h3, h4, h5, h1⟩
  have hlt : ∀ a B, s.h.get a = some B → a < s.nx := fun a B hg => by
    rcases Nat.lt_or_ge a s.nx with h | h
    · exact h
    · obtain ⟨l, q1, _⟩ := hr.live a B hg
      rw [hr.dom a h] at q1; cases q1
  -- an object beside lies in no block that the call knows of
  have hside : ∀ a B l, s.h.get a = some B → a ∉ idsOf m.pre → a ∉ pasOf m.pre → Φ a = some l → ¬ Im Φ (ofList m.pre) l.b := by
    intro a B l hg hn1 hn2 hl ⟨b, B0, l0, q1, q2, q3⟩
    have hmem := get_ofList _ _ _ q1
    have hne : a ≠ b := fun e => hn1 (e ▸ mem_ids hmem)
    rcases hr.apart a b B B0 l l0 hg (hsub b B0 q1) hne hl q2 q3.symm with h | h
    · exact fresh_not (hfr _ hmem) (hr.heir a B b B0 hg h (hsub b B0 q1))
    · exact hn2 (mem_pas hmem h)
  have hfar : ∀ a B l b B' l', s.h.get a = some B → a ∉ idsOf m.pre → a ∉ pasOf m.pre → Φ a = some l → s1.h.get b = some B' → Φ' b = some l' → l.b ≠ l'.b := by
    intro a B l b B' l' hg hn1 hn2 hl hg' hl' e
    rcases g3.im l'.b ⟨b, B', l', hg', hl', rfl⟩ with h | h
    · exact hside a B l hg hn1 hn2 hl (e ▸ h)
    · have := Im.lt hr.toHRel ⟨a, B, l, hg, hl, rfl⟩
      omega
  have hΦ : ∀ a B l, s.h.get a = some B → Φ' a = some l → Φ a = some l := fun a B l hg hl => by rw [← hag a (hlt a B hg)]; exact hl
  refine ⟨Φ', g1, ⟨⟨fun a B hg => ?_, fun a b B B' l l' hg hg' hne hl hl' he => ?_, fun a B p Q hg hp hq => ?_, fun a B p Q l l' hg hp hq hl hl' he => ?_⟩, ?_, fun a B p hg hp => ?_, g2.gl⟩, ?_⟩
  · rcases hget a B hg with ⟨_, h⟩ | ⟨h, n1, n2, _⟩
    · exact g2.live a B h
    · obtain ⟨l, q1, q2⟩ := hr.live a B h
      refine ⟨l, by rw [hag a (hlt a B h)]; exact q1, ?_⟩
      rw [g3.frame l.b (Im.lt hr.toHRel ⟨a, B, l, h, q1, rfl⟩) (hside a B l h n1 n2 q1)]
      have hle : Φ.le Φ' := g3.le (by show Dom Φ m.nx; rw [hnx]; exact hr.dom)
      exact q2.mono hle
  · rcases hget a B hg with ⟨_, h⟩ | ⟨h, n1, n2, _⟩
    · rcases hget b B' hg' with ⟨_, h'⟩ | ⟨h', n1', n2', _⟩
      · exact g2.apart a b B B' l l' h h' hne hl hl' he
      · exact absurd he.symm (hfar b B' l' a B l h' n1' n2' (hΦ b B' l' h' hl') h hl)
    · rcases hget b B' hg' with ⟨_, h'⟩ | ⟨h', n1', n2', _⟩
      · exact absurd he (hfar a B l b B' l' h n1 n2 (hΦ a B l h hl) h' hl')
      · exact hr.apart a b B B' l l' h h' hne (hΦ a B l h hl) (hΦ b B' l' h' hl') he
  · rcases hget a B hg with ⟨hm, h⟩ | ⟨h, n1, n2, _⟩
    · rcases hget p Q hq with ⟨_, h'⟩ | ⟨h', n1', n2', _⟩
      · exact g2.heir a B p Q h hp h'
      · exfalso
        rcases hpa p (mem_pas hm hp) with q | q
        · rcases List.mem_append.1 q with q | q
          · exact n1' q
          · exact n2' q
        · have := hlt p Q h'; omega
    · rcases hget p Q hq with ⟨hm', h'⟩ | ⟨h', _⟩
      · exfalso
        have hplt := hr.pas a B p h hp
        rcases hid p (mem_ids hm') with q | q
        · obtain ⟨B0, hB0⟩ := ids_mem q
          exact fresh_not (hfr _ hB0) (hr.heir a B p B0 h hp (hpre _ hB0))
        · omega
      · exact hr.heir a B p Q h hp h'
  · rcases hget a B hg with ⟨hm, h⟩ | ⟨h, n1, n2, _⟩
    · rcases hget p Q hq with ⟨_, h'⟩ | ⟨h', n1', n2', _⟩
      · exact g2.ends a B p Q l l' h hp h' hl hl' he
      · exact absurd he.symm (hfar p Q l' a B l h' n1' n2' (hΦ p Q l' h' hl') h hl)
    · rcases hget p Q hq with ⟨hm', h'⟩ | ⟨h', _⟩
      · exact absurd he (hfar a B l p Q l' h n1 n2 (hΦ a B l h hl) h' hl')
      · exact hr.ends a B p Q l l' h hp h' (hΦ a B l h hl) (hΦ p Q l' h' hl') he
  · show Dom Φ' m.nx'
    rw [← e2]; exact g2.dom
  · show p < m.nx'
    rcases hget a B hg with ⟨_, h⟩ | ⟨h, _⟩
    · rw [← e2]; exact g2.pas a B p h hp
    · have := hr.pas a B p h hp; omega
  · refine ⟨hnxle, hag, g3.size, fun β hβ hi => g3.frame β hβ fun h => hi (him h), fun β hβ => ?_, g3.tape, g3.os, g3.output⟩
    obtain ⟨a, B, l, q1, q2, q3⟩ := hβ
    rcases hget a B q1 with ⟨_, h⟩ | ⟨h, _⟩
    · rcases g3.im β ⟨a, B, l, h, q2, q3⟩ with h | h
      · exact .inl (him h)
      · exact .inr h
    · exact .inl ⟨a, B, l, h, hΦ a B l h q2, q3⟩
/-- what a function's answers, as they are told, must be -/
def OvF (P : Program) (f : FuncId) (g : List Value → S → Option (Value × S)) : Prop := ∀ args (args' : Array Value) s v s' Φ w, g args s = some (v, s') → Rel Φ s w → VRs Φ args args'.toList →
    Answers P f args' w fun v' w' => ∃ Φ', VR Φ' v v' ∧ Rel Φ' s' w' ∧ Ext Φ s w Φ' s' w'
theorem OvF.memL {P : Program} {E : Env} {n : Nat} {f : FuncId} {g : List Value → S → Option (Value × S)} (hE : EOK P E) (hO : OvOK P E) (hg : OvF P f g) :
    ∀ {l : List Mem}, AllL (fun m => memOK m = true ∧ runs E n f m = true) l → OvF P f (Ev.memL l g) := by
  intro l hl
  induction hl with
  | nil => exact hg
  | cons m l h _ ih =>
    intro args args' s v s' Φ w hx hr ha
    have hx' : Option.rec (motive := fun _ => Option (Value × S)) (Ev.memL l g args s) some (memF m args s) = some (v, s') := hx
    cases hm : memF m args s with
    | none => rw [hm] at hx'; exact ih args args' s v s' Φ w hx' hr ha
    | some y => rw [hm] at hx'; cases hx'; exact mem_sound hE hO h.1 h.2 hm hr ha
theorem OvF.memNil {P : Program} {f : FuncId} (g : List Value → S → Option (Value × S)) (h : OvF P f g) : OvF P f (Ev.memL [] g) := h
theorem OvF.memCons {P : Program} {E : Env} {n : Nat} {f : FuncId} {g : List Value → S → Option (Value × S)} {m : Mem} {l : List Mem} (hE : EOK P E) (hO : OvOK P E) (hm : memOK m = true) (hr : runs E n f m = true)
    (hl : OvF P f (Ev.memL l g)) : OvF P f (Ev.memL (m :: l) g) := by
  intro args args' s v s' Φ w hx hr' ha
  have hx' : Option.rec (motive := fun _ => Option (Value × S)) (Ev.memL l g args s) some (memF m args s) = some (v, s') := hx
  cases hq : memF m args s with
  | none => rw [hq] at hx'; exact hl args args' s v s' Φ w hx' hr' ha
  | some y => rw [hq] at hx'; cases hx'; exact mem_sound hE hO hm hr hq hr' ha
theorem EOK.ov {P : Program} {E : Env} (h : EOK P E) (o : Tr (List Value → S → Option (Value × S))) : EOK P ⟨E.ty, E.fn, E.inn, o⟩ := ⟨h.ty, h.fn, h.rn, h.inn, h.ext, h.mix⟩
theorem OvF.none (P : Program) (f : FuncId) : OvF P f (fun _ _ => Option.none) := fun _ _ _ _ _ _ _ h => by cases h
theorem OvOK.of {P : Program} {E : Env} {l : List (Nat × (List Value → S → Option (Value × S)))} (h : E.ov = ofList l) (hl : AllL (fun p => OvF P p.1 p.2) l) : OvOK P E :=
  ⟨fun f g hg args args' s v s' Φ w => hl.mem (f, g) (get_ofList l f g (by rw [← h]; exact hg)) args args' s v s' Φ w⟩
end Go.Ev

/-! A run that begins with a package-level table of numbers. -/
namespace Go.Ev
open Go
set_option linter.unusedSimpArgs false
set_option linter.unusedVariables false
noncomputable section
def Ren.globZ (z : Nat → Nat) : Ren := fun g => if g < 64 then some ⟨g, 0, z g⟩ else none
/-- a table at g, of which what is frozen stands at q -/
def tabB (q : Nat) (el : TypeId) (cs : List Value) : AB := .cells ⟨cs, el, false, [], false, some (q, 0)⟩
def isInt (v : Value) : Bool := match v with
  | .int _ _ => true
  | _ => false
def allInt (l : List Value) : Bool := List.rec (motive := fun _ => Bool) true (fun v _ ih => band (isInt v) ih) l
def isTG (G : List (Nat × AB)) (x : Option (Value × S)) : Bool :=
  Option.rec (motive := fun _ => Bool) false (fun p => Prod.rec (motive := fun _ => Bool) (fun v s => band (vEqN 2 v (.bool true)) (hasAll s.h G)) p) x
end
theorem allInt_get {l : List Value} (h : allInt l = true) : ∀ v ∈ l, isInt v = true := by
  induction l with
  | nil => intro v hv; cases hv
  | cons u l ih =>
    intro v hv
    have h' : band (isInt u) (allInt l) = true := h
    rw [band_eq, Bool.and_eq_true] at h'
    rcases List.mem_cons.1 hv with rfl | hv
    · exact h'.1
    · exact ih h'.2 v hv
theorem VR.ofInt {Φ : Ren} {v v' : Value} (hi : isInt v = true) (h : VR Φ v v') : v' = v := by
  cases v with
  | int k n => cases h; rfl
  | _ => cases hi
theorem VR.int_self {Φ : Ren} {v : Value} (hi : isInt v = true) : VR Φ v v := by
  cases v <;> first | exact .int _ _ | cases hi
theorem isTG_eq {G : List (Nat × AB)} {x : Option (Value × S)} (h : isTG G x = true) : ∃ s, x = some (.bool true, s) ∧ hasAll s.h G = true := by
  cases x with
  | none => cases h
  | some p =>
    obtain ⟨v, s⟩ := p
    have h' : band (vEqN 2 v (.bool true)) (hasAll s.h G) = true := h
    rw [band_eq, Bool.and_eq_true] at h'
    exact ⟨s, by rw [vEqN_eq _ _ _ h'.1], h'.2⟩
theorem Rel.start1 {w : World} {g q : Nat} {el : TypeId} {c : Array Value} {fz : Nat × Nat} {cs : List Value} (hg : g < 64) (hq0 : 0 < q) (hq : q + 1 < 64) (hgq : g ≠ q) (hgq1 : g ≠ q + 1)
    (hw : w.heap[g]? = some (.cells c el fz)) (hc : c.toList = cs) (hi : allInt cs = true) :
    Rel (Ren.globZ fun a => if a = q then fz.1 else if a = q + 1 then fz.2 else cs.length) ⟨ofList [(g, tabB q el cs)], 64⟩ w := by
  have hget : ∀ a B, (ofList [(g, tabB q el cs)]).get a = some B → a = g ∧ B = tabB q el cs := by
    intro a B h
    have := get_ofList _ _ _ h
    rw [List.mem_singleton] at this
    cases this
    exact ⟨rfl, rfl⟩
  have hsz : c.size = cs.length := by rw [← hc]; simp
  refine ⟨⟨fun a B h => ?_, fun a a' B B' m m' h h' hne => ?_, fun a B p P h hp => ?_, fun a B p P m m' h hp => ?_⟩, fun a ha => ?_, fun a B p h hp => ?_, fun a ha => ⟨_, if_pos ha⟩⟩
  · obtain ⟨rfl, rfl⟩ := hget a B h
    refine ⟨_, if_pos hg, c, fz, hw, ?_, ?_, fun i v hv => ?_, ?_, fun _ => ⟨rfl, hsz.symm⟩⟩
    · show c.size = if a = q then _ else if a = q + 1 then _ else _
      rw [if_neg hgq, if_neg hgq1, hsz]
    · show 0 + cs.length ≤ c.size
      omega
    · have hv' : cs[i]? = some v := hv
      refine ⟨v, ?_, VR.int_self (allInt_get hi v (List.mem_of_getElem? hv'))⟩
      show c[0 + i]? = some v
      rw [Nat.zero_add, ← Array.getElem?_toList, hc]; exact hv'
    · show FzR _ (some (q, 0)) _ _ _
      simp only [FzR]
      rw [if_neg (by omega), if_pos hq0]
      refine ⟨_, _, if_pos (by omega), if_pos hq, ?_⟩
      simp
  · obtain ⟨rfl, rfl⟩ := hget a B h
    obtain ⟨rfl, rfl⟩ := hget a' B' h'
    exact absurd rfl hne
  · obtain ⟨rfl, rfl⟩ := hget a B h
    cases hp
  · obtain ⟨rfl, rfl⟩ := hget a B h
    cases hp
  · exact if_neg (Nat.not_lt.2 ha)
  · obtain ⟨rfl, rfl⟩ := hget a B h
    cases hp
/-- A RUN THAT ANSWERS true, from a table -/
theorem run_true1 {P : Program} {E : Env} {n : Nat} {f : FuncId} {fn : Func} {args : List Value} {args' : Array Value} {w : World} {g q : Nat} {el : TypeId} {c : Array Value} {fz : Nat × Nat} {cs : List Value}
    (hE : EOK P E) (hO : OvOK P E) (hg : g < 64) (hq0 : 0 < q) (hq : q + 1 < 64) (hgq : g ≠ q) (hgq1 : g ≠ q + 1)
    (hw : w.heap[g]? = some (.cells c el fz)) (hc : c.toList = cs) (hi : allInt cs = true)
    (h : isTG [(g, tabB q el cs)] ((lvl E n).cl f args ⟨ofList [(g, tabB q el cs)], 64⟩) = true)
    (hf : P.funcs[f]? = some fn) (hn : (fn.name == "runtime.NumGoroutine") = false) (hb : fn.body.isSome = true) (ha : ∀ Φ, VRs Φ args args'.toList) :
    Calls P f args' w fun e w' => e = .returned (.bool true) ∧ Kept0 w w' := by
  obtain ⟨s', hs, hall⟩ := isTG_eq h
  obtain ⟨cd, hcd⟩ := Option.isSome_iff_exists.1 hb
  have hrun := callFunc_body (P := P) (w := w) (args := args') hf hcd (fun e => by rw [e] at hn; cases hn)
  rcases lvl_ok hE hO n f args args' _ (.bool true) s' _ w hs (Rel.start1 hg hq0 hq hgq hgq1 hw hc hi) (ha _) with ⟨_, g2, _⟩ | ⟨v', g1, _⟩
  · refine g2.mono fun e w' => ?_
    rintro ⟨v', rfl, Φ', g3, g4, g5⟩
    cases g3
    refine ⟨rfl, fun β hβ => ?_, g5.size, g5.tape, g5.os, g5.output⟩
    by_cases hβg : β = g
    · subst hβg
      have hat := hasAll_mem hall _ List.mem_cons_self
      obtain ⟨l, e1, c', f', e2, e3, e4, e5, e6, e7⟩ := g4.live _ _ hat
      have hΦ : ∀ a, a < 64 → Φ' a = _ := fun a ha => g5.ag a ha
      have e1' := e1
      rw [hΦ _ hg] at e1'
      have e1'' := (if_pos hg).symm.trans e1'
      cases e1''
      have e2' : w'.heap[β]? = some (.cells c' el f') := e2
      rw [e2', hw]
      have hsz' : c'.size = cs.length := by
        have : c'.size = if β = q then _ else if β = q + 1 then _ else _ := e3
        rw [if_neg hgq, if_neg hgq1] at this
        exact this
      have hcc : c' = c := by
        apply Array.toList_inj.1
        rw [hc]
        apply List.ext_getElem?
        intro i
        rw [Array.getElem?_toList]
        rcases Nat.lt_or_ge i cs.length with hlt | hge
        · have hv : cs[i]? = some cs[i] := List.getElem?_eq_getElem hlt
          obtain ⟨v', q1, q2⟩ := e5 i cs[i] hv
          have q3 := VR.ofInt (allInt_get hi _ (List.getElem_mem hlt)) q2
          rw [hv, ← q3]
          have q1' : c'[0 + i]? = some v' := q1
          rw [Nat.zero_add] at q1'; exact q1'
        · rw [List.getElem?_eq_none hge, Array.getElem?_eq_none (by omega)]
      have hff : f' = fz := by
        have e6' : FzR Φ' (some (q, 0)) 0 c'.size f' := e6
        simp only [FzR] at e6'
        rw [if_neg (by omega), if_pos hq0] at e6'
        obtain ⟨l1, l2, q1, q2, q3⟩ := e6'
        rw [hΦ q (by omega)] at q1
        rw [hΦ (q + 1) hq] at q2
        have q1' := (if_pos (show q < 64 by omega)).symm.trans q1
        have q2' := (if_pos hq).symm.trans q2
        cases q1'
        cases q2'
        rw [q3]; simp
      rw [hcc, hff]
    · refine g5.frame β hβ ?_
      rintro ⟨a, B, l, h1, h2, h3⟩
      have := get_ofList [(g, tabB q el cs)] a B h1
      rw [List.mem_singleton] at this
      cases this
      have h2' := (if_pos hg).symm.trans h2
      cases h2'
      exact hβg h3.symm
  · rw [hrun] at g1; cases g1
end Go.Ev

