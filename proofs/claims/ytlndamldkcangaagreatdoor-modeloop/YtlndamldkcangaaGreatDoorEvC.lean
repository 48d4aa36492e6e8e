/-
  A part of the proof that virgatetop.ModeLoop answers true for every text and every fuel: what the evaluator says of operations and calls. No condition.
-/
import Derived.Test.YtlndamldkcangaaGreatDoorEvB
import Derived.Laws.Append
import Derived.Laws.AppendOwn
import Derived.Lib.UnsafeStr
import Derived.Laws.IdiomStrings
import Derived.Defers
import Derived.LoopN
import Derived.Orders
set_option linter.all false
/-! append. -/
namespace Go.Ev
open Go
set_option linter.unusedSimpArgs false
set_option linter.unusedVariables false
section
variable {P : Program} {E : Env} {Φ : Ren} {w : World}

/-- another count of draws -/
def atD (w : World) (d : Nat) : World := { w with drawn := d }
theorem atD_heap (w : World) (d : Nat) : (atD w d).heap = w.heap := rfl

/-- what is appended: how many elements, which cells; 'zeros': 'make([]T, n)' stands there as n -/
structure SrcOk (P : Program) (tx el : TypeId) (sz : Nat) (ze : List Value) (zeros : Bool) (x : Value) (n : Nat) (news : List Value) (w : World) : Prop where
  len : news.length = n * sz
  yes : zeros = true → (∃ k, P.underlying tx = some (.int k)) ∧ x = .int .i64 (Int.ofNat n) ∧ n < 100000 ∧ news = reps ze n
  no : zeros = false → ((∃ e', P.underlying tx = some (.slice e')) ∨ P.underlying tx = some .string) ∧ (∀ w' : World, (Builtin.lenOf x).run P w' = .ok n w') ∧
    (∀ d, (Builtin.firstCells sz n x).run P (atD w d) = .ok news.toArray (atD w d))

theorem bytes_of {n b : Nat} (hn : n < 100000) (hb : b < 100000) : n * b ≤ 10000000000 :=
  Nat.le_trans (Nat.mul_le_mul (Nat.le_of_lt hn) (Nat.le_of_lt hb)) (by omega)
theorem pushW_drew (w : World) (o : Obj) : pushW w o (w.drawn + 1) = w.drew.alloc o := rfl

/-- THERE IS ROOM -/
theorem run_append_room {t tx el ty : TypeId} {i : TypeInfo} {ze : List Value} {base : Option Addr} {sLen sCap n : Nat} {x : Value} {news : List Value}
    (ht : P.underlying t = some (.slice el)) (hi : P.info? el = some i) (hs : SrcOk P tx el i.size ze false x n news w) (hroom : sLen + n ≤ sCap) :
    (Builtin.append_ #[t, tx] ty #[.slice base sLen sCap, x]).run P w =
      ((match base with | some a => storeCells (a.add (sLen * i.size)) news | none => pure ()).run P w).andThen fun _ w' => .ok (.slice base (sLen + n) sCap) w' := by
  obtain ⟨hlen, _, hno⟩ := hs
  obtain ⟨hk, hl, hc⟩ := hno rfl
  have hc0 : (Builtin.firstCells i.size n x).run P w = .ok news.toArray w := hc w.drawn
  rcases hk with ⟨e', hk⟩ | hk <;> cases base <;> simp [Builtin.append_, run_underlying ht, run_underlying hk, sizeOf, typeInfo, hi, hl, hroom, hc0]

theorem run_append_grow0 {t tx el ty : TypeId} {i : TypeInfo} {z : Value} {ze : List Value} {base : Option Addr} {sLen sCap n : Nat} {x : Value} {news olds : List Value}
    (ht : P.underlying t = some (.slice el)) (hi : P.info? el = some i) (hz : i.zero = some z) (hs : SrcOk P tx el i.size ze false x n news w)
    (hold : ∀ d, (Builtin.firstCells i.size sLen (.slice base sLen sCap)).run P (atD w d) = .ok olds.toArray (atD w d))
    (hg : sCap < sLen + n) (h63 : ((sLen + n : Nat) : Int) ≤ 9223372036854775807) (hfit : Builtin.nextslicecap (sLen + n) sCap * i.bytes ≤ 281474976710656) :
    (Builtin.append_ #[t, tx] ty #[.slice base sLen sCap, x]).run P w =
      .ok (.slice (some ⟨w.heap.size, 0, none⟩) (sLen + n) (grownCap w (sLen + n) sCap el))
        (pushW w (.cells ((olds ++ news).toArray ++ Builtin.zeroCells z.cells (grownCap w (sLen + n) sCap el - (sLen + n))) el) (w.drawn + 1)) := by
  obtain ⟨hlen, _, hno⟩ := hs
  obtain ⟨hk, hl, hc⟩ := hno rfl
  have hc0 : (Builtin.firstCells i.size n x).run P w.drew = .ok news.toArray w.drew := hc (w.drawn + 1)
  have ho0 : (Builtin.firstCells i.size sLen (.slice base sLen sCap)).run P w.drew = .ok olds.toArray w.drew := hold (w.drawn + 1)
  have hn : ¬ (sLen + n ≤ sCap) := by omega
  have h63' : ¬ (9223372036854775807 < ((sLen : Int) + (n : Int))) := by omega
  have h48' : ¬ (281474976710656 < Builtin.nextslicecap (sLen + n) sCap * i.bytes) := by omega
  rw [pushW_drew]
  rcases hk with ⟨e', hk⟩ | hk <;>
    (simp [Builtin.append_, run_underlying ht, run_underlying hk, sizeOf, typeInfo, zeroValue, hi, hz, hl, hn, h63', h48', Question.forced, hc0, ho0, newRow, grownCap]
     first
      | rfl
      | (congr 2; apply Array.ext'; simp [List.append_assoc])
      | trace_state)

theorem run_append_grow1 {t tx el ty : TypeId} {i : TypeInfo} {z : Value} {base : Option Addr} {sLen sCap n : Nat} {x : Value} {news olds : List Value}
    (ht : P.underlying t = some (.slice el)) (hi : P.info? el = some i) (hz : i.zero = some z) (hb : i.bytes < 100000) (hs : SrcOk P tx el i.size z.cells.toList true x n news w) (hzs : z.cells.size = i.size)
    (hold : ∀ d, (Builtin.firstCells i.size sLen (.slice base sLen sCap)).run P (atD w d) = .ok olds.toArray (atD w d))
    (hg : sCap < sLen + n) (h63 : ((sLen + n : Nat) : Int) ≤ 9223372036854775807) (hfit : Builtin.nextslicecap (sLen + n) sCap * i.bytes ≤ 281474976710656) :
    (Builtin.append_ #[t, tx] ty #[.slice base sLen sCap, x]).run P w =
      .ok (.slice (some ⟨w.heap.size, 0, none⟩) (sLen + n) (grownCap w (sLen + n) sCap el))
        (pushW w (.cells ((olds ++ news).toArray ++ Builtin.zeroCells z.cells (grownCap w (sLen + n) sCap el - (sLen + n))) el) (w.drawn + 1)) := by
  obtain ⟨hlen, hyes, _⟩ := hs
  obtain ⟨⟨k, hk⟩, rfl, hlt, hnew⟩ := hyes rfl
  have ho0 : (Builtin.firstCells i.size sLen (.slice base sLen sCap)).run P w.drew = .ok olds.toArray w.drew := hold (w.drawn + 1)
  have hn : ¬ (sLen + n ≤ sCap) := by omega
  have h63' : ¬ (9223372036854775807 < ((sLen : Int) + (n : Int))) := by omega
  have h48' : ¬ (281474976710656 < Builtin.nextslicecap (sLen + n) sCap * i.bytes) := by omega
  have hw : IntKind.i64.wrap (n : Int) = n := by rw [IntKind.wrap_i64]; omega
  have hneg : ¬ ((n : Int) < 0) := by omega
  have hbb : ¬ (281474976710656 < (n : Int) * (i.bytes : Int)) := by
    have := bytes_of hlt hb
    rw [← Int.natCast_mul]; omega
  have hzc : (Builtin.zeroCells z.cells n).toList = news := by rw [hnew]; exact zeros_eq z.cells n
  have hz0 : n * i.size = 0 → news = [] := fun h => List.eq_nil_of_length_eq_zero (by rw [hlen, h])
  rw [pushW_drew]
  by_cases h0 : n * i.size = 0
  · have h0' := hz0 h0
    simp [Builtin.append_, run_underlying ht, run_underlying hk, sizeOf, typeInfo, zeroValue, asInt, asIntOf, hi, hz, hn, hw, hneg, hbb, h63', h48', Question.forced, ho0, newRow, grownCap, h0, h0']
    first
      | rfl
      | (congr 2; apply Array.ext'; simp [List.append_assoc])
      | trace_state
  · have hzc' : (Builtin.zeroCells z.cells n) = news.toArray := by rw [← hzc]
    simp [Builtin.append_, run_underlying ht, run_underlying hk, sizeOf, typeInfo, zeroValue, asInt, asIntOf, hi, hz, hn, hw, hneg, hbb, h63', h48', Question.forced, ho0, newRow, grownCap, h0, hzc']
    first
      | rfl
      | (congr 2; apply Array.ext'; simp [List.append_assoc])
      | trace_state

theorem run_append_grow {t tx el ty : TypeId} {i : TypeInfo} {z : Value} {zeros : Bool} {base : Option Addr} {sLen sCap n : Nat} {x : Value} {news olds : List Value}
    (ht : P.underlying t = some (.slice el)) (hi : P.info? el = some i) (hz : i.zero = some z) (hb : i.bytes < 100000) (hs : SrcOk P tx el i.size z.cells.toList zeros x n news w) (hzs : z.cells.size = i.size)
    (hold : ∀ d, (Builtin.firstCells i.size sLen (.slice base sLen sCap)).run P (atD w d) = .ok olds.toArray (atD w d))
    (hg : sCap < sLen + n) (hlt : sLen + n < 1000000) :
    ∃ cap, sLen + n ≤ cap ∧ (Builtin.append_ #[t, tx] ty #[.slice base sLen sCap, x]).run P w =
      .ok (.slice (some ⟨w.heap.size, 0, none⟩) (sLen + n) cap)
        (pushW w (.cells ((olds ++ news).toArray ++ Builtin.zeroCells z.cells (cap - (sLen + n))) el) (w.drawn + 1)) := by
  have h63 : ((sLen + n : Nat) : Int) ≤ 9223372036854775807 := by omega
  have hfit : Builtin.nextslicecap (sLen + n) sCap * i.bytes ≤ 281474976710656 := by
    have h1 := nextslicecap_le hg
    have h2 : Builtin.nextslicecap (sLen + n) sCap * i.bytes ≤ 2000000 * 100000 := Nat.mul_le_mul (by omega) (by omega)
    omega
  refine ⟨grownCap w (sLen + n) sCap el, grownCap_ge w _ _ el, ?_⟩
  · cases zeros with
    | true => exact run_append_grow1 ht hi hz hb hs hzs hold hg h63 hfit
    | false => exact run_append_grow0 ht hi hz hs hold hg h63 hfit

theorem rdN_soundD {s : S} {a a' : Addr} {n : Nat} {cs : List Value} (hh : HRel Φ s.h w) (h : rdN s a n = some cs) (ha : AR Φ a a') :
    ∃ cs' : List Value, VRs Φ cs cs' ∧ cs.length = n ∧ ∀ d, (loadCells a' n).run P (atD w d) = .ok ⟨cs'⟩ (atD w d) := by
  obtain ⟨k, hg, hn⟩ := blk_eq h
  obtain ⟨l, hl, rfl⟩ := ha
  obtain ⟨c, f, h1, h2, h3, h4, _⟩ := hh.row hg hl
  obtain ⟨hlen, hi⟩ := cut_some _ _ _ _ hn
  have hcell : ∀ j v, cs[j]? = some v → ∃ v', w.cell? ((⟨l.b, l.base + a.off, none⟩ : Addr).add j) = some v' ∧ VR Φ v v' := by
    intro j v hv
    have hj : j < n := by
      rcases Nat.lt_or_ge j cs.length with h' | h'
      · omega
      · rw [List.getElem?_eq_none h'] at hv; cases hv
    rw [hi j hj] at hv
    obtain ⟨v', h5, h6⟩ := h4 (a.off + j) v hv
    refine ⟨v', ?_, h6⟩
    rw [add_none, cell_of_row w l.b _ c k.el f h1, Nat.add_assoc]; exact h5
  have hc' : ∀ j, j < n → ∃ v', w.cell? ((⟨l.b, l.base + a.off, none⟩ : Addr).add j) = some v' := by
    intro j hj
    obtain ⟨v', h5, _⟩ := hcell j _ (List.getElem?_eq_getElem (by omega))
    exact ⟨v', h5⟩
  let g : Nat → Value := fun j => ((w.cell? ((⟨l.b, l.base + a.off, none⟩ : Addr).add j)).getD undef)
  refine ⟨(List.range n).map g, ?_, hlen, fun d => ?_⟩
  · refine VRs.of_get (by simp [hlen]) fun j v hv => ?_
    have hj : j < n := by
      rcases Nat.lt_or_ge j cs.length with h' | h'
      · omega
      · rw [List.getElem?_eq_none h'] at hv; cases hv
    obtain ⟨v', h5, h6⟩ := hcell j v hv
    exact ⟨v', by simp [hj, g, h5], h6⟩
  · exact run_loadCells (atD w d) _ n g (fun j hj => by
      obtain ⟨v', h5⟩ := hc' j hj
      have : w.cell? ((⟨l.b, l.base + a.off, none⟩ : Addr).add j) = some (g j) := by simp [g, h5]
      exact this)

theorem byteV_self (Φ : Ren) (b : List UInt8) : VRs Φ (b.map byteV) (b.map byteV) := by
  induction b with
  | nil => exact .nil
  | cons x b ih => exact .cons _ _ _ _ (.int _ _) ih
theorem srcK_eq {d : TypeDesc} {b : Bool} (h : srcK d = some b) : (b = true → ∃ k, d = .int k) ∧ (b = false → (∃ e, d = .slice e) ∨ d = .string) := by
  unfold srcK at h
  split at h
  · cases h; exact ⟨fun e => Bool.noConfusion e, fun _ => .inl ⟨_, rfl⟩⟩
  · cases h; exact ⟨fun e => Bool.noConfusion e, fun _ => .inr rfl⟩
  · cases h; exact ⟨fun _ => ⟨_, rfl⟩, fun e => Bool.noConfusion e⟩
  · cases h
theorem src_sound {s : S} {ti xi : TI} {tx el : TypeId} {x x' : Value} {n : Nat} {news : List Value} {zs : Bool} (hr : Rel Φ s w) (hti : TIok P el ti) (hxi : TIok P tx xi)
    (hzs : srcK xi.kd = some zs) (h : srcCells s ti.sz ti.ze zs x = some (n, news)) (hx : VR Φ x x') :
    ∃ news', VRs Φ news news' ∧ SrcOk P tx el ti.sz ti.ze zs x' n news' w := by
  have hu0 := hxi.und
  obtain ⟨hk1, hk2⟩ := srcK_eq hzs
  have hu : zs = false → ((∃ e', P.underlying tx = some (.slice e')) ∨ P.underlying tx = some .string) := by
    intro e
    rw [hu0]
    rcases hk2 e with ⟨e', h⟩ | h <;> rw [h]
    · exact .inl ⟨_, rfl⟩
    · exact .inr rfl
  unfold srcCells at h
  split at h
  · rename_i n0 c
    obtain ⟨h1, h2⟩ := gd_eq h
    cases h2
    rw [beq_nat] at h1; subst h1
    cases hx
    refine ⟨[], .nil, by simp, fun e => Bool.noConfusion e, fun _ => ⟨hu rfl, fun _ => rfl, fun d => ?_⟩⟩
    simp [Builtin.firstCells]
  · rename_i a n0 c
    rw [bi_eq] at h
    split at h
    · rename_i h0
      cases h
      rw [beq_nat] at h0; subst h0
      refine ⟨[], .nil, by simp, fun e => Bool.noConfusion e, fun _ => ⟨hu rfl, ?_, ?_⟩⟩
      · intro w'; cases hx <;> rfl
      · intro d; cases hx <;> simp [Builtin.firstCells, loadCells, loadCellsFrom]
    · rename_i h0
      obtain ⟨cs, h1, h2⟩ := ob_eq h
      cases h2
      have h0' : n ≠ 0 := fun e => h0 (beq_nat.2 e)
      have hsl : ∃ a' c', x' = .slice (some a') n c' ∧ AR Φ a a' := by
        cases hx with
        | sl b o n c l hl => exact ⟨_, _, rfl, l, hl, rfl⟩
        | slo b o n c c' z l hl => exact ⟨_, _, rfl, l, hl, rfl⟩
        | sle b o c' a => exact absurd rfl h0'
      obtain ⟨a', c', rfl, ha⟩ := hsl
      obtain ⟨cs', h3, h4, h5⟩ := rdN_soundD (P := P) hr.toHRel h1 ha
      refine ⟨cs', h3, by rw [h3.length, h4], fun e => Bool.noConfusion e, fun _ => ⟨hu rfl, fun _ => rfl, fun d => h5 d⟩⟩
  · rename_i b
    obtain ⟨h1, h2⟩ := gd_eq h
    cases h2
    rw [beq_nat] at h1
    cases hx
    refine ⟨_, byteV_self _ _, by rw [h1, List.length_map, Nat.mul_one], fun e => Bool.noConfusion e, fun _ => ⟨hu rfl, ?_, ?_⟩⟩
    · intro w'
      have : b.data.toList.length = b.size := Array.length_toList
      rw [this]; rfl
    · intro d
      have : b.data.toList.length = b.size := Array.length_toList
      rw [this]
      have e1 : (b.extract 0 b.size) = b := by simp
      simp only [Builtin.firstCells, e1, Sem.run_pure]
      congr 1
      apply Array.ext'
      simp [byteV]
  · rename_i n0
    obtain ⟨m, rfl, h1⟩ := iNat_eq h
    obtain ⟨h2, h3⟩ := gd_eq h1
    cases h3
    rw [blt_nat] at h2
    cases hx
    obtain ⟨k, hk⟩ := hk1 rfl
    refine ⟨_, VRs.plain (plainL_reps _ hti.pl n), ?_, fun _ => ⟨⟨k, by rw [hu0, hk]⟩, rfl, h2, rfl⟩, fun e => Bool.noConfusion e⟩
    rw [(reps_spec ti.ze n).1, hti.len]
  · cases h
end
end Go.Ev

/-! append, the joined law. -/
namespace Go.Ev
open Go
set_option linter.unusedSimpArgs false
set_option linter.unusedVariables false
section
variable {P : Program} {E : Env} {Φ : Ren} {w : World}

/-- a new object in a block that no object lies in -/
theorem Rel.place {s : S} {w' : World} (hr : Rel Φ s w) (B : AB) (l : Loc) (hno : ¬ Im Φ s.h l.b)
    (hoth : ∀ β, β ≠ l.b → w'.heap[β]? = w.heap[β]?) (hb : BR (Φ.add s.nx l) B l w'.heap[l.b]?) (hpa : B.pa = []) :
    Rel (Φ.add s.nx l) (newB s B) w' ∧ ∀ β, Im (Φ.add s.nx l) (newB s B).h β → Im Φ s.h β ∨ β = l.b := by
  have hh := hr.toHRel
  have hle := Ren.le_add hr.dom l
  have hget : ∀ b B', (newB s B).h.get b = some B' → (b = s.nx ∧ B' = B) ∨ (b < s.nx ∧ s.h.get b = some B') := by
    intro b B' h
    rw [newB_h, get_set] at h
    by_cases e : b = s.nx
    · rw [if_pos e] at h; cases h; exact .inl ⟨e, rfl⟩
    · rw [if_neg e] at h; exact .inr ⟨hr.lt h, h⟩
  have hold : ∀ b B' m, s.h.get b = some B' → b < s.nx → (Φ.add s.nx l) b = some m → Φ b = some m ∧ m.b ≠ l.b := by
    intro b B' m h hb hm
    rw [Ren.add_other _ _ (by omega)] at hm
    exact ⟨hm, fun e => hno ⟨b, B', m, h, hm, e⟩⟩
  have hnp : ∀ p, p ∉ B.pa := fun p hp => by rw [hpa] at hp; cases hp
  refine ⟨⟨⟨?_, ?_, ?_, ?_⟩, ?_, ?_, hr.gl.mono (Ren.le_add hr.dom _)⟩, ?_⟩
  · intro b B' h
    rcases hget b B' h with ⟨rfl, rfl⟩ | ⟨h1, h2⟩
    · exact ⟨l, Ren.add_same _ _ _, hb⟩
    · obtain ⟨m, h3, h4⟩ := hh.live b B' h2
      refine ⟨m, hle _ _ h3, ?_⟩
      rw [hoth _ (fun e => hno ⟨b, B', m, h2, h3, e⟩)]; exact h4.mono hle
  · intro b b' B1 B2 m m' h h' hne hm hm' he
    rcases hget b B1 h with ⟨e1, e2⟩ | ⟨h1, h2⟩
    · subst e1 e2
      rcases hget b' B2 h' with ⟨e1, e2⟩ | ⟨h1', h2'⟩
      · exact absurd e1.symm hne
      · rw [Ren.add_same] at hm; cases hm
        exact absurd he.symm (hold b' B2 m' h2' h1' hm').2
    · rcases hget b' B2 h' with ⟨e1, e2⟩ | ⟨h1', h2'⟩
      · subst e1 e2
        rw [Ren.add_same] at hm'; cases hm'
        exact absurd he (hold b B1 m h2 h1 hm).2
      · exact hh.apart b b' B1 B2 m m' h2 h2' hne (hold _ _ _ h2 h1 hm).1 (hold _ _ _ h2' h1' hm').1 he
  · intro b B1 p P h hp h'
    rcases hget b B1 h with ⟨e1, e2⟩ | ⟨h1, h2⟩
    · subst e1 e2; exact absurd hp (hnp p)
    · have hlt : p < s.nx := hr.pas b B1 p h2 hp
      rcases hget p P h' with ⟨e1, _⟩ | ⟨_, h2'⟩
      · omega
      · exact hh.heir b B1 p P h2 hp h2'
  · intro b B1 p P m m' h hp h' hm hm' he
    rcases hget b B1 h with ⟨e1, e2⟩ | ⟨h1, h2⟩
    · subst e1 e2; exact absurd hp (hnp p)
    · have hlt : p < s.nx := hr.pas b B1 p h2 hp
      rcases hget p P h' with ⟨e1, _⟩ | ⟨_, h2'⟩
      · omega
      · exact hh.ends b B1 p P m m' h2 hp h2' (hold _ _ _ h2 h1 hm).1 (hold _ _ _ h2' hlt hm').1 he
  · rw [newB_nx]; exact hr.dom.add l
  · intro b B1 p h hp
    rw [newB_nx]
    rcases hget b B1 h with ⟨e1, e2⟩ | ⟨h1, h2⟩
    · subst e1 e2; exact absurd hp (hnp p)
    · have := hr.pas b B1 p h2 hp; omega
  · rintro β ⟨b, B1, m, h1, h2, h3⟩
    rcases hget b B1 h1 with ⟨e1, e2⟩ | ⟨h4, h5⟩
    · subst e1 e2; rw [Ren.add_same] at h2; cases h2; exact .inr h3.symm
    · exact .inl ⟨b, B1, m, h5, (hold _ _ _ h5 h4 h2).1, h3⟩

/-- an effect: what it answers, and in which state it leaves -/
def Does (P : Program) (Φ : Ren) (s : S) (w : World) (x : Sem Value) (v : Value) (s' : S) : Prop :=
  ∃ v' w' Φ', x.run P w = .ok v' w' ∧ VR Φ' v v' ∧ Rel Φ' s' w' ∧ Ext Φ s w Φ' s' w'

theorem grown_eq {s : S} {el : TypeId} {sz : Nat} {c : List Value} {pa : List Nat} {n : Nat} {v : Value} {s' : S} (h : grown s el sz c pa n = some (v, s')) :
    v = .slice (some ⟨s.nx, 0, some (sz + 1)⟩) n n ∧ s' = newB s (.cells ⟨c, el, true, pa, false, none⟩) := by
  cases s; cases h; exact ⟨rfl, rfl⟩

/-- the new row of an append -/
theorem push_BR {Ψ : Ren} {el : TypeId} {c c' : List Value} {pa : List Nat} {b : Nat} {ze : Array Value} (h : VRs Ψ c c') :
    BR Ψ (.cells ⟨c, el, true, pa, false, none⟩) ⟨b, 0, (c'.toArray ++ ze).size⟩ (some (.cells (c'.toArray ++ ze) el)) := by
  refine ⟨_, _, rfl, rfl, ?_, ?_, rfl, fun e => Bool.noConfusion e⟩
  · have := h.length; simp [this]
  · intro i v hv
    obtain ⟨v', h1, h2⟩ := h.get i v hv
    have hi : i < c'.length := by
      rcases Nat.lt_or_ge i c'.length with h' | h'
      · exact h'
      · rw [List.getElem?_eq_none h'] at h1; cases h1
    refine ⟨v', ?_, h2⟩
    simp only [Nat.zero_add]
    rw [Array.getElem?_append_left (by simpa using hi)]
    simpa using h1

/-- a realloc: a new block -/
theorem grown_new {s : S} {el : TypeId} {sz n cap : Nat} {c c' : List Value} {pa : List Nat} {v : Value} {s' : S} {ze : Array Value} (hr : Rel Φ s w) (h : grown s el sz c pa n = some (v, s')) (hc : VRs Φ c c')
    (hpa : ∀ p, p ∈ pa → p < s.nx ∧ ∀ P, s.h.get p = some P → P.isStale) (hcap : n ≤ cap) (hlen : (c'.toArray ++ ze).size = cap * sz) {x : Sem Value}
    (hx : x.run P w = .ok (.slice (some ⟨w.heap.size, 0, none⟩) n cap) (pushW w (.cells (c'.toArray ++ ze) el) (w.drawn + 1))) : Does P Φ s w x v s' := by
  obtain ⟨rfl, rfl⟩ := grown_eq h
  obtain ⟨h1, h2⟩ := hr.new (w' := pushW w (.cells (c'.toArray ++ ze) el) (w.drawn + 1)) (.cells ⟨c, el, true, pa, false, none⟩) ⟨w.heap.size, 0, (c'.toArray ++ ze).size⟩ (Nat.le_refl _)
    (by rw [pushW_size]; omega) (fun β hβ => pushW_other hβ) (by rw [pushW_same]; exact push_BR (hc.mono (Ren.le_add hr.dom _))) hpa rfl rfl rfl
  refine ⟨_, _, _, hx, ?_, h1, h2⟩
  exact .slo s.nx 0 n n cap sz ⟨w.heap.size, 0, (c'.toArray ++ ze).size⟩ (Ren.add_same _ _ _) hcap (by simp only [Nat.zero_add, Nat.add_zero]; omega)

theorem run_append_room1 {t tx el ty : TypeId} {i : TypeInfo} {z : Value} {base : Option Addr} {sLen sCap n : Nat} {x : Value} {news : List Value}
    (ht : P.underlying t = some (.slice el)) (hi : P.info? el = some i) (hz : i.zero = some z) (hb : i.bytes < 100000) (hs : SrcOk P tx el i.size z.cells.toList true x n news w) (hroom : sLen + n ≤ sCap) :
    (Builtin.append_ #[t, tx] ty #[.slice base sLen sCap, x]).run P w =
      ((match base with | some a => storeCells (a.add (sLen * i.size)) news | none => pure ()).run P w).andThen fun _ w' => .ok (.slice base (sLen + n) sCap) w' := by
  obtain ⟨hlen, hyes, _⟩ := hs
  obtain ⟨⟨k, hk⟩, rfl, hlt, hnew⟩ := hyes rfl
  have hw : IntKind.i64.wrap (n : Int) = n := by rw [IntKind.wrap_i64]; omega
  have hneg : ¬ ((n : Int) < 0) := by omega
  have hbb : ¬ (281474976710656 < (n : Int) * (i.bytes : Int)) := by
    have := bytes_of hlt hb
    rw [← Int.natCast_mul]; omega
  have hzc : (Builtin.zeroCells z.cells n).toList = news := by rw [hnew]; exact zeros_eq z.cells n
  have hz0 : n * i.size = 0 → news = [] := fun h => List.eq_nil_of_length_eq_zero (by rw [hlen, h])
  by_cases h0 : n * i.size = 0
  · have h0' := hz0 h0
    cases base <;> simp [Builtin.append_, run_underlying ht, run_underlying hk, sizeOf, typeInfo, zeroValue, asInt, asIntOf, hi, hz, hw, hneg, hbb, hroom, h0, h0', storeCells]
  · have hzc' : (Builtin.zeroCells z.cells n) = news.toArray := by rw [← hzc]
    cases base <;> simp [Builtin.append_, run_underlying ht, run_underlying hk, sizeOf, typeInfo, zeroValue, asInt, asIntOf, hi, hz, hw, hneg, hbb, hroom, h0, hzc']

theorem append_room {t tx el ty : TypeId} {i : TI} {base : Option Addr} {sLen sCap n : Nat} {x : Value} {news : List Value} {zs : Bool}
    (ht : P.underlying t = some (.slice el)) (hi : TIok P el i) (hb : i.bt < 100000) (hs : SrcOk P tx el i.sz i.ze zs x n news w) (hroom : sLen + n ≤ sCap) :
    (Builtin.append_ #[t, tx] ty #[.slice base sLen sCap, x]).run P w =
      ((match base with | some a => storeCells (a.add (sLen * i.sz)) news | none => pure ()).run P w).andThen fun _ w' => .ok (.slice base (sLen + n) sCap) w' := by
  obtain ⟨j, z, hj, hsz, hbt, hz, hzc, _⟩ := hi.info
  rw [← hsz, ← hzc] at hs
  rw [← hsz]
  cases zs with
  | true => exact run_append_room1 ht hj hz (by omega) hs hroom
  | false => exact run_append_room ht hj hs hroom

theorem append_new {s : S} {t tx el ty : TypeId} {i : TI} {base : Option Addr} {sLen sCap n : Nat} {x : Value} {old old' new new' : List Value} {pa : List Nat} {zs : Bool} {v : Value} {s' : S}
    (ht : P.underlying t = some (.slice el)) (hi : TIok P el i) (hb : i.bt < 100000) (hr : Rel Φ s w) (h : grown s el i.sz (old ++ new) pa (sLen + n) = some (v, s')) (hold : VRs Φ old old') (hol : old.length = sLen * i.sz)
    (hrun : ∀ d, (Builtin.firstCells i.sz sLen (.slice base sLen sCap)).run P (atD w d) = .ok old'.toArray (atD w d)) (hnew : VRs Φ new new') (hs : SrcOk P tx el i.sz i.ze zs x n new' w)
    (hpa : ∀ p, p ∈ pa → p < s.nx ∧ ∀ P, s.h.get p = some P → P.isStale) (hg : sCap < sLen + n) (hlt : sLen + n < 1000000) :
    Does P Φ s w (Builtin.append_ #[t, tx] ty #[.slice base sLen sCap, x]) v s' := by
  obtain ⟨j, z, hj, hsz, hbt, hz, hzc, _⟩ := hi.info
  have hl := hi.len
  have hzs : z.cells.size = j.size := by rw [hsz, ← hl, ← hzc]; simp
  have hs2 := hs
  rw [← hsz, ← hzc] at hs2
  obtain ⟨cap, h1, h2⟩ := run_append_grow (ty := ty) ht hj hz (by omega) hs2 hzs (by rw [hsz]; exact hrun) hg hlt
  refine grown_new hr h (hold.append hnew) hpa h1 ?_ h2
  have e1 := hold.length; have e2 := hs.len
  have e3 : (Builtin.zeroCells z.cells (cap - (sLen + n))).size = (cap - (sLen + n)) * i.sz := by
    have := congrArg List.length (zeros_eq z.cells (cap - (sLen + n)))
    rw [(reps_spec _ _).1] at this
    have e : z.cells.toList.length = i.sz := by rw [hzc, hl]
    rw [e] at this
    simpa [Builtin.zeroCells] using this
  simp only [Array.size_append, List.size_toArray, List.length_append, e1, e2, e3, hol]
  rw [← Nat.add_mul, ← Nat.add_mul]
  congr 1; omega

/-- in place, behind all that is asked for -/
theorem append_in {s : S} {t tx el ty : TypeId} {i : TI} {a : Nat} {off sLen c n : Nat} {k : Blk} {l : Loc} {x : Value} {old new new' : List Value} {zs : Bool}
    (ht : P.underlying t = some (.slice el)) (hi : TIok P el i) (hb : i.bt < 100000) (hr : Rel Φ s w) (hg : s.h.get a = some (.cells k)) (hl : Φ a = some l) (hel : k.el = el) (hfz : k.fz = none)
    (hcut : cut k.c off (sLen * i.sz) = some old) (hroom : sLen + n ≤ c) (hc : l.base + off + c * i.sz ≤ l.size) (hnew : VRs Φ new new') (hs : SrcOk P tx el i.sz i.ze zs x n new' w) (hfl : flatL new = true) :
    ∃ cc, w.heap[l.b]? = some (.cells cc el (0, 0)) ∧ cc.size = l.size ∧ l.base + off + (sLen + n) * i.sz ≤ l.size ∧ new'.length = n * i.sz ∧
      (Builtin.append_ #[t, tx] ty #[.slice (some ⟨l.b, l.base + off, none⟩) sLen c, x]).run P w =
        .ok (.slice (some ⟨l.b, l.base + off, none⟩) (sLen + n) c) (putO w l.b (.cells (laid cc (l.base + off + sLen * i.sz) new') el (0, 0))) ∧
      ∀ pa, BR Φ (.cells ⟨old ++ new, el, true, pa, false, none⟩) ⟨l.b, l.base + off, l.size⟩ (some (.cells (laid cc (l.base + off + sLen * i.sz) new') el (0, 0))) := by
  obtain ⟨cc, f, g1, g2, g3, g4, g5, g6⟩ := hr.toHRel.row hg hl
  rw [hfz] at g5
  have g5' : f = (0, 0) := g5
  subst g5'
  rw [hel] at g1
  have hle : l.base + off + (sLen + n) * i.sz ≤ l.size := by
    have : (sLen + n) * i.sz ≤ c * i.sz := Nat.mul_le_mul_right _ hroom
    omega
  have e2 := hs.len
  rw [Nat.add_mul] at hle
  obtain ⟨hol, hog⟩ := cut_some _ _ _ _ hcut
  have hle2 : l.base + off + sLen * i.sz + new'.length ≤ cc.size := by omega
  have hone : ∀ v ∈ new', v.oneCell' = true := by
    intro v' hv'
    obtain ⟨q, hq, e⟩ := List.getElem_of_mem hv'
    have hq' : q < new.length := by have := hnew.length; omega
    obtain ⟨u', e1, e2⟩ := hnew.get q new[q] (List.getElem?_eq_getElem hq')
    rw [List.getElem?_eq_getElem hq] at e1
    cases e1
    rw [← e]
    exact flat_of e2 (flatL_get hfl _ (List.getElem_mem hq'))
  refine ⟨cc, g1, g2, by rw [Nat.add_mul]; exact hle, e2, ?_, fun pa => ?_⟩
  · rw [append_room ht hi hb hs hroom]
    have hrun := run_storeCells (P := P) (o := l.base + off + sLen * i.sz) new' 0 w cc g1 (by omega) (fun j _ hh => by simp at hh) hone
    simp only [Nat.add_zero] at hrun
    simp only [add_none, hrun, Result.andThen_ok]
  · refine ⟨_, (0, 0), rfl, by rw [laid_size hle2]; exact g2, ?_, ?_, rfl, fun e => Bool.noConfusion e⟩
    · rw [laid_size hle2]
      have := hnew.length
      show l.base + off + (old ++ new).length ≤ _
      rw [List.length_append, hol]; omega
    · intro q u hu
      show ∃ v', (laid cc (l.base + off + sLen * i.sz) new')[l.base + off + q]? = some v' ∧ VR Φ u v'
      have hu' : (old ++ new)[q]? = some u := hu
      rw [laid_get hle2]
      rw [List.getElem?_append] at hu'
      by_cases hq : q < old.length
      · rw [if_pos hq] at hu'
        rw [if_neg (by omega)]
        rw [hog q (by omega)] at hu'
        rw [Nat.add_assoc]
        exact g4 _ _ hu'
      · rw [if_neg hq] at hu'
        have hq2 : q - old.length < new.length := by
          rcases Nat.lt_or_ge (q - old.length) new.length with h' | h'
          · exact h'
          · rw [List.getElem?_eq_none h'] at hu'; cases hu'
        have := hnew.length
        rw [if_pos (by omega), show l.base + off + q - (l.base + off + sLen * i.sz) = q - old.length from by omega]
        exact hnew.get _ _ hu'

theorem Does.from {s s1 : S} {x : Sem Value} {v : Value} {s' : S} (h0 : Ext Φ s w Φ s1 w) (h : Does P Φ s1 w x v s') : Does P Φ s w x v s' := by
  obtain ⟨v', w', Φ', h1, h2, h3, h4⟩ := h
  exact ⟨v', w', Φ', h1, h2, h3, h0.trans h4⟩

theorem growOpen_sound {s : S} {t tx el ty : TypeId} {i : TI} {a off sLen c' n z : Nat} {k : Blk} {l : Loc} {x : Value} {old old' new new' : List Value} {zs : Bool} {v : Value} {s' : S} {sp : Option Nat}
    (ht : P.underlying t = some (.slice el)) (hi : TIok P el i) (hb : i.bt < 100000) (hr : Rel Φ s w) (hg : s.h.get a = some (.cells k)) (hl : Φ a = some l)
    (hcut : cut k.c off (sLen * i.sz) = some old) (hold : VRs Φ old old') (hrun : ∀ d, (Builtin.firstCells i.sz sLen (.slice (some ⟨l.b, l.base + off, none⟩) sLen c')).run P (atD w d) = .ok old'.toArray (atD w d))
    (hc : l.base + off + c' * z ≤ l.size) (hnew : VRs Φ new new') (hs : SrcOk P tx el i.sz i.ze zs x n new' w) (hfl : flatL new = true) (hlt : sLen + n < 1000000)
    (h : growOpen s el i.sz sLen (sLen + n) z ⟨a, off, sp⟩ k (old ++ new) = some (v, s')) :
    Does P Φ s w (Builtin.append_ #[t, tx] ty #[.slice (some ⟨l.b, l.base + off, none⟩) sLen c', x]) v s' := by
  have hh := hr.toHRel
  obtain ⟨h1, h2⟩ := gd_eq h
  simp only [band_eq, bnot_eq, Bool.and_eq_true, Bool.not_eq_true', beq_nat] at h1
  obtain ⟨⟨hst, hgr, hfz⟩, hz, hel⟩ := h1
  subst hz
  have hfz' : k.fz = none := by cases hk : k.fz with | none => rfl | some _ => rw [hk] at hfz; cases hfz
  have hol := (cut_some _ _ _ _ hcut).1
  have halt : a < s.nx := hr.lt hg
  rw [bi_eq] at h2
  split at h2
  · rename_i hend
    rw [beq_nat] at hend
    obtain ⟨hr1, hx1⟩ := hr.stale hg
    by_cases hroom : sLen + n ≤ c'
    · obtain ⟨cc, g1, g2, g3, g4, g5, g6⟩ := append_in (ty := ty) ht hi hb hr hg hl hel hfz' hcut hroom hc hnew hs hfl
      obtain ⟨rfl, rfl⟩ := grown_eq h2
      have hlt1 := lt_of_get g1
      have hg1 : (stale s a k).h.get a = some (.cells ⟨k.c, k.el, k.gr, k.pa, true, k.fz⟩) := by rw [stale_h, get_set_same]
      have hle2 : l.base + off + sLen * i.sz + new'.length ≤ cc.size := by rw [Nat.add_mul] at g3; omega
      have hend0 : k.c.length = off + sLen * i.sz := hend.symm
      have := hr1.grow (w' := putO w l.b (.cells (laid cc (l.base + off + sLen * i.sz) new') el (0, 0))) hg1 rfl
        (fun b B m hb hne hp hm => by
          obtain ⟨B0, h0, _⟩ := stale_get hg hb
          exact hh.only hg hst h0 hne hp hl hm) hl off (old ++ new) el (by
            show l.base + k.c.length ≤ _
            rw [List.length_append, hol]; omega) (putO_size _ _ _) (fun β hβ => putO_other hβ)
        (fun b B m hb hm hmb hle hB => by
          have hle' : m.base + B.len ≤ l.base + k.c.length := hle
          rw [hmb] at hB ⊢
          rw [putO_same hlt1]
          rw [g1] at hB
          cases B with
          | cells kb =>
            obtain ⟨c0, f0, e1, e2, e3, e4, e5, e6⟩ := hB
            cases e1
            have hle'' : m.base + kb.c.length ≤ l.base + k.c.length := hle'
            refine ⟨_, (0, 0), by
              first | rfl | (have := congrArg (fun _ => ()) hm; rfl), by rw [laid_size hle2]; exact e2, by rw [laid_size hle2]; exact e3, ?_, by rw [laid_size hle2]; exact e5, by rw [laid_size hle2]; exact e6⟩
            intro q u hu
            obtain ⟨u', e7, e8⟩ := e4 q u hu
            have hq : q < kb.c.length := by
              rcases Nat.lt_or_ge q kb.c.length with h' | h'
              · exact h'
              · rw [List.getElem?_eq_none h'] at hu; cases hu
            exact ⟨u', by rw [laid_get hle2, if_neg (by omega)]; exact e7, e8⟩
          | map es cl => obtain ⟨_, e1, _⟩ := hB; cases e1
          | mapu es => obtain ⟨_, _, _, e1, _⟩ := hB; cases e1
          | sit x pos => cases hB.2
          | mit m' si => obtain ⟨_, _, e1, _⟩ := hB; cases e1)
        (by rw [putO_same hlt1]; exact (g6 _).mono (Ren.le_add hr1.dom _)) rfl rfl rfl
      obtain ⟨q1, q2⟩ := this
      refine ⟨_, _, _, g5, ?_, q1, hx1.trans q2⟩
      refine .slo _ 0 (sLen + n) (sLen + n) c' i.sz ⟨l.b, l.base + off, l.size⟩ (Ren.add_same _ _ _) hroom ?_
      simp only [Nat.add_zero]; exact hc
    · refine Does.from hx1 (append_new ht hi hb hr1 h2 hold hol hrun hnew hs ?_ (by omega) hlt)
      intro p hp
      rw [stale_nx]
      rcases List.mem_cons.1 hp with rfl | hp
      · refine ⟨halt, fun P hP => ?_⟩
        have e : (stale s p k).h.get p = some (.cells ⟨k.c, k.el, k.gr, k.pa, true, k.fz⟩) := by rw [stale_h, get_set_same]
        have hP' : (stale s p k).h.get p = some P := hP
        rw [e] at hP'; cases hP'; rfl
      · refine ⟨hr.pas a _ p hg hp, fun P hP => ?_⟩
        have hP' : (stale s a k).h.get p = some P := hP
        obtain ⟨P0, h0, _, _, h3, _⟩ := stale_get hg hP'
        exact h3 (hh.heir a _ p P0 hg hp h0)
  · have hless : ∀ b B, (⟨Tr.set (kill k.pa s.h) a none, s.nx⟩ : S).h.get b = some B → s.h.get b = some B ∧ b ≠ a ∧ b ∉ k.pa := by
      intro b B hb
      have hb' : (Tr.set (kill k.pa s.h) a none).get b = some B := hb
      rw [get_set] at hb'
      by_cases e : b = a
      · rw [if_pos e] at hb'; cases hb'
      · rw [if_neg e, get_kill] at hb'
        split at hb'
        · cases hb'
        · exact ⟨hb', e, ‹_›⟩
    have hrx := hr.less (s' := ⟨Tr.set (kill k.pa s.h) a none, s.nx⟩) (fun b B hb => (hless b B hb).1) rfl
    obtain ⟨hr1, hx1⟩ := hrx
    by_cases hroom : sLen + n ≤ c'
    · obtain ⟨cc, g1, g2, g3, g4, g5, g6⟩ := append_in (ty := ty) ht hi hb hr hg hl hel hfz' hcut hroom hc hnew hs hfl
      obtain ⟨rfl, rfl⟩ := grown_eq h2
      have hlt1 := lt_of_get g1
      have hno : ¬ Im Φ (⟨Tr.set (kill k.pa s.h) a none, s.nx⟩ : S).h l.b := by
        rintro ⟨b, B, m, h3, h4, h5⟩
        obtain ⟨h6, h7, h8⟩ := hless b B h3
        exact hh.only hg hst h6 h7 h8 hl h4 h5
      obtain ⟨q1, q2⟩ := hr1.place (w' := putO w l.b (.cells (laid cc (l.base + off + sLen * i.sz) new') el (0, 0))) (.cells ⟨old ++ new, el, true, [], false, none⟩) ⟨l.b, l.base + off, l.size⟩ hno
        (fun β hβ => putO_other hβ) (by rw [putO_same hlt1]; exact (g6 _).mono (Ren.le_add hr1.dom _)) rfl
      have himl : Im Φ s.h l.b := ⟨a, _, l, hg, hl, rfl⟩
      refine ⟨_, _, _, g5, ?_, q1, ⟨?_, ?_, ?_, ?_, ?_, rfl, rfl, rfl⟩⟩
      · refine .slo _ 0 (sLen + n) (sLen + n) c' i.sz ⟨l.b, l.base + off, l.size⟩ (Ren.add_same _ _ _) hroom ?_
        simp only [Nat.add_zero]; exact hc
      · rw [newB_nx]; exact Nat.le_succ _
      · intro b hb; exact Ren.add_other _ _ (by show b ≠ s.nx; omega)
      · rw [putO_size]; exact Nat.le_refl _
      · intro β _ hβ
        exact putO_other (fun e => hβ (e ▸ himl))
      · intro β hβ
        rcases q2 β hβ with h3 | h3
        · obtain ⟨b, B, m, h4, h5, h6⟩ := h3
          exact .inl ⟨b, B, m, (hless b B h4).1, h5, h6⟩
        · exact .inl (h3 ▸ himl)
    · exact Does.from hx1 (append_new ht hi hb hr1 h2 hold hol hrun hnew hs (fun p hp => by cases hp) (by omega) hlt)

theorem appendV0_sound {s : S} {t tx : TypeId} {v x v' x' r : Value} {s' : S} (ty : TypeId) (hE : EOK P E) (hr : Rel Φ s w) (h : appendV0 E s t tx v x = some (r, s')) (hv : VR Φ v v') (hx : VR Φ x x') :
    Does P Φ s w (Builtin.append_ #[t, tx] ty #[v', x']) r s' := by
  obtain ⟨ti, h1, h⟩ := ob_eq h
  obtain ⟨el, hkd, h⟩ := kSlice_eq h
  obtain ⟨i, h2, h⟩ := ob_eq h
  obtain ⟨xi, h3, h⟩ := ob_eq h
  obtain ⟨base, sLen, sCap, rfl, h⟩ := vSlice_eq h
  obtain ⟨zs, hzs, h⟩ := ob_eq h
  obtain ⟨⟨n, news⟩, hsrc, h⟩ := ob_eq h
  obtain ⟨hb, h⟩ := gd_eq h
  simp only [band_eq, Bool.and_eq_true, blt_nat] at hb
  obtain ⟨hb0, hb1, hb2⟩ := hb
  have hti := hE.ty _ _ h1
  have hi := hE.ty _ _ h2
  have ht : P.underlying t = some (.slice el) := by rw [hti.und, hkd]
  obtain ⟨news', hnew, hs⟩ := src_sound hr hi (hE.ty _ _ h3) hzs hsrc hx
  rw [bi_eq] at h
  split at h
  · rename_i hfit
    rw [ble_nat] at hfit
    obtain ⟨_, h⟩ := gd_eq h
    unfold appendFit at h
    rw [bi_eq] at h
    split at h
    · rename_i h0
      rw [beq_nat] at h0
      have hn0 : n = 0 := by omega
      subst hn0
      cases h
      have hn' : news' = [] := List.eq_nil_of_length_eq_zero (by rw [hs.len]; simp)
      subst hn'
      refine ⟨v', w, Φ, ?_, hv, hr, Ext.refl _ _ _⟩
      cases hv with
      | nils => rw [append_room ht hi hb1 hs hfit]; rfl
      | sl => rw [append_room ht hi hb1 hs hfit]; rfl
      | slo b o n c c' z l hl hc hsz => rw [append_room ht hi hb1 hs (by omega)]; rfl
      | sle => rw [append_room ht hi hb1 hs (by omega)]; rfl
    · rename_i h0
      obtain ⟨a, rfl, h⟩ := ob_eq h
      obtain ⟨s1, h4, h⟩ := ob_eq h
      cases h
      have hgo : ∀ a' c', AR Φ a a' → sLen + n ≤ c' → (∀ m, VR Φ (.slice (some a) m sCap) (.slice (some a') m c')) → v' = .slice (some a') sLen c' → Does P Φ s w (Builtin.append_ #[t, tx] ty #[v', x']) (.slice (some a) (sLen + n) sCap) s' := by
        intro a' c' ha hroom hvr e
        subst e
        obtain ⟨w', g1, g2, g3⟩ := wrN_sound (P := P) hr h4 (ha.add _ none) hnew
        refine ⟨_, w', Φ, ?_, hvr _, g2, g3⟩
        rw [append_room ht hi hb1 hs hroom]
        simp only [g1, Result.andThen_ok]
      cases hv with
      | sl b o n c l hl => exact hgo _ _ ⟨l, hl, rfl⟩ hfit (fun m => .sl _ _ _ _ l hl) rfl
      | slo b o n c c' z l hl hc hsz => exact hgo _ _ ⟨l, hl, rfl⟩ (by omega) (fun m => .slo _ _ _ _ _ _ l hl hc hsz) rfl
      | sle => exact absurd (beq_nat.2 (by omega)) h0
  · rename_i hnf
    rw [ble_nat] at hnf
    obtain ⟨h4, h⟩ := gd_eq h
    simp only [band_eq, Bool.and_eq_true, blt_nat] at h4
    obtain ⟨hlt, hfl⟩ := h4
    cases base with
    | none =>
      obtain ⟨h5, h⟩ := gd_eq h
      rw [beq_nat] at h5
      subst h5
      cases hv
      exact append_new (old := []) (old' := []) ht hi hb1 hr h .nil (by simp) (fun d => by simp [Builtin.firstCells]) hnew hs (fun p hp => by cases hp) (by omega) hlt
    | some a =>
      obtain ⟨k, hg, h⟩ := blk_eq h
      obtain ⟨old, hcut, hfin⟩ := ob_eq h
      have hrd : rdN s a (sLen * i.sz) = some old := by
        show blk s a.block (fun k => cut k.c a.off (sLen * i.sz)) = some old
        unfold blk; rw [hg]; exact hcut
      cases hv with
      | sl b o n c l hl =>
        obtain ⟨old', g1, g2, g3⟩ := rdN_soundD (P := P) hr.toHRel hrd ⟨l, hl, rfl⟩
        exact append_new ht hi hb1 hr hfin g1 g2 (fun d => g3 d) hnew hs (fun p hp => by cases hp) (by omega) hlt
      | slo b o n c c' z l hl hc hsz =>
        obtain ⟨old', g1, g2, g3⟩ := rdN_soundD (P := P) hr.toHRel hrd ⟨l, hl, rfl⟩
        exact growOpen_sound ht hi hb1 hr hg hl hcut g1 (fun d => g3 d) hsz hnew hs hfl hlt hfin
      | sle =>
        have : (none : Option (Value × S)) = some (r, s') := hfin
        cases this
/-- of an unknown slice's row nothing is told -/
theorem SyR.slice {i c : Nat} {v : Value} (h : SyR Φ i c v) (hi : 10 < i) : ∃ lz lF lL l n off cp, Φ 63 = some lz ∧ Φ 62 = some lF ∧ Φ 61 = some lL ∧ Φ c = some l ∧ v = .slice (some ⟨l.b, l.base + off, none⟩) n cp ∧
    n ≤ cp ∧ l.base + off + cp * 4 ≤ l.size ∧ n ≤ 10 * lL.size + (i - 11) ∧ lL.size ≤ 2000 := by
  obtain ⟨j, rfl⟩ : ∃ j, i = j + 11 := ⟨i - 11, by omega⟩
  rcases h with h | ⟨lz, lF, lL, l, h1, h2, h3, h4, n, off, cp, h5, h6, h7, h8, h9⟩
  · exact h.elim
  · rw [if_neg (by omega)] at h4
    exact ⟨lz, lF, lL, l, n, off, cp, h1, h2, h3, h4, h5, h6, h7, by omega, h9⟩
theorem VR.slice {Ψ : Ren} {i c n off cp : Nat} {lz lF lL l : Loc} (hi : 10 < i) (h1 : Ψ 63 = some lz) (h2 : Ψ 62 = some lF) (h3 : Ψ 61 = some lL) (h4 : Ψ c = some l) (h6 : n ≤ cp) (h7 : l.base + off + cp * 4 ≤ l.size)
    (h8 : n ≤ 10 * lL.size + (i - 11)) (h9 : lL.size ≤ 2000) : VR Ψ (.complex .f64 i c) (.slice (some ⟨l.b, l.base + off, none⟩) n cp) := by
  obtain ⟨j, rfl⟩ : ∃ j, i = j + 11 := ⟨i - 11, by omega⟩
  refine .sy _ _ _ (.inr ⟨lz, lF, lL, l, h1, h2, h3, by rw [if_neg (by omega)]; exact h4, n, off, cp, rfl, h6, h7, by omega, h9⟩)
theorem bare_BR {Ψ : Ren} {el : TypeId} {l : Loc} {c : Array Value} (h1 : c.size = l.size) (h2 : l.base ≤ l.size) : BR Ψ (.cells ⟨[], el, true, [], false, none⟩) l (some (.cells c el (0, 0))) :=
  ⟨c, (0, 0), rfl, h1, by show l.base + 0 ≤ c.size; omega, fun i v hv => by simp at hv, rfl, fun e => Bool.noConfusion e⟩
theorem syAppend_sound {s : S} {t tx : TypeId} {v x v' x' r : Value} {s' : S} (ty : TypeId) (hE : EOK P E) (hr : Rel Φ s w) (h : syAppend E s t tx v x = some (r, s')) (hv : VR Φ v v') (hx : VR Φ x x') :
    Does P Φ s w (Builtin.append_ #[t, tx] ty #[v', x']) r s' := by
  unfold syAppend at h
  split at h
  case h_2 => cases h
  rename_i j b
  obtain ⟨ti, h1, h⟩ := ob_eq h
  obtain ⟨el, hkd, h⟩ := kSlice_eq h
  obtain ⟨i, h2, h⟩ := ob_eq h
  obtain ⟨xi, h3, h⟩ := ob_eq h
  obtain ⟨zs, hzs, h⟩ := ob_eq h
  obtain ⟨⟨n, new⟩, hsrc, h⟩ := ob_eq h
  have h' : gd (band (band (Nat.blt 10 j) (Nat.blt j 1000)) (band (Nat.beq n 1) (band (Nat.beq i.sz 4) (band (Nat.blt 0 i.bt) (band (Nat.blt i.bt 100000) (band (bnot zs) (flatL new)))))))
    (blk s b fun k => syGrow s el j b k) = some (r, s') := h
  clear h
  obtain ⟨hc, h9⟩ := gd_eq h'
  clear h'
  simp only [band_eq, Bool.and_eq_true, blt_nat, beq_nat, bnot_eq, Bool.not_eq_true'] at hc
  obtain ⟨⟨hj, hj2⟩, hn, hsz, hb0, hb1, hzf, hfl⟩ := hc
  subst hn hzf
  obtain ⟨k, hg, h⟩ := blk_eq h9
  obtain ⟨hk, h⟩ := gd_eq h
  simp only [band_eq, Bool.and_eq_true, bnot_eq, Bool.not_eq_true', beq_nat] at hk
  obtain ⟨⟨hst, hgr, hfz⟩, hel⟩ := hk
  have hfz' : k.fz = none := by cases hq : k.fz with | none => rfl | some _ => rw [hq] at hfz; cases hfz
  have hti := hE.ty _ _ h1
  have hi := hE.ty _ _ h2
  have ht : P.underlying t = some (.slice el) := by rw [hti.und, hkd]
  obtain ⟨new', hnew, hs⟩ := src_sound hr hi (hE.ty _ _ h3) hzs hsrc hx
  obtain ⟨lz, lF, lL, l, n0, off, cp, e1, e2, e3, hl, rfl, hle, hcap, hcnt, hL⟩ := hv.sy_inv.slice hj
  have hh := hr.toHRel
  have halt : b < s.nx := hr.lt hg
  obtain ⟨cc, f, g1, g2, g3, g4, g5, g6⟩ := hh.row hg hl
  rw [hfz'] at g5
  have g5' : f = (0, 0) := g5
  subst g5'
  rw [hel] at g1
  obtain ⟨rfl, rfl⟩ : r = .complex .f64 (j + 1) s.nx ∧ s' = newB ⟨Tr.set (kill k.pa s.h) b none, s.nx⟩ (.cells ⟨[], el, true, [], false, none⟩) := by
    cases s
    cases h
    exact ⟨rfl, rfl⟩
  have hless : ∀ b1 B, (⟨Tr.set (kill k.pa s.h) b none, s.nx⟩ : S).h.get b1 = some B → s.h.get b1 = some B ∧ b1 ≠ b ∧ b1 ∉ k.pa := by
    intro b1 B hb
    have hb' : (Tr.set (kill k.pa s.h) b none).get b1 = some B := hb
    rw [get_set] at hb'
    by_cases e : b1 = b
    · rw [if_pos e] at hb'; cases hb'
    · rw [if_neg e, get_kill] at hb'
      split at hb'
      · cases hb'
      · exact ⟨hb', e, ‹_›⟩
  obtain ⟨hr1, hx1⟩ := hr.less (s' := ⟨Tr.set (kill k.pa s.h) b none, s.nx⟩) (fun b B hb => (hless b B hb).1) rfl
  have hlen2 : new'.length = 4 := by have := hs.len; rw [hsz] at this; omega
  by_cases hroom : n0 + 1 ≤ cp
  · have hle2 : l.base + off + n0 * 4 + new'.length ≤ cc.size := by omega
    have hone : ∀ v ∈ new', v.oneCell' = true := by
      intro v' hv'
      obtain ⟨q, hq, e⟩ := List.getElem_of_mem hv'
      have hq' : q < new.length := by have := hnew.length; omega
      obtain ⟨u', e1, e2⟩ := hnew.get q new[q] (List.getElem?_eq_getElem hq')
      rw [List.getElem?_eq_getElem hq] at e1
      cases e1
      rw [← e]
      exact flat_of e2 (flatL_get hfl _ (List.getElem_mem hq'))
    have hrun := run_storeCells (P := P) (o := l.base + off + n0 * 4) new' 0 w cc g1 (by omega) (fun j _ hh => by simp at hh) hone
    simp only [Nat.add_zero] at hrun
    have hlt1 := lt_of_get g1
    have hno : ¬ Im Φ (⟨Tr.set (kill k.pa s.h) b none, s.nx⟩ : S).h l.b := by
      rintro ⟨b1, B, m, h3, h4, h5⟩
      obtain ⟨h6, h7, h8⟩ := hless b1 B h3
      exact hh.only hg hst h6 h7 h8 hl h4 h5
    obtain ⟨q1, q2⟩ := hr1.place (w' := putO w l.b (.cells (laid cc (l.base + off + n0 * 4) new') el (0, 0))) (.cells ⟨[], el, true, [], false, none⟩) ⟨l.b, l.base, l.size⟩ hno
      (fun β hβ => putO_other hβ) (by rw [putO_same hlt1]; exact bare_BR (by rw [laid_size hle2]; exact g2) (by show l.base ≤ l.size; omega)) rfl
    have himl : Im Φ s.h l.b := ⟨b, _, l, hg, hl, rfl⟩
    have hadd := Ren.le_add hr1.dom ⟨l.b, l.base, l.size⟩
    refine ⟨.slice (some ⟨l.b, l.base + off, none⟩) (n0 + 1) cp, _, _, ?_, ?_, q1, ⟨?_, ?_, ?_, ?_, ?_, rfl, rfl, rfl⟩⟩
    · rw [append_room ht hi hb1 hs hroom]
      simp only [hsz, add_none, hrun, Result.andThen_ok]
    · exact VR.slice (l := ⟨l.b, l.base, l.size⟩) (by omega) (hadd _ _ e1) (hadd _ _ e2) (hadd _ _ e3) (Ren.add_same _ _ _) hroom hcap (by omega) hL
    · rw [newB_nx]; exact Nat.le_succ _
    · intro b1 hb; exact Ren.add_other _ _ (by show b1 ≠ s.nx; omega)
    · rw [putO_size]; exact Nat.le_refl _
    · intro β _ hβ
      exact putO_other (fun e => hβ (e ▸ himl))
    · intro β hβ
      rcases q2 β hβ with h3 | h3
      · obtain ⟨b1, B, m, h4, h5, h6⟩ := h3
        exact .inl ⟨b1, B, m, (hless b1 B h4).1, h5, h6⟩
      · exact .inl (h3 ▸ himl)
  · obtain ⟨jt, z, hjt, hjs, hbt, hz, hzc, _⟩ := hi.info
    have hzl := hi.len
    have hzs' : z.cells.size = jt.size := by rw [hjs, ← hzl, ← hzc]; simp
    have hs2 := hs
    rw [← hjs, ← hzc] at hs2
    let g : Nat → Value := fun j => ((w.cell? ((⟨l.b, l.base + off, none⟩ : Addr).add j)).getD undef)
    have hold : ∀ d, (Builtin.firstCells jt.size n0 (.slice (some ⟨l.b, l.base + off, none⟩) n0 cp)).run P (atD w d) = .ok ((List.range (n0 * 4)).map g).toArray (atD w d) := by
      intro d
      rw [hjs, hsz]
      refine run_loadCells (atD w d) _ (n0 * 4) g fun j hj => ?_
      have hlt : l.base + off + j < cc.size := by
        have : n0 * 4 ≤ cp * 4 := Nat.mul_le_mul_right _ hle
        omega
      have : w.cell? ((⟨l.b, l.base + off, none⟩ : Addr).add j) = some cc[l.base + off + j] := by
        rw [add_none, cell_of_row w l.b _ cc el (0, 0) g1]
        exact Array.getElem?_eq_getElem hlt
      have h' : w.cell? ((⟨l.b, l.base + off, none⟩ : Addr).add j) = some (g j) := by simp only [g, this]; rfl
      exact h'
    obtain ⟨cap, q1, q2⟩ := run_append_grow (ty := ty) ht hjt hz (by omega) hs2 hzs' hold (by omega) (by omega)
    have e5 : (Builtin.zeroCells z.cells (cap - (n0 + 1))).size = (cap - (n0 + 1)) * 4 := by
      have := congrArg List.length (zeros_eq z.cells (cap - (n0 + 1)))
      rw [(reps_spec _ _).1] at this
      have e : z.cells.toList.length = 4 := by rw [hzc, hzl, hsz]
      rw [e] at this
      simpa [Builtin.zeroCells] using this
    generalize hA : (((List.range (n0 * 4)).map g ++ new').toArray ++ Builtin.zeroCells z.cells (cap - (n0 + 1))) = A at q2
    have hAs : A.size = cap * 4 := by
      rw [← hA]
      simp only [Array.size_append, List.size_toArray, List.length_append, List.length_map, List.length_range, hlen2, e5]
      omega
    obtain ⟨k1, k2⟩ := hr1.new (w' := pushW w (.cells A el) (w.drawn + 1)) (.cells ⟨[], el, true, [], false, none⟩) ⟨w.heap.size, 0, A.size⟩ (Nat.le_refl _)
      (by rw [pushW_size]; omega) (fun β hβ => pushW_other hβ) (by rw [pushW_same]; exact bare_BR rfl (Nat.zero_le _)) (fun p hp => by cases hp) rfl rfl rfl
    have hadd := Ren.le_add hr1.dom ⟨w.heap.size, 0, A.size⟩
    refine Does.from hx1 ⟨.slice (some ⟨w.heap.size, 0, none⟩) (n0 + 1) cap, _, _, q2, ?_, k1, k2⟩
    exact VR.slice (off := 0) (l := ⟨w.heap.size, 0, A.size⟩) (by omega) (hadd _ _ e1) (hadd _ _ e2) (hadd _ _ e3) (Ren.add_same _ _ _) q1 (by show 0 + 0 + cap * 4 ≤ A.size; omega) (by omega) hL
theorem appendV_sound {s : S} {t tx : TypeId} {v x v' x' r : Value} {s' : S} (ty : TypeId) (hE : EOK P E) (hr : Rel Φ s w) (h : appendV E s t tx v x = some (r, s')) (hv : VR Φ v v') (hx : VR Φ x x') :
    Does P Φ s w (Builtin.append_ #[t, tx] ty #[v', x']) r s' := by
  rcases orE_eq h with h | h
  · exact appendV0_sound ty hE hr h hv hx
  · exact syAppend_sound ty hE hr h hv hx
end
end Go.Ev

/-! The other operations that write. -/
namespace Go.Ev
open Go
set_option linter.unusedSimpArgs false
set_option linter.unusedVariables false
section
variable {P : Program} {E : Env} {Φ : Ren} {w : World}

/-- an effect without an answer -/
def DoesU (P : Program) (Φ : Ren) (s : S) (w : World) (x : Sem Unit) (s' : S) : Prop :=
  ∃ w', x.run P w = .ok () w' ∧ Rel Φ s' w' ∧ Ext Φ s w Φ s' w'
theorem unit_eq {s : Option S} {v : Value} {s' : S} (h : unit s = some (v, s')) : v = undefV ∧ s = some s' := by
  obtain ⟨s1, h1, h2⟩ := ob_eq h
  cases h2; exact ⟨rfl, h1⟩

theorem eStore_sound {c : C} {t : TypeId} {a x : Operand} {v : Value} {s' : S} {ρ : Operand → Value} (hE : EOK P c.E) (hr : Rel Φ c.s w) (h : eStore c t a x = some (v, s'))
    (ha : ∀ u, opnd c.tm a = some u → VR Φ u (ρ a)) (hx : ∀ u, opnd c.tm x = some u → VR Φ u (ρ x)) :
    v = undefV ∧ DoesU P Φ c.s w (Instr.storeAt t (ρ a) (ρ x)) s' := by
  obtain ⟨ti, h1, h⟩ := ob_eq h
  obtain ⟨u, h2, h⟩ := ob_eq h
  obtain ⟨y, h3, h⟩ := ob_eq h
  obtain ⟨ad, rfl, h⟩ := vPtr_eq h
  obtain ⟨h4, h⟩ := gd_eq h
  obtain ⟨rfl, hu⟩ := unit_eq h
  simp only [band_eq, Bool.and_eq_true, beq_nat, blt_nat] at h4
  obtain ⟨ad', e1, e2, e3⟩ := (ha _ h2).ptr_inv
  have hc := (hx _ h3).cells
  obtain ⟨w', g1, g2, g3⟩ := wrN_sound (P := P) hr hu e2 hc
  refine ⟨rfl, w', ?_, g2, g3⟩
  have hsz : (ρ x).cells.size = ti.sz := by have := hc.length; simp only [Array.length_toList] at this; omega
  simp only [e1, Instr.storeAt, Instr.sureAddr, storeVar, Sem.run_bind, Sem.run_pure, Result.andThen_ok, (hE.ty _ _ h1).run_size, hsz, ne_eq, not_true_eq_false, if_false]
  exact g1

/-! maps -/
/-- another object in the place of one that is no row -/
theorem Rel.reobj {s s' : S} {r : Nat} {B0 B1 : AB} {l : Loc} {o o0 : Obj} (hr : Rel Φ s w) (hg : s.h.get r = some B0) (hl : Φ r = some l) (hs : s'.h = s.h.set r (some B1) ∧ s'.nx = s.nx) (hpa0 : B0.pa = []) (hpa1 : B1.pa = [])
    (hlen1 : B1.len = B0.len) (hst1 : B0.isStale → B1.isStale) (h3 : w.heap[l.b]? = some o0) (hno : ∀ c t f, o0 ≠ .cells c t f) (hb1 : BR Φ B1 l (some o)) :
    Rel Φ s' (putO w l.b o) ∧ Ext Φ s w Φ s' (putO w l.b o) := by
  have hh := hr.toHRel
  have hlt := lt_of_get h3
  have hget : ∀ b B, s'.h.get b = some B → ∃ B0', s.h.get b = some B0' ∧ B.pa = B0'.pa ∧ B.len = B0'.len ∧ (B0'.isStale → B.isStale) ∧ (b = r → B = B1) ∧ (b ≠ r → B = B0') := by
    intro b B hb
    rw [hs.1, get_set] at hb
    by_cases e : b = r
    · rw [if_pos e] at hb; cases hb
      exact ⟨B0, e ▸ hg, by rw [hpa1, hpa0], hlen1, hst1, fun _ => rfl, fun h => absurd e h⟩
    · rw [if_neg e] at hb; exact ⟨B, hb, rfl, rfl, id, fun h => absurd h e, fun _ => rfl⟩
  have honly : ∀ b B m, s.h.get b = some B → b ≠ r → Φ b = some m → m.b ≠ l.b := by
    intro b B m hb hne hm he'
    rcases hh.apart b r B _ m l hb hg hne hm hl he' with h5 | h5
    · cases B with
      | cells k =>
        obtain ⟨l1, e1, c, f, e2, _⟩ := hh.live b _ hb
        rw [hm] at e1; cases e1
        rw [he', h3] at e2
        exact hno _ _ _ (Option.some.inj e2)
      | map => cases h5
      | mapu => cases h5
      | mit => cases h5
      | sit => cases h5
    · rw [hpa0] at h5; cases h5
  refine ⟨⟨⟨?_, ?_, ?_, ?_⟩, by rw [hs.2]; exact hr.dom, ?_, hr.gl⟩, ⟨by rw [hs.2]; exact Nat.le_refl _, fun _ _ => rfl, by rw [putO_size]; exact Nat.le_refl _, ?_, ?_, rfl, rfl, rfl⟩⟩
  · intro b B hb
    obtain ⟨B0', h0, _, _, _, e1, e2⟩ := hget b B hb
    obtain ⟨m, g1, g2⟩ := hh.live b B0' h0
    refine ⟨m, g1, ?_⟩
    by_cases e : b = r
    · subst e
      rw [hl] at g1; cases g1
      rw [e1 rfl, putO_same hlt]; exact hb1
    · rw [e2 e, putO_other (honly b B0' m h0 e g1)]; exact g2
  · intro b b' B B' m m' hb hb' hne hm hm' he'
    obtain ⟨B0', h0, hp, _⟩ := hget b B hb
    obtain ⟨B0'', h0', hp', _⟩ := hget b' B' hb'
    rw [hp, hp']; exact hh.apart b b' B0' B0'' m m' h0 h0' hne hm hm' he'
  · intro b B p Q hb hp hq
    obtain ⟨B0', h0, hp0, _⟩ := hget b B hb
    obtain ⟨Q0, h0', _, _, hst, _⟩ := hget p Q hq
    exact hst (hh.heir b B0' p Q0 h0 (hp0 ▸ hp) h0')
  · intro b B p Q m m' hb hp hq hm hm' he'
    obtain ⟨B0', h0, hp0, hlen, _⟩ := hget b B hb
    obtain ⟨Q0, h0', _, hlen', _⟩ := hget p Q hq
    rw [hlen, hlen']; exact hh.ends b B0' p Q0 m m' h0 (hp0 ▸ hp) h0' hm hm' he'
  · intro b B p hb hp
    obtain ⟨B0', h0, hp0, _⟩ := hget b B hb
    rw [hs.2]; exact hr.pas b B0' p h0 (hp0 ▸ hp)
  · intro β _ hβ
    exact putO_other (fun e => hβ ⟨r, _, l, hg, hl, e.symm⟩)
  · rintro β ⟨b, B, m, h5, h6, h7⟩
    obtain ⟨B0', h0, _⟩ := hget b B h5
    exact .inl ⟨b, B0', m, h0, h6, h7⟩
/-- another map in a map's place -/
theorem Rel.remap {s : S} {r : Nat} {es es1 : List MapEntry} {clock clock1 : Nat} {l : Loc} {es' : Array MapEntry} (hr : Rel Φ s w) (hg : s.h.get r = some (.map es clock)) (hl : Φ r = some l)
    (he : ERs Φ es1 es'.toList) : Rel Φ (setM s r es1 clock1) (putO w l.b (.map es' clock1)) ∧ Ext Φ s w Φ (setM s r es1 clock1) (putO w l.b (.map es' clock1)) := by
  obtain ⟨l0, h1, h2⟩ := hr.toHRel.live r _ hg
  rw [hl] at h1; cases h1
  obtain ⟨es0, h3, h4⟩ := h2
  exact hr.reobj (B1 := .map es1 clock1) hg hl (by cases s; exact ⟨rfl, rfl⟩) rfl rfl rfl id h3 (fun c t f e => by cases e) ⟨es', rfl, he⟩
theorem Rel.resit {s : S} {r : Nat} {x : ByteArray} {pos pos' : Nat} {l : Loc} (hr : Rel Φ s w) (hg : s.h.get r = some (.sit x pos)) (hl : Φ r = some l) :
    Rel Φ (setI s r x pos') (putO w l.b (.stringIter x pos')) ∧ Ext Φ s w Φ (setI s r x pos') (putO w l.b (.stringIter x pos')) := by
  obtain ⟨l0, h1, h2⟩ := hr.toHRel.live r _ hg
  rw [hl] at h1; cases h1
  exact hr.reobj (B1 := .sit x pos') hg hl (by cases s; exact ⟨rfl, rfl⟩) rfl rfl rfl id h2.2 (fun c t f e => by cases e) ⟨h2.1, rfl⟩

theorem findE_form {s : S} {kt : TypeId} {kd : TypeDesc} {k : Value} : ∀ {es : List MapEntry} (i : Nat) {p : Nat × Value}, findE E s kd k es i = some (some p) → Det k := by
  intro es
  induction es with
  | nil => intro i p h; cases h
  | cons e es ih =>
    intro i p h
    rw [findE_cons] at h
    obtain ⟨b, h1, h2⟩ := ob_eq h
    unfold keyEq at h1
    split at h1
    · exact .inl ⟨_, _, rfl⟩
    · exact .inr (.inl ⟨_, rfl⟩)
    · exact .inr (.inr ⟨_, rfl⟩)
    · cases h1
theorem same_self {k k' : Value} (h : Det k) (hk : VR Φ k k') (n : Nat) : Instr.sameBits n k' k' = true := by
  rcases h with ⟨j, m, rfl⟩ | ⟨b, rfl⟩ | ⟨a, rfl⟩
  · cases hk; cases n <;> simp [Instr.sameBits]
  · cases hk
    have : (b == b) = true := by rw [beq_toListBytes]; simp
    cases n <;> simp [Instr.sameBits, this]
  · cases hk <;> cases n <;> simp [Instr.sameBits]
theorem ERs.append : ∀ {l l' m m' : List MapEntry}, ERs Φ l l' → ERs Φ m m' → ERs Φ (l ++ m) (l' ++ m')
  | _, _, _, _, .nil, h => h
  | _, _, _, _, .cons _ _ _ _ h hl, h' => .cons _ _ _ _ h (ERs.append hl h')
theorem setVal_zero (v : Value) (e : MapEntry) (es : List MapEntry) : setVal v (e :: es) 0 = ⟨e.key, v, e.born⟩ :: es := rfl
theorem setVal_succ (v : Value) (e : MapEntry) (es : List MapEntry) (n : Nat) : setVal v (e :: es) (n + 1) = e :: setVal v es n := rfl
theorem setVal_sound {v v' k k' : Value} (hv : VR Φ v v') (hk : VR Φ k k') : ∀ {es es' : List MapEntry} (i : Nat) (e : MapEntry), ERs Φ es es' → es[i]? = some e → e.key = k →
    ERs Φ (setVal v es i) (es'.modify i fun e => { e with key := k', val := v' }) := by
  intro es
  induction es with
  | nil => intro es' i e h he; cases i <;> cases he
  | cons x es ih =>
    intro es' i e h he hke
    cases h with
    | cons _ x' _ l' h hl =>
      cases i with
      | zero =>
        cases he
        rw [setVal_zero, List.modify_zero_cons]
        exact .cons _ _ _ _ ⟨by show VR Φ x.key k'; rw [hke]; exact hk, hv, h.2.2⟩ hl
      | succ i =>
        rw [setVal_succ, List.modify_succ_cons]
        exact .cons _ _ _ _ h (ih i e hl (by simpa using he) hke)

theorem run_setMap {r : Nat} {es es1 : Array MapEntry} {clock clock1 : Nat} (h : w.heap[r]? = some (.map es clock)) : (setObj r (.map es1 clock1)).run P w = .ok () (putO w r (.map es1 clock1)) := by
  simp only [setObj, Sem.run, h, putO]

theorem updateV_sound {s : S} {t : TypeId} {m k v m' k' v' : Value} {s' : S} (hE : EOK P E) (hr : Rel Φ s w) (h : updateV E s t m k v = some s') (hm : VR Φ m m') (hk : VR Φ k k') (hv : VR Φ v v') :
    DoesU P Φ s w (Instr.mapUpdate t m' k' v') s' := by
  obtain ⟨ti, h5, h⟩ := ob_eq h
  obtain ⟨kt, et, hkd, h⟩ := kMap_eq h
  obtain ⟨ki, h8, h⟩ := ob_eq h
  obtain ⟨h12, h⟩ := gd_eq h
  obtain ⟨mr, rfl, h⟩ := vMap_eq h
  obtain ⟨r, rfl, h⟩ := ob_eq h
  obtain ⟨o, h1, h⟩ := ob_eq h
  obtain ⟨es, clock, rfl, h⟩ := bMap_eq h
  obtain ⟨f, h2, h⟩ := ob_eq h
  have hu := (hE.ty _ _ h5).und
  rw [hkd] at hu
  have huk := (hE.ty _ _ h8).und
  cases hm with
  | map _ l hl =>
    obtain ⟨es', g4, g5⟩ := map_row hr.toHRel h1 hl
    obtain ⟨f', g6a, g6b, g7, g8⟩ := findE_sound hE hr.toHRel huk hk 0 h2 g5
    have g6 := run_findKey' (P := P) (w := w) huk g6a g6b
    unfold Instr.mapUpdate
    have hpre : ∀ (F : Option (Nat × Value) → Sem Unit), (do
        let .map keyType _ ← underlying t | stuck "MapUpdate: map type expected"
        let .map es clock ← getObj l.b | stuck "MapUpdate: map expected"
        Instr.checkKey false 10000 keyType k'
        F (← Instr.findKey keyType k' es.toList) : Sem Unit).run P w = (F f').run P w := by
      intro F
      simp only [Sem.run_bind, run_underlying hu, Result.andThen_ok, run_getMap (P := P) g4, checkKey_ok (P := P) (w := w) _ huk h12, g6]
    cases f with
    | none =>
      have : f' = none := g7
      subst this
      cases h
      refine ⟨_, ?_, hr.remap (es' := es'.push { key := k', val := v', born := clock }) h1 hl ?_⟩
      · simp only [Sem.run_bind, run_underlying hu, Result.andThen_ok, run_getMap (P := P) g4, checkKey_ok (P := P) (w := w) _ huk h12, g6, run_setMap (P := P) g4]
      · rw [Array.toList_push]
        exact g5.append (.cons _ _ _ _ ⟨hk, hv, rfl⟩ .nil)
    | some p =>
      obtain ⟨v0, hf1, hf2⟩ := g7
      subst hf1
      cases h
      obtain ⟨_, hlt, e, e', q1, q2, q3, q4⟩ := g8 p rfl
      simp only [Nat.sub_zero] at q1 q2 hlt
      have hks : (es'[p.1]?.map (·.key)).getD k' = k' := by
        have : es'[p.1]? = some e' := by simpa using q2
        rw [this]; exact q3
      refine ⟨_, ?_, hr.remap (es' := es'.modify p.1 fun e => { e with key := k', val := v' }) h1 hl ?_⟩
      · simp only [Sem.run_bind, run_underlying hu, Result.andThen_ok, run_getMap (P := P) g4, checkKey_ok (P := P) (w := w) _ huk h12, g6, hks, Instr.keyThatStays, same_self (findE_form (kt := kt) 0 h2) hk,
          if_true, Sem.run_pure, run_setMap (P := P) g4]
      · rw [Array.toList_modify]
        exact setVal_sound hv hk p.1 e g5 q1 q4
theorem eUpdate_sound {c : C} {t : TypeId} {m k x : Operand} {v : Value} {s' : S} {ρ : Operand → Value} (hE : EOK P c.E) (hr : Rel Φ c.s w) (h : eUpdate c t m k x = some (v, s'))
    (hm : ∀ u, opnd c.tm m = some u → VR Φ u (ρ m)) (hk : ∀ u, opnd c.tm k = some u → VR Φ u (ρ k)) (hx : ∀ u, opnd c.tm x = some u → VR Φ u (ρ x)) :
    v = undefV ∧ DoesU P Φ c.s w (Instr.mapUpdate t (ρ m) (ρ k) (ρ x)) s' := by
  obtain ⟨mv, h1, h⟩ := ob_eq h
  obtain ⟨kv, h2, h⟩ := ob_eq h
  obtain ⟨xv, h3, h⟩ := ob_eq h
  obtain ⟨rfl, hu⟩ := unit_eq h
  exact ⟨rfl, updateV_sound hE hr hu (hm _ h1) (hk _ h2) (hx _ h3)⟩
end
end Go.Ev

/-! The other operations that write, 2. -/
namespace Go.Ev
open Go Go.Lib
set_option linter.unusedSimpArgs false
set_option linter.unusedVariables false
section
variable {P : Program} {E : Env} {Φ : Ren} {w : World}

theorem eClear_sound {c : C} {t : TypeId} {u u' v : Value} {s' : S} (ty : TypeId) (hE : EOK P c.E) (hr : Rel Φ c.s w) (h : eClear c t u = some (v, s')) (hu : VR Φ u u') :
    Does P Φ c.s w (Builtin.clear_ #[t] ty #[u']) v s' := by
  obtain ⟨ti, h1, h⟩ := ob_eq h
  obtain ⟨el, hkd, h⟩ := kSlice_eq h
  obtain ⟨ei, h2, h⟩ := ob_eq h
  obtain ⟨a, n, cap, rfl, h9⟩ := vSlice_eq h
  have ht := (hE.ty _ _ h1).und
  rw [hkd] at ht
  obtain ⟨z, hz, hzc, _⟩ := (hE.ty _ _ h2).run_zero
  rw [bi_eq] at h9
  split at h9
  · rename_i h0
    rw [beq_nat] at h0; subst h0
    cases h9
    refine ⟨undef, w, Φ, ?_, VR.undef, hr, Ext.refl _ _ _⟩
    have hno : ∀ (b : Option Addr) c', (Builtin.clear_ #[t] ty #[.slice b 0 c']).run P w = .ok undef w := by
      intro b c'
      cases b <;> simp [Builtin.clear_, run_underlying ht, undef]
    cases hu with
    | nils => exact hno _ _
    | sl => exact hno _ _
    | slo => exact hno _ _
    | sle => exact hno _ _
  · rename_i h0
    have h0' : n ≠ 0 := fun e => h0 (beq_nat.2 e)
    obtain ⟨a, rfl, h10⟩ := ob_eq h9
    obtain ⟨h3, h11⟩ := gd_eq h10
    obtain ⟨rfl, hw⟩ := unit_eq h11
    have hgo : ∀ a' c', AR Φ a a' → u' = .slice (some a') n c' → Does P Φ c.s w (Builtin.clear_ #[t] ty #[u']) undefV s' := by
      intro a' c' ha e
      subst e
      have hpl := plainL_reps ei.ze (hE.ty _ _ h2).pl n
      obtain ⟨w', g1, g2, g3⟩ := wrN_sound (P := P) hr hw (a' := a') (by obtain ⟨l, e1, e2⟩ := ha; exact ⟨l, e1, e2⟩) (VRs.plain hpl)
      refine ⟨undef, w', Φ, ?_, VR.undef, g2, g3⟩
      obtain ⟨m, rfl⟩ : ∃ m, n = m + 1 := ⟨n - 1, by omega⟩
      have hzz : (Builtin.zeroCells z.cells (m + 1)).toList = reps ei.ze (m + 1) := by rw [← hzc]; exact zeros_eq z.cells (m + 1)
      simp [Builtin.clear_, run_underlying ht, hz, hzz, g1, undef]
    cases hu with
    | sl b o n c l hl => exact hgo _ _ ⟨l, hl, rfl⟩ rfl
    | slo b o n c c' z l hl => exact hgo _ _ ⟨l, hl, rfl⟩ rfl
    | sle => exact absurd rfl h0'

theorem eCopy_sound {c : C} {t tx : TypeId} {u x u' x' v : Value} {s' : S} (ty : TypeId) (hE : EOK P c.E) (hr : Rel Φ c.s w) (h : eCopy c t tx u x = some (v, s')) (hu : VR Φ u u') (hx : VR Φ x x') :
    Does P Φ c.s w (Builtin.copy_ #[t, tx] ty #[u', x']) v s' := by
  obtain ⟨ti, h1, h⟩ := ob_eq h
  obtain ⟨el, hkd, h⟩ := kSlice_eq h
  obtain ⟨ei, h2, h⟩ := ob_eq h
  obtain ⟨xi, h3, h⟩ := ob_eq h
  obtain ⟨a, len, cap, rfl, h⟩ := vSlice_eq h
  obtain ⟨zs, hzs, k1⟩ := ob_eq h
  obtain ⟨hz, k2⟩ := gd_eq k1
  obtain ⟨⟨n, cs⟩, hsrc, k3⟩ := ob_eq k2
  have k4 : copyIn c.s a len n cs = some (v, s') := k3
  obtain ⟨hle, k5⟩ := gd_eq k4
  clear k1 k2 k3 k4 h
  rw [ble_nat] at hle
  have hzf : zs = false := by cases zs with | false => rfl | true => cases hz
  subst hzf
  have ht := (hE.ty _ _ h1).und
  rw [hkd] at ht
  have hi := hE.ty _ _ h2
  obtain ⟨cs', hnew, hs⟩ := src_sound hr hi (hE.ty _ _ h3) hzs hsrc hx
  obtain ⟨hlen, _, hno⟩ := hs
  obtain ⟨_, hl, hc⟩ := hno rfl
  have hc0 : (Builtin.firstCells ei.sz n x').run P w = .ok cs'.toArray w := hc w.drawn
  have hmin : ∀ m, n ≤ m → Nat.min n m = n := fun m hm => Nat.min_eq_left hm
  have hdef : ∀ (b : Option Addr) (c' : Nat), (Builtin.copy_ #[t, tx] ty #[.slice b len c', x']).run P w =
      ((match b with | some a => storeCells a cs' | none => pure ()).run P w).andThen fun _ w' => .ok (goInt n) w' := by
    intro b c'
    cases b <;> simp [Builtin.copy_, run_underlying ht, hi.run_size, hl, hmin len hle, hc0]
  unfold copyTo at k5
  rw [bi_eq] at k5
  split at k5
  · rename_i h0
    rw [beq_nat] at h0; subst h0
    cases k5
    have hn' : cs' = [] := List.eq_nil_of_length_eq_zero (by rw [hlen]; simp)
    subst hn'
    refine ⟨goInt 0, w, Φ, ?_, .int _ _, hr, Ext.refl _ _ _⟩
    have hno : ∀ (b : Option Addr) c', (Builtin.copy_ #[t, tx] ty #[.slice b len c', x']).run P w = .ok (goInt 0) w := by
      intro b c'
      rw [hdef]
      cases b <;> rfl
    cases hu with
    | nils => exact hno _ _
    | sl => exact hno _ _
    | slo => exact hno _ _
    | sle => exact hno _ _
  · rename_i h0
    have h0' : n ≠ 0 := fun e => h0 (beq_nat.2 e)
    obtain ⟨a, rfl, k6⟩ := ob_eq k5
    obtain ⟨s1, hw, k7⟩ := ob_eq k6
    cases k7
    have hgo : ∀ a' c', AR Φ a a' → u' = .slice (some a') len c' → Does P Φ c.s w (Builtin.copy_ #[t, tx] ty #[u', x']) (intV n) s' := by
      intro a' c' ha e
      subst e
      obtain ⟨w', g1, g2, g3⟩ := wrN_sound (P := P) hr hw (a' := a') (by obtain ⟨l, e1, e2⟩ := ha; exact ⟨l, e1, e2⟩) hnew
      refine ⟨goInt n, w', Φ, ?_, .int _ _, g2, g3⟩
      rw [hdef]
      simp only [g1, Result.andThen_ok]
    cases hu with
    | sl b o n c l hl => exact hgo _ _ ⟨l, hl, rfl⟩ rfl
    | slo b o n c c' z l hl => exact hgo _ _ ⟨l, hl, rfl⟩ rfl
    | sle => exact absurd (Nat.le_zero.1 hle) h0'

theorem eSliceData_sound {c : C} {u u' v : Value} {s' : S} (ts : Array TypeId) (ty : TypeId) (hr : Rel Φ c.s w) (h : eSliceData c u = some (v, s')) (hu : VR Φ u u') :
    Does P Φ c.s w (Builtin.unsafeSliceData_ ts ty #[u']) v s' := by
  obtain ⟨a, n, cap, rfl, h9⟩ := vSlice_eq h
  cases a with
  | none => cases hu; cases h9; exact ⟨_, w, Φ, run_unsafeSliceData_nil w ts ty _ _, .nilp, hr, Ext.refl _ _ _⟩
  | some a =>
    obtain ⟨h1, h10⟩ := gd_eq h9
    cases h10
    have h1' : cap ≠ 0 := by
      intro e; subst e
      rw [bnot_eq] at h1
      simp [show Nat.beq 0 0 = true from rfl] at h1
    cases hu with
    | sl b o n c l hl => exact ⟨_, w, Φ, run_unsafeSliceData_row w ts ty _ _ _ h1', .ptr _ _ l hl, hr, Ext.refl _ _ _⟩
    | slo b o n c c' z l hl hc => exact ⟨_, w, Φ, run_unsafeSliceData_row w ts ty _ _ _ (by omega), .ptr _ _ l hl, hr, Ext.refl _ _ _⟩
    | sle => exact absurd rfl h1'

theorem eNext_sound {c : C} {x : Operand} {b : Bool} {v : Value} {s' : S} {ρ : Operand → Value} (t : TypeId) (hr : Rel Φ c.s w) (h : eNext c x b = some (v, s')) (hx : ∀ u, opnd c.tm x = some u → VR Φ u (ρ x)) :
    Does P Φ c.s w (Instr.next (ρ x) b t) v s' := by
  obtain ⟨u, h2, h⟩ := ob_eq h
  obtain ⟨a, rfl, h⟩ := vPtr_eq h
  obtain ⟨h3, h⟩ := gd_eq h
  obtain ⟨o, h4, h⟩ := ob_eq h
  rw [beq_nat] at h3
  cases o with
  | cells => cases b <;> cases h
  | map => cases b <;> cases h
  | mapu => cases b <;> cases h
  | sit x pos =>
    cases b with
    | false => cases h
    | true =>
    have h5 : nextS c a.block x pos = some (v, s') := h
    obtain ⟨a', e1, ⟨l, hl, rfl⟩, e3⟩ := (hx _ h2).ptr_inv
    obtain ⟨l', g1, g2, g3⟩ := hr.toHRel.live _ _ h4
    rw [hl] at g1; cases g1
    rw [e1, g2, h3]
    have hget : (getObj l.b).run P w = .ok (.stringIter x pos) w := by simp only [getObj, Sem.run, g3]
    have hset : ∀ q, (setObj l.b (.stringIter x q)).run P w = .ok () (putO w l.b (.stringIter x q)) := fun q => by simp only [setObj, Sem.run, g3, putO]
    unfold nextS at h5
    rw [bi_eq] at h5
    by_cases hp : Nat.blt pos x.data.toList.length = true
    · rw [if_pos hp] at h5
      cases hd : Utf8.decode x pos with
      | mk ch wd =>
      rw [hd] at h5
      cases h5
      have hlt : pos < x.size := by rw [blt_nat] at hp; simpa using hp
      obtain ⟨q1, q2⟩ := hr.resit (pos' := pos + wd) h4 hl
      refine ⟨_, _, Φ, ?_, .tup _ _ (.cons _ _ _ _ (.bool true) (.cons _ _ _ _ (.int _ _) (.cons _ _ _ _ (.int _ _) .nil))), q1, q2⟩
      simp [Instr.next, hget, hlt, hd, hset, goInt, intV]
    · rw [if_neg hp] at h5
      cases h5
      have hlt : ¬ pos < x.size := by rw [blt_nat] at hp; simpa using hp
      refine ⟨_, w, Φ, ?_, .tup _ _ (.cons _ _ _ _ (.bool false) .nil), hr, Ext.refl _ _ _⟩
      simp [Instr.next, hget, hlt]
  | mit m since =>
    cases b with
    | true => cases h
    | false =>
    have h5 : next1 c m = some (v, s') := h
    obtain ⟨a', e1, ⟨l, hl, rfl⟩, e3⟩ := (hx _ h2).ptr_inv
    obtain ⟨l', g1, g2, m', g3, g4⟩ := hr.toHRel.live _ _ h4
    rw [hl] at g1; cases g1
    rw [e1, g2, h3]
    have hget : (getObj l.b).run P w = .ok (.mapIter m' since #[] since) w := by simp only [getObj, Sem.run, g3]
    cases m with
    | none =>
      cases h5
      have : m' = none := g4
      subst this
      refine ⟨_, w, Φ, ?_, .tup _ _ (.cons _ _ _ _ (.bool false) .nil), hr, Ext.refl _ _ _⟩
      simp [Instr.next, hget]
    | some m =>
      obtain ⟨lm, q1, rfl⟩ := g4
      have h5' : (ob (c.s.h.get m) fun o => bMap o fun es _ => gd es.isEmpty (some (Value.tuple ⟨[.bool false]⟩, c.s))) = some (v, s') := h5
      obtain ⟨o, q2, h6⟩ := ob_eq h5'
      obtain ⟨es, clock, rfl, h7⟩ := bMap_eq h6
      obtain ⟨h8, h9⟩ := gd_eq h7
      cases h9
      have hes : es = [] := by cases es with | nil => rfl | cons => cases h8
      subst hes
      obtain ⟨es', q3, q4⟩ := map_row hr.toHRel q2 q1
      have hes' : es' = #[] := by
        apply Array.toList_inj.1
        generalize es'.toList = l0 at q4
        cases q4; rfl
      subst hes'
      have hgm : (getObj lm.b).run P w = .ok (.map #[] clock) w := run_getMap q3
      obtain ⟨r1, r2⟩ := hr.drew (w.drawn + 1)
      by_cases hq : (Question.mapNext 1).forced = true
      · refine ⟨_, w, Φ, ?_, .tup _ _ (.cons _ _ _ _ (.bool false) .nil), hr, Ext.refl _ _ _⟩
        simp [Instr.next, hget, hgm, hq]
      · have hq' : (Question.mapNext 1).forced = false := by simpa using hq
        refine ⟨_, { w with drawn := w.drawn + 1 }, Φ, ?_, .tup _ _ (.cons _ _ _ _ (.bool false) .nil), r1, r2⟩
        have hcut : ∀ n, (Question.mapNext 1).cut n = 0 := by intro n; simp [Question.cut]; try omega
        simp [Instr.next, hget, hgm, hq', hcut]
end
end Go.Ev

/-! unsafe.String; a string's bytes as a new row. -/
namespace Go.Ev
open Go Go.Lib
set_option linter.unusedSimpArgs false
set_option linter.unusedVariables false
section
variable {P : Program} {E : Env} {Φ : Ren} {w : World}

theorem cells_sound {s : S} {a off n : Nat} {k : Blk} {l : Loc} {cs : List Value} (hh : HRel Φ s.h w) (hg : s.h.get a = some (.cells k)) (hl : Φ a = some l) (hn : cut k.c off n = some cs) :
    ∃ cs' : List Value, VRs Φ cs cs' ∧ cs'.length = n ∧ ∀ j v, cs'[j]? = some v → w.cell? ((⟨l.b, l.base + off, none⟩ : Addr).add j) = some v := by
  obtain ⟨c, f, h1, h2, h3, h4, _⟩ := hh.row hg hl
  obtain ⟨hlen, hi⟩ := cut_some _ _ _ _ hn
  have hcell : ∀ j v, cs[j]? = some v → ∃ v', w.cell? ((⟨l.b, l.base + off, none⟩ : Addr).add j) = some v' ∧ VR Φ v v' := by
    intro j v hv
    have hj : j < n := by
      rcases Nat.lt_or_ge j cs.length with h' | h'
      · omega
      · rw [List.getElem?_eq_none h'] at hv; cases hv
    rw [hi j hj] at hv
    obtain ⟨v', h5, h6⟩ := h4 (off + j) v hv
    refine ⟨v', ?_, h6⟩
    rw [add_none, cell_of_row w l.b _ c k.el f h1, Nat.add_assoc]; exact h5
  let g : Nat → Value := fun j => ((w.cell? ((⟨l.b, l.base + off, none⟩ : Addr).add j)).getD undef)
  refine ⟨(List.range n).map g, ?_, by simp, ?_⟩
  · refine VRs.of_get (by simp [hlen]) fun j v hv => ?_
    have hj : j < n := by
      rcases Nat.lt_or_ge j cs.length with h' | h'
      · omega
      · rw [List.getElem?_eq_none h'] at hv; cases hv
    obtain ⟨v', h5, h6⟩ := hcell j v hv
    exact ⟨v', by simp [hj, g, h5], h6⟩
  · intro j v hv
    have hj : j < n := by
      rcases Nat.lt_or_ge j n with h' | h'
      · exact h'
      · rw [List.getElem?_eq_none (by simpa using h')] at hv; cases hv
    obtain ⟨v', h5, _⟩ := hcell j _ (List.getElem?_eq_getElem (by omega))
    simp [hj, g, h5] at hv
    rw [h5, hv]

theorem run_loadBytesN : ∀ (ns : List Int) (a : Addr) (acc : ByteArray), (∀ j x, ns[j]? = some x → w.cell? (a.add j) = some (.int .u8 x)) →
    (loadBytes a acc ns.length).run P w = .ok (ns.foldl (fun r n => r.push (UInt8.ofNat n.toNat)) acc) w
  | [], a, acc, _ => by simp [loadBytes]
  | x :: l, a, acc, h => by
    have h0 : w.cell? a = some (.int .u8 x) := by
      have := h 0 x rfl
      simpa [Addr.add] using this
    have ih := run_loadBytesN l (a.add 1) (acc.push (UInt8.ofNat x.toNat)) (fun j y hy => by
      have := h (j + 1) y (by simpa using hy)
      have e : (a.add 1).add j = a.add (j + 1) := by
        unfold Addr.add
        by_cases hj : j = 0
        · subst hj; simp
        · simp [hj]; omega
      rw [e]; exact this)
    simp only [List.length_cons, loadBytes, Sem.run_bind, run_load, h0, Result.andThen, List.foldl_cons]
    exact ih

theorem liesAt_off {e : TypeId} (hc : P.cellsOf e = 1) (count off n : Nat) (hn : off + n ≤ count) : liesAt P P.depth e count off e n = true := by
  have hd : P.depth = (2 * (P.types.size + Made.depth) + 1) + 1 := rfl
  rw [hd]
  simp only [liesAt, Bool.or_eq_true]
  left
  rw [hd]
  simp [rowAt, hc, hn, sameLayout, Nat.mod_one]

theorem freeze_putO {β o n : Nat} {c : Array Value} {e : TypeId} {f : Nat × Nat} (h : w.heap[β]? = some (.cells c e f)) (hn : n ≠ 0) :
    w.freeze ⟨β, o, none⟩ n = putO w β (.cells c e (if f.1 == f.2 then (o, o + n) else (min f.1 o, max f.2 (o + n)))) := by
  have hlt := lt_of_get h
  unfold World.freeze putO
  rw [if_neg hn]
  refine congrArg (fun hp => ({ w with heap := hp } : World)) ?_
  apply Array.ext_getElem?
  intro i
  rw [Array.getElem?_modify, Array.getElem?_setIfInBounds]
  by_cases hi : β = i
  · subst hi
    rw [if_pos rfl, if_pos rfl, if_pos hlt, h]
    rfl
  · rw [if_neg hi, if_neg hi]

theorem eString_sound {c : C} {t : TypeId} {p n p' n' v : Value} {s' : S} (t2 ty : TypeId) (hE : EOK P c.E) (hr : Rel Φ c.s w) (h : eString c t p n = some (v, s')) (hp : VR Φ p p') (hn : VR Φ n n') :
    Does P Φ c.s w (Builtin.unsafeString_ #[t, t2] ty #[p', n']) v s' := by
  obtain ⟨ti, h1, h2⟩ := ob_eq h
  obtain ⟨el, hkd, h3⟩ := kPtr_eq h2
  obtain ⟨ei, h4, h5⟩ := ob_eq h3
  obtain ⟨kk, m, rfl, h6⟩ := vNat_eq h5
  obtain ⟨h7, h8⟩ := gd_eq h6
  simp only [band_eq, Bool.and_eq_true, beq_nat, blt_nat] at h7
  obtain ⟨hsz, hm⟩ := h7
  have ht := (hE.ty _ _ h1).und
  rw [hkd] at ht
  have hmax : IntKind.i64.max = 9223372036854775807 := rfl
  have h63' : ¬ (9223372036854775807 : Int) < (m : Int) := by omega
  have hneg : ¬ (m : Int) < 0 := by omega
  cases hn
  rw [bi_eq] at h8
  split at h8
  · rename_i h0
    rw [beq_nat] at h0; subst h0
    have hgo : ∀ p0, (Builtin.unsafeString_ #[t, t2] ty #[.pointer p0, .int kk 0]).run P w = .ok (mkS []) w := by
      intro p0
      cases p0 with
      | none =>
        have hdef : Builtin.unsafeString_ #[t, t2] ty #[.pointer none, .int kk 0] =
            (do
              let n ← asInt (.int kk 0)
              if n < 0 then runtimePanic (.error "unsafe.String: len out of range")
              if n > IntKind.i64.max then unsupported (.unsafePointer "String: a length above the largest int")
              if n = 0 then pure (.string .empty)
              else runtimePanic (.error "unsafe.String: ptr is nil and len is not zero")) := rfl
        rw [hdef]
        simp [asInt, asIntOf, hmax, mkS]; rfl
      | some a =>
        have hdef : Builtin.unsafeString_ #[t, t2] ty #[.pointer (some a), .int kk 0] =
            (do
              let n ← asInt (.int kk 0)
              if n < 0 then runtimePanic (.error "unsafe.String: len out of range")
              if n > IntKind.i64.max then unsupported (.unsafePointer "String: a length above the largest int")
              if n = 0 then pure (.string .empty)
              else if ← variablesAt a (← elemOf t) n.toNat then do
                let s ← loadBytes a .empty n.toNat
                freeze a n.toNat
                pure (.string s)
              else unsupported (.unsafePointer "String: not so many bytes at ptr")) := rfl
        rw [hdef]
        simp [asInt, asIntOf, hmax, mkS]; rfl
    split at h8
    · cases h8
      refine ⟨_, w, Φ, ?_, .str _, hr, Ext.refl _ _ _⟩
      cases hp <;> exact hgo _
    · cases h8
  · rename_i h0
    have h0' : m ≠ 0 := fun e => h0 (beq_nat.2 e)
    obtain ⟨a, rfl, h9⟩ := vPtr_eq h8
    obtain ⟨k, hg, h10⟩ := blk_eq h9
    obtain ⟨cs, h11, h12⟩ := ob_eq h10
    obtain ⟨bs, h13, h14⟩ := ob_eq h12
    obtain ⟨h15, h16⟩ := gd_eq h14
    cases h16
    simp only [band_eq, bnot_eq, Bool.and_eq_true, Bool.not_eq_true', beq_nat] at h15
    obtain ⟨hst, hel, hfz⟩ := h15
    obtain ⟨a', rfl, ⟨l, hl, rfl⟩, hsp⟩ := hp.ptr_inv
    obtain ⟨cc, f, g1, g2, g3, g4, g5, g6⟩ := hr.toHRel.row hg hl
    obtain ⟨cs', q1, q2, q3⟩ := cells_sound hr.toHRel hg hl h11
    obtain ⟨ns, rfl, hf⟩ := bytes_sound h13 q1
    have hlen : ns.length = m := by simpa using q2
    have hle := cut_le h11 (by omega)
    have hlb := run_loadBytesN (P := P) (w := w) ns ⟨l.b, l.base + a.off, none⟩ .empty (fun j x hx => q3 j _ (by simp [hx]))
    rw [hf, hlen] at hlb
    have hsh : w.shape? l.b = some (el, cc.size) := by simp [World.shape?, g1, hel]
    have hc1 : P.cellsOf el = 1 := by
      obtain ⟨i, z, e1, e2, _⟩ := (hE.ty _ _ h4).info
      simp [Program.cellsOf, e1, e2, hsz]
    have hlies := liesAt_off (P := P) hc1 (cc.size / P.cellsOf el) (l.base + a.off) m (by rw [hc1, Nat.div_one]; omega)
    have hdef : Builtin.unsafeString_ #[t, t2] ty #[.pointer (some ⟨l.b, l.base + a.off, none⟩), .int kk m] =
        (do
          let n ← asInt (.int kk m)
          if n < 0 then runtimePanic (.error "unsafe.String: len out of range")
          if n > IntKind.i64.max then unsupported (.unsafePointer "String: a length above the largest int")
          if n = 0 then pure (.string .empty)
          else if ← variablesAt ⟨l.b, l.base + a.off, none⟩ (← elemOf t) n.toNat then do
            let s ← loadBytes ⟨l.b, l.base + a.off, none⟩ .empty n.toNat
            freeze ⟨l.b, l.base + a.off, none⟩ n.toNat
            pure (.string s)
          else unsupported (.unsafePointer "String: not so many bytes at ptr")) := rfl
    have hlt := lt_of_get g1
    have hfr := freeze_putO (o := l.base + a.off) g1 h0'
    have hnew : BR Φ (.cells ⟨k.c, k.el, k.gr, [], k.st, fzJoin k.fz a.off (a.off + m)⟩) l
        (some (.cells cc k.el (if f.1 == f.2 then (l.base + a.off, l.base + a.off + m) else (min f.1 (l.base + a.off), max f.2 (l.base + a.off + m))))) := by
      refine ⟨cc, _, rfl, g2, g3, g4, ?_, g6⟩
      cases hk : k.fz with
      | none =>
        rw [hk] at g5
        have : f = (0, 0) := g5
        subst this
        show FzR _ (some (a.off, a.off + m)) _ _ _
        simp only [FzR, beq_self_eq_true, if_true]
        rw [if_pos (by omega)]
        simp only [Nat.add_assoc]
      | some q =>
        rw [hk] at g5 hfz
        have hq : q.1 < q.2 := blt_nat.1 hfz
        simp only [FzR, if_pos hq] at g5
        subst g5
        show FzR _ (some (min q.1 a.off, max q.2 (a.off + m))) _ _ _
        have hne : ((l.base + q.1 == l.base + q.2)) = false := by rw [beq_eq_false_iff_ne]; omega
        simp only [FzR, hne, Bool.false_eq_true, if_false]
        rw [if_pos (by omega)]
        simp only [Prod.mk.injEq]
        omega
    obtain ⟨r1, r2⟩ := hr.write (w' := putO w l.b (.cells cc k.el (if f.1 == f.2 then (l.base + a.off, l.base + a.off + m) else (min f.1 (l.base + a.off), max f.2 (l.base + a.off + m)))))
      (c := k.c) (fz := fzJoin k.fz a.off (a.off + m)) hg hst hl rfl (putO_size _ _ _) (fun β hβ => putO_other hβ) (by rw [putO_same hlt]; exact hnew) rfl rfl rfl
    refine ⟨.string ⟨⟨bs⟩⟩, _, Φ, ?_, .str _, r1, r2⟩
    rw [hdef, ← hfr]
    simp [asInt, asIntOf, hmax, h63', hneg, h0', variablesAt, hsh, elemOf, run_underlying ht, hlies, hlb]
end
end Go.Ev

/-! The operations, joined. -/
namespace Go.Ev
open Go Go.Lib
set_option linter.unusedSimpArgs false
set_option linter.unusedVariables false
section
variable {P : Program} {E : Env} {Φ : Ren} {w : World}

theorem strCells_sound {v v' : Value} {cs : List Value} (h : strCells v = some cs) (hv : VR Φ v v') : ∃ b : ByteArray, v' = .string b ∧ VRs Φ cs (b.data.toList.map byteV) := by
  rcases orE_eq h with h | h
  · obtain ⟨b, rfl, h1⟩ := vStr_eq h
    cases h1; cases hv
    exact ⟨b, rfl, byteV_self _ _⟩
  · obtain ⟨b, p, rfl, h1⟩ := lenV_eq h hv
    obtain ⟨_, h2⟩ := gd_eq h1
    cases h2
    refine ⟨b, rfl, ?_⟩
    generalize b.data.toList = l
    induction l with
    | nil => exact .nil
    | cons x l ih =>
      show VRs Φ (topV .u8 :: reps [topV .u8] l.length) _
      exact .cons _ _ _ _ (VR.topV .u8 _) ih
theorem aConv_sound {c : C} {src dst el : TypeId} {x : Value} {x' v : Value} {B : AB} (hE : EOK P c.E) (hs : P.underlying src = some .string) (hd : P.underlying dst = some (.slice el))
    (h : aConv c el x = some (v, B)) (hx : VR Φ x x') : Makes P Φ w c.s.nx (convert src dst x') v B := by
  obtain ⟨ei, h1, h2⟩ := ob_eq h
  obtain ⟨h3, h4⟩ := gd_eq h2
  simp only [band_eq, Bool.and_eq_true, beq_nat] at h3
  obtain ⟨cs, h4a, h5⟩ := ob_eq h4
  obtain ⟨h6, h7⟩ := gd_eq h5
  cases h7
  obtain ⟨b, rfl, hcs⟩ := strCells_sound h4a hx
  have hlen : cs.length = b.data.toList.length := by have := hcs.length; rw [List.length_map] at this; exact this.symm
  have hu := (hE.ty _ _ h1).und
  rw [isU8_eq h3.1] at hu
  have hrun := run_bytes_of_string w src dst el b hs hd hu
  have hsz : b.data.toList.length = b.size := Array.length_toList
  have hge := grownCap_ge w b.size 0 el
  generalize hC : bytesRow b (grownCap w b.size 0 el) = C at hrun
  have hCs : C.size = grownCap w b.size 0 el := by
    rw [← hC]
    have : b.data.size = b.size := rfl
    simp [bytesRow]; omega
  refine ⟨_, .cells C el (C.size, C.size + 1), w.drawn + 1, C.size, hrun, rfl, fun Ψ hle hΨ => ⟨?_, ?_⟩⟩
  · rw [hlen, hsz]
    refine .slo _ 0 _ _ _ 1 _ hΨ hge ?_
    simp only [Nat.zero_add, Nat.mul_one]; omega
  · refine ⟨C, (C.size, C.size + 1), rfl, rfl, ?_, ?_, ?_, fun e => Bool.noConfusion e⟩
    · show 0 + cs.length ≤ _
      rw [hlen, hsz]; omega
    · intro i u hu
      have hu0 : cs[i]? = some u := hu
      obtain ⟨u', hu', huv⟩ := hcs.get i u hu0
      rw [List.getElem?_map] at hu'
      cases hb : b.data.toList[i]? with
      | none => rw [hb] at hu'; cases hu'
      | some y =>
        rw [hb] at hu'
        cases hu'
        refine ⟨byteV y, ?_, huv.mono hle⟩
        have hi : i < b.data.size := by
          rcases Nat.lt_or_ge i b.data.size with h' | h'
          · exact h'
          · rw [List.getElem?_eq_none (by simpa using h')] at hb; cases hb
        have hb' : b.data[i]? = some y := by simpa using hb
        rw [← hC]
        simp only [bytesRow, Nat.zero_add]
        rw [Array.getElem?_append_left (by simpa using hi), Array.getElem?_map, hb']
        rfl
    · show FzR _ (some (0, 0)) _ _ _
      simp only [FzR]
      rw [if_neg (by omega), if_neg (by omega)]
      exact Nat.le_refl _

/-- an operation that makes an object -/
theorem a_sound {r : Rec} {tm : Tr Value} {s : S} {o : Oper} {v : Value} {B : AB} {ρ : Operand → Value} (hE : EOK P E) (h : ev o.op ⟨E, r, tm, s⟩ = .a (some (v, B))) (hh : HRel Φ s.h w)
    (hρ : OpsR Φ tm ρ o.op) :
    ∃ v' obj d sz, (execOp ρ o).run P w = .ok (.value v') (pushW w obj d) ∧ B.pa = [] ∧ ∀ Ψ : Ren, Φ.le Ψ → Ψ s.nx = some ⟨w.heap.size, 0, sz⟩ → VR Ψ v v' ∧ BR Ψ B ⟨w.heap.size, 0, sz⟩ (some obj) := by
  obtain ⟨dst, op, type, pos, after, guard⟩ := o
  simp only at h hρ
  have fin : ∀ (x : Sem Value), Makes P Φ w s.nx x v B → ∃ v' obj d sz, (do pure (Next.value (← x)) : Sem Next).run P w = .ok (.value v') (pushW w obj d) ∧ B.pa = [] ∧
      ∀ Ψ : Ren, Φ.le Ψ → Ψ s.nx = some ⟨w.heap.size, 0, sz⟩ → VR Ψ v v' ∧ BR Ψ B ⟨w.heap.size, 0, sz⟩ (some obj) := by
    rintro x ⟨v', obj, d, sz, h1, h2, h3⟩
    exact ⟨v', obj, d, sz, by simp only [Sem.run_bind, h1, Result.andThen_ok, Sem.run_pure], h2, h3⟩
  cases op with
  | alloc el => injection h with h; exact fin _ (aAlloc_sound (c := ⟨E, r, tm, s⟩) hE h)
  | box el x => injection h with h; exact fin _ (aBox_sound (c := ⟨E, r, tm, s⟩) h (hρ x (by simp [Op.operands])))
  | buildSlice t len ps => injection h with h; exact fin _ (aBuild_sound (c := ⟨E, r, tm, s⟩) hE h (fun x hx => hρ x (by simpa [Op.operands] using hx)))
  | makeMap t o => injection h with h; exact fin _ (aMap_sound (c := ⟨E, r, tm, s⟩) h)
  | makeSlice t l k => injection h with h; exact fin _ (aMake_sound (c := ⟨E, r, tm, s⟩) hE h (hρ l (by simp [Op.operands])) (hρ k (by simp [Op.operands])))
  | range t x => injection h with h; exact fin _ (aRange_sound (c := ⟨E, r, tm, s⟩) hE hh h (hρ x (by simp [Op.operands])))
  | convert src dst' x =>
    have h' : rConv src dst' x ⟨E, r, tm, s⟩ = .a (some (v, B)) := h
    unfold rConv at h'
    split at h'
    · rename_i si di e1 e2
      unfold conv at h'
      split at h'
      · rename_i el hk1 hk2
        injection h' with h'
        obtain ⟨u, h1, h2⟩ := ob_eq h'
        have u1 := (hE.ty _ _ e1).und
        have u2 := (hE.ty _ _ e2).und
        rw [hk1] at u1; rw [hk2] at u2
        exact fin _ (aConv_sound (c := ⟨E, r, tm, s⟩) hE u1 u2 h2 (hρ x (by simp [Op.operands]) _ h1))
      · cases h'
    · cases h'
  | call k =>
    have h' : rCall k ⟨E, r, tm, s⟩ = .a (some (v, B)) := h
    unfold rCall at h'
    split at h'
    · cases h'
    · unfold built at h'
      split at h' <;> cases h'
    · cases h'
  | defer k =>
    have h' : rDefer k ⟨E, r, tm, s⟩ = .a (some (v, B)) := h
    unfold rDefer at h'
    split at h' <;> cases h'
  | _ => cases h

/-- an operation with an effect that is no call of a function -/
def DoesN (P : Program) (Φ : Ren) (s : S) (w : World) (x : Sem Next) (v : Value) (s' : S) : Prop :=
  ∃ v' w' Φ', (x.run P w = .ok (.value v') w' ∨ (x.run P w = .ok .skip w' ∧ v' = undef)) ∧ VR Φ' v v' ∧ Rel Φ' s' w' ∧ Ext Φ s w Φ' s' w'
theorem Does.next {s : S} {x : Sem Value} {v : Value} {s' : S} (h : Does P Φ s w x v s') : DoesN P Φ s w (do pure (Next.value (← x))) v s' := by
  obtain ⟨v', w', Φ', h1, h2, h3, h4⟩ := h
  exact ⟨v', w', Φ', .inl (by simp only [Sem.run_bind, h1, Result.andThen_ok, Sem.run_pure]), h2, h3, h4⟩
theorem DoesU.next {s : S} {x : Sem Unit} {v : Value} {s' : S} (h : v = undefV ∧ DoesU P Φ s w x s') : DoesN P Φ s w (do x; pure .skip) v s' := by
  obtain ⟨rfl, w', h1, h3, h4⟩ := h
  exact ⟨undef, w', Φ, .inr ⟨by simp only [Sem.run_bind, h1, Result.andThen_ok, Sem.run_pure], rfl⟩, VR.undef, h3, h4⟩
def isCallV (op : Op) : Prop := match op with
  | .call k => (match k.callee with | .value _ => True | _ => False)
  | _ => False
theorem e_sound {r : Rec} {tm : Tr Value} {s s' : S} {o : Oper} {v : Value} {ρ : Operand → Value} (hE : EOK P E) (hc : ¬ isCallV o.op) (h : ev o.op ⟨E, r, tm, s⟩ = .e (some (v, s'))) (hr : Rel Φ s w)
    (hρ : OpsR Φ tm ρ o.op) : DoesN P Φ s w (execOp ρ o) v s' := by
  obtain ⟨dst, op, type, pos, after, guard⟩ := o
  simp only at h hρ hc
  cases op with
  | store t a x => injection h with h; exact DoesU.next (eStore_sound (c := ⟨E, r, tm, s⟩) hE hr h (hρ a (by simp [Op.operands])) (hρ x (by simp [Op.operands])))
  | insert t m k x => injection h with h; exact DoesU.next (eUpdate_sound (c := ⟨E, r, tm, s⟩) hE hr h (hρ m (by simp [Op.operands])) (hρ k (by simp [Op.operands])) (hρ x (by simp [Op.operands])))
  | mapUpdate t m k x => injection h with h; exact DoesU.next (eUpdate_sound (c := ⟨E, r, tm, s⟩) hE hr h (hρ m (by simp [Op.operands])) (hρ k (by simp [Op.operands])) (hρ x (by simp [Op.operands])))
  | next x b => injection h with h; exact Does.next (eNext_sound (c := ⟨E, r, tm, s⟩) type hr h (hρ x (by simp [Op.operands])))
  | convert src dst' x =>
    have h' : rConv src dst' x ⟨E, r, tm, s⟩ = .e (some (v, s')) := h
    unfold rConv at h'
    split at h'
    · unfold conv at h'
      split at h' <;> cases h'
    · cases h'
  | call k =>
    obtain ⟨callee, args, ts⟩ := k
    cases callee with
    | value f => exact absurd trivial hc
    | invoke f m => cases h
    | builtin b =>
      have hargs : ∀ vs, opnds tm args.toList = some vs → VRs Φ vs (args.toList.map ρ) := fun vs hvs =>
        opnds_sound (Φ := Φ) (ρ := ρ) (fun x hx => hρ x (by simp [Op.operands, Call.operands]; simpa using hx)) hvs
      have hex : (execOp ρ ⟨dst, .call ⟨.builtin b, args, ts⟩, type, pos, after, guard⟩) = (builtin b ts type (args.map fun | .const _ => true | _ => false) (args.map ρ)) := rfl
      rw [hex]
      cases b with
      | append =>
        injection h with h
        obtain ⟨vs, h1, h2⟩ := ob_eq h
        obtain ⟨a, b, rfl, h3⟩ := two_eq h2
        obtain ⟨t, tx, h4, h5⟩ := two_eq h3
        obtain ⟨a', b', e1, e2, e3⟩ := two_map (hargs _ h1)
        have e4 : ts = #[t, tx] := arr2 h4
        subst e4
        rw [e1]
        exact Does.next (appendV_sound type hE hr h5 e2 e3)
      | clear =>
        injection h with h
        obtain ⟨vs, h1, h2⟩ := ob_eq h
        obtain ⟨u, rfl, h3⟩ := one_eq h2
        obtain ⟨t, h4, h5⟩ := one_eq h3
        obtain ⟨u', e1, e2⟩ := one_map (hargs _ h1)
        have e4 : ts = #[t] := arr1 h4
        subst e4
        rw [e1]
        exact Does.next (eClear_sound (c := ⟨E, r, tm, s⟩) type hE hr h5 e2)
      | copy =>
        injection h with h
        obtain ⟨vs, h1, h2⟩ := ob_eq h
        obtain ⟨a, b, rfl, h3⟩ := two_eq h2
        obtain ⟨t, tx, h4, h5⟩ := two_eq h3
        obtain ⟨a', b', e1, e2, e3⟩ := two_map (hargs _ h1)
        have e4 : ts = #[t, tx] := arr2 h4
        subst e4
        rw [e1]
        exact Does.next (eCopy_sound (c := ⟨E, r, tm, s⟩) type hE hr h5 e2 e3)
      | unsafeSliceData =>
        injection h with h
        obtain ⟨vs, h1, h2⟩ := ob_eq h
        obtain ⟨u, rfl, h3⟩ := one_eq h2
        obtain ⟨u', e1, e2⟩ := one_map (hargs _ h1)
        rw [e1]
        exact Does.next (eSliceData_sound (c := ⟨E, r, tm, s⟩) ts type hr h3 e2)
      | unsafeString =>
        injection h with h
        obtain ⟨vs, h1, h2⟩ := ob_eq h
        obtain ⟨a, b, rfl, h3⟩ := two_eq h2
        obtain ⟨t, tx, h4, h5⟩ := two_eq h3
        obtain ⟨a', b', e1, e2, e3⟩ := two_map (hargs _ h1)
        have e4 : ts = #[t, tx] := arr2 h4
        subst e4
        rw [e1]
        exact Does.next (eString_sound (c := ⟨E, r, tm, s⟩) tx type hE hr h5 e2 e3)
      | _ => cases h
  | defer k =>
    have h' : rDefer k ⟨E, r, tm, s⟩ = .e (some (v, s')) := h
    unfold rDefer at h'
    split at h' <;> cases h'
  | _ => cases h
end
end Go.Ev

/-! Frames, calls, regions in their order. -/
namespace Go.Ev
open Go Go.Lib
set_option linter.unusedSimpArgs false
set_option linter.unusedVariables false
section
variable {P : Program} {E : Env} {Φ : Ren} {w : World} {bs : List Deferred}

/-- a deferred call -/
def DfR (P : Program) (Φ : Ren) (d : Dfr) (d' : Deferred) : Prop :=
  (∃ cap, d'.target = .fn (.func d.f) cap ∧ VRs Φ d.args (d'.args ++ cap).toList) ∧ ∃ fn c, P.funcs[d.f]? = some fn ∧ fn.body = some c ∧ fn.name ≠ "runtime.NumGoroutine"
inductive DfRs (P : Program) (bs : List Deferred) (Φ : Ren) : List Dfr → List Deferred → Prop
  | nil : DfRs P bs Φ [] bs
  | cons (d : Dfr) (d' : Deferred) (l : List Dfr) (l' : List Deferred) (h : DfR P Φ d d') (hl : DfRs P bs Φ l l') : DfRs P bs Φ (d :: l) (d' :: l')
theorem DfRs.mono {Φ Ψ : Ren} (hle : Φ.le Ψ) : ∀ {l : List Dfr} {l' : List Deferred}, DfRs P bs Φ l l' → DfRs P bs Ψ l l'
  | _, _, .nil => .nil
  | _, _, .cons _ _ _ _ h hl => .cons _ _ _ _ (let ⟨⟨cap, h1, h2⟩, h3⟩ := h; ⟨⟨cap, h1, h2.mono hle⟩, h3⟩) (DfRs.mono hle hl)

/-- the temporaries -/
structure TmR (Φ : Ren) (tm : Tr Value) (tmps : Array Value) : Prop where
  gl : GlR Φ
  get : ∀ t v, tm.get t = some v → ∃ v', tmps[t]? = some v' ∧ VR Φ v v'
structure FrR (P : Program) (bs : List Deferred) (Φ : Ren) (fr : AF) (a : Act) : Prop where
  tm : TmR Φ fr.tm a.tmps
  nt : a.tmps.size = fr.nt
  df : DfRs P bs Φ fr.df a.defers
theorem TmR.mono {Φ Ψ : Ren} (hle : Φ.le Ψ) {tm : Tr Value} {tmps : Array Value} (h : TmR Φ tm tmps) : TmR Ψ tm tmps :=
  ⟨h.gl.mono hle, fun t v hv => let ⟨v', h1, h2⟩ := h.get t v hv; ⟨v', h1, h2.mono hle⟩⟩
theorem FrR.mono {Φ Ψ : Ren} (hle : Φ.le Ψ) {fr : AF} {a : Act} (h : FrR P bs Φ fr a) : FrR P bs Ψ fr a := ⟨h.tm.mono hle, h.nt, h.df.mono hle⟩

theorem global_sound {g : Nat} {tm : Tr Value} {v : Value} {a : Act} (h : GlR Φ) (hv : opnd tm (.global g) = some v) : VR Φ v (a.eval (.global g)) := by
  obtain ⟨h1, h2⟩ := gd_eq (show gd (Nat.blt g 64) (some (.pointer (some ⟨g, 0, none⟩))) = some v from hv)
  cases h2
  obtain ⟨n, e⟩ := h g (blt_nat.1 h1)
  exact .ptr g 0 _ e
theorem opnd_sound {tm : Tr Value} {a : Act} (h : TmR Φ tm a.tmps) {x : Operand} {v : Value} (hv : opnd tm x = some v) : VR Φ v (a.eval x) := by
  cases x with
  | tmp t =>
    have hv' : tm.get t = some v := hv
    obtain ⟨v', h1, h2⟩ := h.get t v hv'
    have : a.eval (.tmp t) = v' := by simp [Act.eval, Array.getD_eq_getD_getElem?, h1]
    rw [this]; exact h2
  | const u =>
    obtain ⟨h1, h2⟩ := gd_eq (show gd (plainC u) (some u) = some v from hv)
    cases h2; exact VR.plainC h1
  | global g => exact global_sound h.gl hv
  | func f => cases hv; exact .func _ _ _ _ _ .nil .nil
theorem ops_sound {tm : Tr Value} {a : Act} (h : TmR Φ tm a.tmps) (op : Op) : OpsR Φ tm a.eval op := fun x _ v hv => opnd_sound h hv

theorem TmR.set {tm : Tr Value} {tmps : Array Value} {d : Tmp} {v v' : Value} (h : TmR Φ tm tmps) (hd : d < tmps.size) (hv : VR Φ v v') : TmR Φ (tm.set d (some v)) (tmps.setIfInBounds d v') := by
  refine ⟨h.gl, fun t u hu => ?_⟩
  rw [get_set] at hu
  rw [Array.getElem?_setIfInBounds]
  by_cases e : t = d
  · subst e
    rw [if_pos rfl] at hu
    cases hu
    rw [if_pos rfl, if_pos hd]; exact ⟨v', rfl, hv⟩
  · rw [if_neg e] at hu
    rw [if_neg (fun e' => e e'.symm)]; exact h.get t u hu
theorem put_sound {fr fr' : AF} {s s' : S} {v v' : Value} {dst : Option Tmp} {a : Act} (h : put fr s v dst = some (fr', s')) (hf : FrR P bs Φ fr a) (hv : VR Φ v v') : s' = s ∧ FrR P bs Φ fr' (a.put dst v') := by
  cases dst with
  | none => cases h; exact ⟨rfl, hf⟩
  | some d =>
    cases fr with
    | mk tm nt df =>
      obtain ⟨h1, h2⟩ := gd_eq (show gd (Nat.blt d nt) (some ((⟨Tr.set tm d (some v), nt, df⟩ : AF), s)) = some (fr', s') from h)
      cases h2
      rw [blt_nat] at h1
      have hn : a.tmps.size = nt := hf.nt
      exact ⟨rfl, hf.tm.set (by rw [hn]; exact h1) hv, by simp [Act.put, hn], hf.df⟩

/-- what a call answers -/
def Answers (P : Program) (f : FuncId) (args : Array Value) (w : World) (R : Value → World → Prop) : Prop :=
  ((callFunc f args).run P w = .ok (.enter f args) w ∧ Calls P f args w (fun e w' => ∃ v, e = .returned v ∧ R v w') ∧
    CallsD P f args .returning w (fun e u w' => u = .returning ∧ ∃ v, e = .returned v ∧ R v w')) ∨ ∃ v, (callFunc f args).run P w = .ok (.value v) w ∧ R v w
def CallOK (P : Program) (r : Rec) : Prop := ∀ f args args' s v s' Φ w, r.cl f args s = some (v, s') → Rel Φ s w → VRs Φ args args'.toList →
  Answers P f args' w fun v' w' => ∃ Φ', VR Φ' v v' ∧ Rel Φ' s' w' ∧ Ext Φ s w Φ' s' w'

theorem target1_eq {f : Value} {args : List Value} {p : FuncId × List Value} (h : target1 f args = some p) : ∃ first cap, f = .func (.func p.1) first cap ∧ p.2 = first.toList ++ (args ++ cap.toList) := by
  unfold target1 at h
  split at h
  · cases h; exact ⟨_, _, rfl, rfl⟩
  · cases h

theorem callFunc_body {f : FuncId} {args : Array Value} {fn : Func} {c : Code} (hf : P.funcs[f]? = some fn) (hb : fn.body = some c) (hn : fn.name ≠ "runtime.NumGoroutine") :
    (callFunc f args).run P w = .ok (.enter f args) w := by
  simp [callFunc, hf, hb, hn]

/-- a deferred call is noted -/
theorem d_sound {r : Rec} {tm : Tr Value} {s : S} {o : Oper} {d : Dfr} {a : Act} (hE : EOK P E) (h : ev o.op ⟨E, r, tm, s⟩ = .d (some d)) (ht : TmR Φ tm a.tmps) :
    ∃ d', (execOp a.eval o).run P w = .ok (.defer d') w ∧ DfR P Φ d d' := by
  obtain ⟨dst, op, type, pos, after, guard⟩ := o
  cases op with
  | defer k =>
    obtain ⟨callee, args, ts⟩ := k
    cases callee with
    | value f =>
      have hev' : (ob (opnds tm args.toList) fun args => ob (target ⟨E, r, tm, s⟩ f args) (pr fun f args => ob (E.fn.get f) fun fn => gd fn.body.isSome (some (⟨f, args⟩ : Dfr)))) = some d := by injection h
      obtain ⟨vs, e1, e2⟩ := ob_eq hev'
      obtain ⟨⟨fid, vs'⟩, e3, e4⟩ := ob_eq e2
      obtain ⟨fn, e8, e9⟩ := ob_eq (show (ob (E.fn.get fid) fun fn => gd fn.body.isSome (some (⟨fid, vs'⟩ : Dfr))) = some d from e4)
      obtain ⟨e10, e11⟩ := gd_eq e9
      cases e11
      obtain ⟨fv, e5, e6⟩ := ob_eq e3
      obtain ⟨first, cap, rfl, e7⟩ := target1_eq e6
      have e7' : vs' = first.toList ++ (vs ++ cap.toList) := e7
      have hargs := opnds_sound (Φ := Φ) (ρ := a.eval) (fun x _ v hv => opnd_sound ht hv) e1
      have hfv := opnd_sound ht e5
      generalize hfe : a.eval f = fv' at hfv
      cases hfv with
      | func _ _ p' _ q' hp hq =>
        have hall : VRs Φ vs' ((p' ++ args.map a.eval) ++ q').toList := by
          rw [e7']
          have := hp.append (hargs.append hq)
          simpa [List.append_assoc] using this
        obtain ⟨c, hc⟩ := Option.isSome_iff_exists.1 e10
        refine ⟨{ target := .fn (.func fid) q', args := p' ++ args.map a.eval }, ?_, ⟨q', rfl, hall⟩, fn, c, hE.fn _ _ e8, hc, hE.rn _ _ e8⟩
        simp [execOp, resolve, hfe, Deferred.ofValue]
    | _ => cases h
  | call k =>
    have h' : rCall k ⟨E, r, tm, s⟩ = .d (some d) := h
    unfold rCall at h'
    split at h'
    · cases h'
    · unfold built at h'
      split at h' <;> cases h'
    · cases h'
  | convert src dst' x =>
    have h' : rConv src dst' x ⟨E, r, tm, s⟩ = .d (some d) := h
    unfold rConv at h'
    split at h'
    · unfold conv at h'
      split at h' <;> cases h'
    · cases h'
  | _ => cases h

/-- AN OPERATION -/
theorem op_wp {r : Rec} {o : Oper} {fr fr' : AF} {s s' : S} {a : Act} (hE : EOK P E) (hC : CallOK P r) (hr : Rel Φ s w) (hf : FrR P bs Φ fr a) (h : doOp E r o fr s = some (fr', s'))
    {next : Act → World → Prop} {Q : Exit → Act → World → Prop} (hn : ∀ Φ' w' a', FrR P bs Φ' fr' a' → Rel Φ' s' w' → Ext Φ s w Φ' s' w' → next a' w') : o.wp P a w next Q := by
  obtain ⟨tm, nt, df⟩ := fr
  have h0 : fin o ⟨tm, nt, df⟩ s (ev o.op ⟨E, r, tm, s⟩) = some (fr', s') := h
  have hρ := ops_sound hf.tm o.op
  unfold Oper.wp
  cases hev : ev o.op ⟨E, r, tm, s⟩ with
  | q v =>
    rw [hev] at h0
    obtain ⟨u, h1, h2⟩ := ob_eq (show (ob v fun v => put ⟨tm, nt, df⟩ s v o.dst) = some (fr', s') from h0)
    subst h1
    obtain ⟨v', h3, h4⟩ := q_sound (P := P) hE hev hr.toHRel hρ
    obtain ⟨rfl, h5⟩ := put_sound h2 hf h3
    rw [h4, Oper.upon_value]
    exact hn Φ w _ h5 hr (Ext.refl _ _ _)
  | a v =>
    rw [hev] at h0
    obtain ⟨⟨u, B⟩, h1, h2⟩ := ob_eq (show (ob v (pr fun v b => put ⟨tm, nt, df⟩ (newB s b) v o.dst)) = some (fr', s') from h0)
    subst h1
    obtain ⟨v', obj, d, sz, h3, h4, h5⟩ := a_sound (P := P) hE hev hr.toHRel hρ
    obtain ⟨h6, h7⟩ := h5 (Φ.add s.nx ⟨w.heap.size, 0, sz⟩) (Ren.le_add hr.dom _) (Ren.add_same _ _ _)
    obtain ⟨r1, r2⟩ := hr.new (w' := pushW w obj d) B ⟨w.heap.size, 0, sz⟩ (Nat.le_refl _) (by rw [pushW_size]; omega) (fun β hβ => pushW_other hβ) (by rw [pushW_same]; exact h7)
      (fun p hp => by rw [h4] at hp; cases hp) rfl rfl rfl
    obtain ⟨rfl, h8⟩ := put_sound h2 (hf.mono (Ren.le_add hr.dom _)) h6
    rw [h3, Oper.upon_value]
    exact hn _ _ _ h8 r1 r2
  | e v =>
    rw [hev] at h0
    obtain ⟨⟨u, s1⟩, h1, h2⟩ := ob_eq (show (ob v (pr fun v s => put ⟨tm, nt, df⟩ s v o.dst)) = some (fr', s') from h0)
    subst h1
    have h2' : put ⟨tm, nt, df⟩ s1 u o.dst = some (fr', s') := h2
    by_cases hc : isCallV o.op
    · obtain ⟨dst, op, type, pos, after, guard⟩ := o
      cases op with
      | call k =>
        obtain ⟨callee, args, ts⟩ := k
        cases callee with
        | value f =>
          have hev' : (ob (opnds tm args.toList) fun args => eCall ⟨E, r, tm, s⟩ f args) = some (u, s1) := by injection hev
          obtain ⟨vs, e1, e2⟩ := ob_eq hev'
          obtain ⟨⟨fid, vs'⟩, e3, e4⟩ := ob_eq e2
          have e4' : r.cl fid vs' s = some (u, s1) := e4
          obtain ⟨fv, e5, e6⟩ := ob_eq e3
          obtain ⟨first, cap, rfl, e7⟩ := target1_eq e6
          have e7' : vs' = first.toList ++ (vs ++ cap.toList) := e7
          have hargs := opnds_sound (Φ := Φ) (ρ := a.eval) (fun x _ v hv => opnd_sound hf.tm hv) e1
          have hfv := opnd_sound hf.tm e5
          generalize hfe : a.eval f = fv' at hfv
          cases hfv with
          | func _ _ p' _ q' hp hq =>
            have hall : VRs Φ vs' ((p' ++ args.map a.eval) ++ q').toList := by
              rw [e7']
              have := hp.append (hargs.append hq)
              simpa [List.append_assoc] using this
            have hrun : (execOp a.eval ⟨dst, .call ⟨.value f, args, ts⟩, type, pos, after, guard⟩).run P w = (callFunc fid ((p' ++ args.map a.eval) ++ q')).run P w := by
              simp [execOp, resolve, hfe, Deferred.ofValue, invoke]
            rw [hrun]
            rcases hC fid vs' _ s u s1 Φ w e4' hr hall with ⟨g1, g2, _⟩ | ⟨v', g1, Φ', g2, g3, g4⟩
            · rw [g1, Oper.upon_enter]
              refine g2.mono fun e w' => ?_
              rintro ⟨v', rfl, Φ', g3, g4, g5⟩
              obtain ⟨rfl, h8⟩ := put_sound h2' (hf.mono (g5.le hr.dom)) g3
              exact hn _ _ _ h8 g4 g5
            · rw [g1, Oper.upon_value]
              obtain ⟨rfl, h8⟩ := put_sound h2' (hf.mono (g4.le hr.dom)) g2
              exact hn _ _ _ h8 g3 g4
        | _ => exact hc.elim
      | _ => exact hc.elim
    · obtain ⟨v', w', Φ', g1, g2, g3, g4⟩ := e_sound (P := P) hE hc hev hr hρ
      obtain ⟨rfl, h8⟩ := put_sound h2' (hf.mono (g4.le hr.dom)) g2
      rcases g1 with g1 | ⟨g1, rfl⟩
      · rw [g1, Oper.upon_value]; exact hn _ _ _ h8 g3 g4
      · rw [g1, Oper.upon_skip]; exact hn _ _ _ h8 g3 g4
  | d v =>
    rw [hev] at h0
    obtain ⟨d, h1, h2⟩ := ob_eq (show (ob v fun d => put (addDf d ⟨tm, nt, df⟩) s undefV o.dst) = some (fr', s') from h0)
    subst h1
    obtain ⟨d', g1, g2⟩ := d_sound (P := P) (w := w) hE hev hf.tm
    have hf2 : FrR P bs Φ (addDf d ⟨tm, nt, df⟩) { a with defers := d' :: a.defers } := ⟨hf.tm, hf.nt, .cons _ _ _ _ g2 hf.df⟩
    obtain ⟨rfl, h8⟩ := put_sound h2 hf2 VR.undef
    rw [g1, Oper.upon_defer]
    exact hn Φ w _ h8 hr (Ext.refl _ _ _)
end
end Go.Ev

/-! Code. -/
namespace Go.Ev
open Go Go.Lib
set_option linter.unusedSimpArgs false
set_option linter.unusedVariables false
section
variable {P : Program} {E : Env} {Φ : Ren} {w : World} {bs : List Deferred}

theorem isB_sound {v v' : Value} {b : Bool} (h : VR Φ v v') : ((match (some v' : Option Value) with | some (.bool b) => some b | _ => none) == some b) = isB b v := by
  cases h with
  | bool c => cases c <;> cases b <;> rfl
  | sy i c v' h =>
    have h1 := h.form.2
    cases v' <;> first | rfl | (rename_i c0; exact absurd rfl (h1 c0))
  | _ => rfl
theorem want_sound {ops : Array Oper} {fr : AF} {o : Oper} {b : Bool} {a : Act} (h : want ops.toList fr o = some b) (hf : TmR Φ fr.tm a.tmps) : Region.wanted o (yielded ops a.tmps) = b := by
  unfold want at h
  unfold Region.wanted
  cases hg : o.guard with
  | none => rw [hg] at h; cases h; rfl
  | some p =>
    obtain ⟨j, c⟩ := p
    rw [hg] at h
    have h' : want1 ops.toList fr.tm j c = some b := h
    obtain ⟨g, h1, h2⟩ := ob_eq h'
    obtain ⟨d, h3, h4⟩ := ob_eq h2
    obtain ⟨v, h5, h6⟩ := ob_eq h4
    cases h6
    rw [nth_eq] at h1
    have h1' : ops[j]? = some g := by simpa using h1
    obtain ⟨v', h7, h8⟩ := hf.get d v h5
    show (yielded ops a.tmps j == some c) = isB c v
    rw [← isB_sound (b := c) h8]
    simp only [yielded, h1', Option.bind_some, h3, h7]
    cases v' <;> rfl

theorem seqOps_nil (E : Env) (r : Rec) (all : List Oper) (fr : AF) (s : S) : seqOps E r all [] fr s = some (fr, s) := rfl
theorem seqOps_cons (E : Env) (r : Rec) (all : List Oper) (o : Oper) (l : List Oper) (fr : AF) (s : S) : seqOps E r all (o :: l) fr s = ob (step1 E r all o fr s) (pr (seqOps E r all l)) := rfl
theorem seqOps_sound {r : Rec} {ops : Array Oper} (hE : EOK P E) (hC : CallOK P r) {fr' : AF} {s' : S} {Q : Exit → Act → World → Prop} :
    ∀ (l : List Oper) (i : Nat) (fr : AF) (s : S) (Φ : Ren) (a : Act) (w : World), ops.toList.drop i = l → seqOps E r ops.toList l fr s = some (fr', s') → FrR P bs Φ fr a → Rel Φ s w →
      (∀ Φ' w' a', FrR P bs Φ' fr' a' → Rel Φ' s' w' → Ext Φ s w Φ' s' w' → Q .normal a' w') → wpOps P ops Q (List.range' i l.length) a w := by
  intro l
  induction l with
  | nil =>
    intro i fr s Φ a w _ h hf hr hn
    cases h
    exact hn Φ w a hf hr (Ext.refl _ _ _)
  | cons o l ih =>
    intro i fr s Φ a w hd h hf hr hn
    rw [seqOps_cons] at h
    obtain ⟨⟨fr1, s1⟩, h1, h2⟩ := ob_eq h
    have h2' : seqOps E r ops.toList l fr1 s1 = some (fr', s') := h2
    obtain ⟨b, h3, h4⟩ := ob_eq h1
    have hlt : i < ops.toList.length := by
      rcases Nat.lt_or_ge i ops.toList.length with h' | h'
      · exact h'
      · rw [List.drop_eq_nil_of_le h'] at hd; cases hd
    have hcons := List.drop_eq_getElem_cons hlt
    rw [hd] at hcons
    injection hcons with ho hl
    have ho' : ops[i]? = some o := by
      have : ops.toList[i]? = some o := by rw [List.getElem?_eq_getElem hlt, ← ho]
      simpa using this
    rw [List.length_cons, List.range'_succ]
    have hw := want_sound h3 hf.tm
    simp only [wpOps, ho', hw]
    rw [bi_eq] at h4
    cases b with
    | true =>
      rw [if_pos rfl] at h4
      rw [if_pos rfl]
      refine .inl (op_wp hE hC hr hf h4 fun Φ1 w1 a1 q1 q2 q3 => ?_)
      exact ih (i + 1) fr1 s1 Φ1 a1 w1 hl.symm h2' q1 q2 (fun Φ' w' a' p1 p2 p3 => hn Φ' w' a' p1 p2 (q3.trans p3))
    | false =>
      rw [if_neg (by simp)] at h4
      rw [if_neg (by simp)]
      obtain ⟨rfl, q1⟩ := put_sound h4 hf VR.undef
      exact ih (i + 1) fr1 _ Φ _ w hl.symm h2' q1 hr hn

/-- regions that draw their order -/
def DrawnOK (P : Program) (E : Env) : Prop := ∀ {bs : List Deferred} (r : Rec), CallOK P r → ∀ (ops : Array Oper) (fr fr' : AF) (s s' : S) (Φ : Ren) (a : Act) (w : World) (Q : Exit → Act → World → Prop),
  drawn E r ops.toList fr s = some (fr', s') → FrR P bs Φ fr a → Rel Φ s w → (∀ Φ' w' a', FrR P bs Φ' fr' a' → Rel Φ' s' w' → Ext Φ s w Φ' s' w' → Q .normal a' w') →
  wpAny P .any ops Q ops.size (Array.replicate ops.size false) a w

def Ex.to : Ex → Exit
  | .normal => .normal
  | .exit id => .exit id
  | .ret => .ret
/-- a result of the evaluator's, for a piece of code -/
def CdR (P : Program) (bs : List Deferred) (Φ : Ren) (a : Act) (s : S) (w : World) (x : Ex) (fr' : AF) (s' : S) (W : (Exit → Act → World → Prop) → Prop) : Prop :=
  ∀ Q : Exit → Act → World → Prop, (∀ Φ' w' a', FrR P bs Φ' fr' a' → Rel Φ' s' w' → Ext Φ s w Φ' s' w' → Q x.to a' w') → W Q
def CodeOK (P : Program) (r : Rec) (n : Nat) : Prop := ∀ c fr s x fr' s', r.cd c fr s = some (x, fr', s') → ∀ {bs : List Deferred} Φ a w, FrR P bs Φ fr a → Rel Φ s w →
  CdR P bs Φ a s w x fr' s' (fun Q => c.wp P Q a w) ∧ ∀ d, c = .loop d → CdR P bs Φ a s w x fr' s' (fun Q => Code.rounds P d Q n a w)

/-- ranges over maps of several entries -/
def RgOK (P : Program) (E : Env) : Prop := ∀ {bs : List Deferred} (r : Rec) (n : Nat), CallOK P r → CodeOK P r n → ∀ id c fr s x fr' s' Φ a w, rgBlock E r id c fr s = some (x, fr', s') → FrR P bs Φ fr a → Rel Φ s w →
  CdR P bs Φ a s w x fr' s' (fun Q => (Code.block id c).wp P Q a w)
theorem code_sound {r : Rec} {n : Nat} (hE : EOK P E) (hC : CallOK P r) (hD : DrawnOK P E) (hG : RgOK P E) (ih : CodeOK P r n) : CodeOK P ⟨stepCode E r, stepCall E r⟩ (n + 1) := by
  intro c fr s x fr' s' h bs Φ a w hf hr
  have h' : codeR c E r fr s = some (x, fr', s') := h
  cases c with
  | skip => cases h'; exact ⟨fun Q hn => wp_skip (hn Φ w a hf hr (Ext.refl _ _ _)), fun d hd => by cases hd⟩
  | label l => cases h'; exact ⟨fun Q hn => wp_label (hn Φ w a hf hr (Ext.refl _ _ _)), fun d hd => by cases hd⟩
  | exit id => cases h'; exact ⟨fun Q hn => wp_exit (hn Φ w a hf hr (Ext.refl _ _ _)), fun d hd => by cases hd⟩
  | ret => cases h'; exact ⟨fun Q hn => wp_ret (hn Φ w a hf hr (Ext.refl _ _ _)), fun d hd => by cases hd⟩
  | region id ops draw =>
    refine ⟨fun Q hn => ?_, fun d hd => by cases hd⟩
    obtain ⟨⟨fr1, s1⟩, h1, h2⟩ := ob_eq (show ob (bi draw (drawn E r ops.toList fr s) (seqOps E r ops.toList ops.toList fr s)) norm = some (x, fr', s') from h')
    cases h2
    rw [bi_eq] at h1
    cases draw with
    | true =>
      rw [if_pos rfl] at h1
      obtain ⟨r1, r2⟩ := hr.drew (w.drawn + 1)
      exact wp_region_any hE.mix (hD r hC ops fr fr' s s' Φ a { w with drawn := w.drawn + 1 } Q h1 hf r1 (fun Φ' w' a' p1 p2 p3 => hn Φ' w' a' p1 p2 (r2.trans p3)))
    | false =>
      rw [if_neg (by simp)] at h1
      refine wp_region ?_
      rw [List.range_eq_range']
      have := seqOps_sound (Q := Q) hE hC ops.toList 0 fr s Φ a w rfl h1 hf hr hn
      simpa using this
  | seq c d =>
    refine ⟨fun Q hn => ?_, fun d hd => by cases hd⟩
    obtain ⟨⟨x1, fr1, s1⟩, h1, h2⟩ := ob_eq (show ob (r.cd c fr s) (goOn r d) = some (x, fr', s') from h')
    refine wp_seq ((ih c fr s x1 fr1 s1 h1 Φ a w hf hr).1 _ fun Φ1 w1 a1 q1 q2 q3 => ?_)
    cases x1 with
    | normal => exact (ih d fr1 s1 x fr' s' h2 Φ1 a1 w1 q1 q2).1 Q fun Φ' w' a' p1 p2 p3 => hn Φ' w' a' p1 p2 (q3.trans p3)
    | exit id => cases h2; exact hn Φ1 w1 a1 q1 q2 q3
    | ret => cases h2; exact hn Φ1 w1 a1 q1 q2 q3
  | cond c thn els =>
    refine ⟨fun Q hn => ?_, fun d hd => by cases hd⟩
    obtain ⟨v, h1, h2⟩ := ob_eq (show (ob (opnd fr.tm c) fun v => vBool v fun t => bi t (r.cd thn fr s) (r.cd els fr s)) = some (x, fr', s') from h')
    obtain ⟨t, rfl, h3⟩ := vBool_eq h2
    have hv := opnd_sound hf.tm h1
    have hc : a.eval c = .bool t := by generalize a.eval c = y at hv; cases hv; rfl
    refine wp_cond hc ?_
    rw [bi_eq] at h3
    cases t with
    | true => exact (ih thn fr s x fr' s' h3 Φ a w hf hr).1 Q hn
    | false => exact (ih els fr s x fr' s' h3 Φ a w hf hr).1 Q hn
  | block id c =>
    refine ⟨fun Q hn => ?_, fun d hd => by cases hd⟩
    have h'' : Option.casesOn (motive := fun _ => Option (Ex × AF × S)) (cBlock0 id c E r fr s) (rgBlock E r id c fr s) some = some (x, fr', s') := h'
    cases hb0 : cBlock0 id c E r fr s with
    | none => rw [hb0] at h''; exact hG r n hC ih id c fr s x fr' s' Φ a w h'' hf hr Q hn
    | some y0 =>
    rw [hb0] at h''
    have hy : y0 = (x, fr', s') := Option.some.inj h''
    subst hy
    obtain ⟨⟨x1, fr1, s1⟩, h1, h2⟩ := ob_eq (show ob (r.cd c fr s) (outOf id) = some (x, fr', s') from hb0)
    refine wp_block ((ih c fr s x1 fr1 s1 h1 Φ a w hf hr).1 _ fun Φ1 w1 a1 q1 q2 q3 => ?_)
    cases x1 with
    | normal => cases h2; exact hn Φ1 w1 a1 q1 q2 q3
    | exit id' =>
      have h2' : bi (Nat.beq id' id) (some (Ex.normal, fr1, s1)) (some (.exit id', fr1, s1)) = some (x, fr', s') := h2
      rw [bi_eq, beq_dec] at h2'
      show (if id' = id then Q .normal a1 w1 else Q (.exit id') a1 w1)
      by_cases e : id' = id
      · rw [if_pos (by simpa using e)] at h2'
        rw [if_pos e]; cases h2'; exact hn Φ1 w1 a1 q1 q2 q3
      · rw [if_neg (by simpa using e)] at h2'
        rw [if_neg e]; cases h2'; exact hn Φ1 w1 a1 q1 q2 q3
    | ret => cases h2; exact hn Φ1 w1 a1 q1 q2 q3
  | loop c =>
    have key : ∀ d, Code.loop c = .loop d → CdR P bs Φ a s w x fr' s' (fun Q => Code.rounds P d Q (n + 1) a w) := by
      rintro d hd Q hn
      cases hd
      obtain ⟨⟨x1, fr1, s1⟩, h1, h2⟩ := ob_eq (show ob (r.cd c fr s) (goOn r (.loop c)) = some (x, fr', s') from h')
      show c.wp P (Exit.then (Code.rounds P c Q n) Q) a w
      refine (ih c fr s x1 fr1 s1 h1 Φ a w hf hr).1 _ fun Φ1 w1 a1 q1 q2 q3 => ?_
      cases x1 with
      | normal => exact (ih (.loop c) fr1 s1 x fr' s' h2 Φ1 a1 w1 q1 q2).2 c rfl Q fun Φ' w' a' p1 p2 p3 => hn Φ' w' a' p1 p2 (q3.trans p3)
      | exit id => cases h2; exact hn Φ1 w1 a1 q1 q2 q3
      | ret => cases h2; exact hn Φ1 w1 a1 q1 q2 q3
    exact ⟨fun Q hn => wp_loop_rounds (n + 1) (key c rfl Q hn), key⟩
  | _ => cases h'

/-! calls -/
/-- the going of a deferred frame, its own deferred calls included -/
theorem leaves_stepsD {fn : Func} {tmps : Array Value} {R : Ending → World → Prop} : ∀ (ds : List Deferred) (u : FrameMode) (w : World) (fr : Frame)
    (cs : List Frame), fr.mode = u → fr.defers = ds → fr.tmps = tmps → P.funcs[fr.fn]? = some fn → fr.kind = .deferred → Leaves P fn tmps R ds u w →
    ∃ e w' fr', R e w' ∧ Comes P (Go.lone fr cs w) (Go.lone fr' cs w') e ∧ fr'.kind = .deferred ∧ fr'.going P w' e := by
  intro ds
  induction ds with
  | nil =>
    intro u w fr cs hu hd ht hf hk h
    cases u with
    | run => exact h.elim
    | returning =>
      obtain ⟨v, hr, hR⟩ := h
      exact ⟨.returned v, w, fr, hR, Steps.refl P _, hk, hu, hd, fn, hf, ht ▸ hr⟩
    | panicking chain => exact ⟨.panicked chain, w, fr, h, Steps.refl P _, hk, hu, hd, fn, hf⟩
  | cons d ds ih =>
    intro u w fr cs hu hd ht hf hk h
    obtain ⟨hrun, fv, cap, f, args, htar, hinv, hcall⟩ := h
    have h1 := step_defer (cs := cs) (hu ▸ hrun) hd htar hinv
    obtain ⟨e, u', w', frX, hR, hsteps, hkX, hgo⟩ := hcall { fr with defers := ds } cs hu
    cases e with
    | returned v =>
      have h2 := step_going_returned (c := { { fr with defers := ds } with mode := u' }) (cs := cs) hkX hgo
      obtain ⟨e', w'', fr', hR', hs', hfn', hl'⟩ := ih (settle u') w' { { { fr with defers := ds } with mode := u' } with mode := settle u' } cs rfl rfl ht hf hk hR
      exact ⟨e', w'', fr', hR', Comes.of_steps (.head h1 (Steps.trans hsteps (.one h2))) hs', hfn', hl'⟩
    | panicked chain =>
      have h2 := step_going_panicked (c := { { fr with defers := ds } with mode := u' }) (cs := cs) hgo
      obtain ⟨e', w'', fr', hR', hs', hfn', hl'⟩ := ih (raised u' chain) w' { { { fr with defers := ds } with mode := u' } with mode := raised u' chain } cs rfl rfl ht hf hk hR
      exact ⟨e', w'', fr', hR', Comes.of_steps (.head h1 (Steps.trans hsteps (.one h2))) hs', hfn', hl'⟩
    | outgrown => exact ⟨.outgrown, w', fr, hR, Outgrown.of_steps (.one h1) hsteps, hk, trivial⟩

theorem callsD_of_wp_defers {f : FuncId} {fn : Func} {c : Code} {args : Array Value} {u : FrameMode} {w : World} {R : Ending → World → Prop}
    (hf : P.funcs[f]? = some fn) (hb : fn.body = some c)
    (h : c.wp P (bodyPostD P fn R) { tmps := args ++ Array.replicate (fn.ntmps - args.size) undef, defers := [] } w) : CallsD P f args u w fun e u' w' => u' = u ∧ R e w' := by
  intro c₀ cs hu
  let b : Frame := { (default : Frame) with fn := f, kind := .deferred }
  have henter : Frame.enter P f args .deferred =
      b.at { tmps := args ++ Array.replicate (fn.ntmps - args.size) undef, defers := [] } [.code c] := by
    simp [Frame.enter, Frame.at, hf, hb, b]
  have hc : ({ c₀ with mode := u } : Frame) = c₀ := by subst hu; rfl
  obtain ⟨e, a', w', hq, harr⟩ := h b [] (c₀ :: cs)
  rw [← henter] at harr
  cases e with
  | normal =>
    obtain ⟨e', w'', fr', hR, hs, hfn, hl⟩ := leaves_stepsD a'.defers .returning w' { b.at a' [] with mode := .returning } (c₀ :: cs) rfl rfl rfl hf rfl hq
    exact ⟨e', u, w'', fr', ⟨rfl, hR⟩, (by rw [hc]; exact Comes.of_steps (Steps.trans harr (.one step_end)) hs), hfn, hl⟩
  | ret =>
    obtain ⟨todo, hs₀⟩ := harr
    obtain ⟨e', w'', fr', hR, hs, hfn, hl⟩ := leaves_stepsD a'.defers .returning w' { b.at a' todo with mode := .returning } (c₀ :: cs) rfl rfl rfl hf rfl hq
    exact ⟨e', u, w'', fr', ⟨rfl, hR⟩, (by rw [hc]; exact Comes.of_steps hs₀ hs), hfn, hl⟩
  | panic chain =>
    obtain ⟨todo, hs₀⟩ := harr
    obtain ⟨e', w'', fr', hR, hs, hfn, hl⟩ := leaves_stepsD a'.defers (.panicking chain) w' { b.at a' todo with mode := .panicking chain } (c₀ :: cs) rfl rfl rfl hf rfl hq
    exact ⟨e', u, w'', fr', ⟨rfl, hR⟩, (by rw [hc]; exact Comes.of_steps hs₀ hs), hfn, hl⟩
  | exit id => exact hq.elim
  | goto l => exact hq.elim
  | outgrown => exact ⟨.outgrown, u, w', b, ⟨rfl, hq⟩, harr.resolve_left (by simp [b]), rfl, trivial⟩

/-- the deferred calls of a frame that returns -/
theorem defers_sound {r : Rec} (hC : CallOK P r) {fn : Func} {tmps : Array Value} {R : Ending → World → Prop} : ∀ (ds : List Dfr) (ds' : List Deferred) (s s' : S) (Φ : Ren) (w : World),
    runDefers r ds s = some s' → DfRs P [] Φ ds ds' → Rel Φ s w → (∀ Φ' w', Rel Φ' s' w' → Ext Φ s w Φ' s' w' → ∃ v, (results fn tmps).run P w' = .ok v w' ∧ R (.returned v) w') → Leaves P fn tmps R ds' .returning w := by
  intro ds
  induction ds with
  | nil =>
    intro ds' s s' Φ w h hd hr hn
    cases hd; cases h
    exact hn Φ w hr (Ext.refl _ _ _)
  | cons d ds ih =>
    intro ds' s s' Φ w h hd hr hn
    cases hd with
    | cons _ d' _ l' hd hl =>
      obtain ⟨⟨v, s1⟩, h1, h2⟩ := ob_eq (show ob (r.cl d.f d.args s) (pr fun _ s => runDefers r ds s) = some s' from h)
      have h2' : runDefers r ds s1 = some s' := h2
      obtain ⟨⟨cap, e1, e2⟩, fn', c', e3, e4, e5⟩ := hd
      have hrun := callFunc_body (P := P) (w := w) (args := d'.args ++ cap) e3 e4 e5
      refine ⟨by simp, _, cap, d.f, d'.args ++ cap, e1, by rw [e1]; exact hrun, ?_⟩
      rcases hC d.f d.args (d'.args ++ cap) s v s1 Φ w h1 hr e2 with ⟨_, _, g3⟩ | ⟨v', g1, _⟩
      · refine g3.mono fun e u w' => ?_
        rintro ⟨rfl, v', rfl, Φ', q1, q2, q3⟩
        show Leaves P fn tmps R l' .returning w'
        exact ih l' s1 s' Φ' w' h2' (hl.mono (q3.le hr.dom)) q2 (fun Φ2 w2 p1 p2 => hn Φ2 w2 p1 (q3.trans p2))
      · rw [hrun] at g1; cases g1
end
end Go.Ev

/-! Calls, and the whole. -/
namespace Go.Ev
open Go Go.Lib
set_option linter.unusedSimpArgs false
set_option linter.unusedVariables false
section
variable {P : Program} {E : Env} {Φ : Ren} {w : World} {bs : List Deferred}

theorem initTm_nil (i : Nat) (t : Tr Value) : initTm [] i t = t := rfl
theorem initTm_cons (v : Value) (l : List Value) (i : Nat) (t : Tr Value) : initTm (v :: l) i t = initTm l (i + 1) (t.set i (some v)) := rfl
theorem initTm_sound {tmps : Array Value} : ∀ (l : List Value) (i : Nat) (t : Tr Value), TmR Φ t tmps → (∀ j v, l[j]? = some v → ∃ v', tmps[i + j]? = some v' ∧ VR Φ v v') → TmR Φ (initTm l i t) tmps := by
  intro l
  induction l with
  | nil => intro i t h _; exact h
  | cons v l ih =>
    intro i t h hl
    rw [initTm_cons]
    refine ih (i + 1) _ ?_ fun j u hu => ?_
    · refine ⟨h.gl, fun d u hu => ?_⟩
      rw [get_set] at hu
      by_cases e : d = i
      · rw [if_pos e] at hu
        cases hu
        subst e
        exact hl 0 v rfl
      · rw [if_neg e] at hu; exact h.get d u hu
    · have := hl (j + 1) u (by simpa using hu)
      rwa [show i + (j + 1) = i + 1 + j from by omega] at this

def resS (tmps : Array Value) (x : ResultVar) : Sem Value := match x with
  | .tmp t => pure (tmps.getD t undef)
  | .cell a t => do loadVar t (← asAddr (tmps.getD a undef))
theorem results_eq (fn : Func) (tmps : Array Value) : results fn tmps = (do
    let vs ← List.toArray <$> fn.results.toList.mapM (resS tmps)
    pure (if h : vs.size = 1 then vs[0] else .tuple vs)) := by
  rw [← Array.mapM_eq_mapM_toList]
  rfl
theorem resV1_sound {tm : Tr Value} {tmps : Array Value} {s : S} {x : ResultVar} {v : Value} (hE : EOK P E) (hh : HRel Φ s.h w) (ht : TmR Φ tm tmps) (h : resV1 E tm s x = some v) :
    ∃ v', VR Φ v v' ∧ (resS tmps x).run P w = .ok v' w := by
  cases x with
  | tmp t =>
    have h' : tm.get t = some v := h
    obtain ⟨v', h1, h2⟩ := ht.get t v h'
    refine ⟨v', h2, ?_⟩
    simp [resS, Array.getD_eq_getD_getElem?, h1]
  | cell a t =>
    obtain ⟨u, h1, h2⟩ := ob_eq (show (ob (tm.get a) fun v => vPtr v fun a => loadV E s t a) = some v from h)
    obtain ⟨ad, rfl, h3⟩ := vPtr_eq h2
    obtain ⟨u', h4, h5⟩ := ht.get a _ h1
    obtain ⟨ad', rfl, e2, e3⟩ := h5.ptr_inv
    obtain ⟨v', h6, h7⟩ := loadV_sound hE hh h3 e2
    refine ⟨v', h6, ?_⟩
    simp [resS, Array.getD_eq_getD_getElem?, h4, asAddr, h7]
theorem results_sound {tm : Tr Value} {tmps : Array Value} {s : S} {fn : Func} {vs : List Value} (hE : EOK P E) (hh : HRel Φ s.h w) (ht : TmR Φ tm tmps) (h : mapO (resV1 E tm s) fn.results.toList = some vs) :
    ∃ v', VR Φ (oneV vs) v' ∧ (results fn tmps).run P w = .ok v' w := by
  have key : ∀ (l : List ResultVar) (vs : List Value), mapO (resV1 E tm s) l = some vs → ∃ vs', VRs Φ vs vs' ∧
      (l.mapM (resS tmps)).run P w = .ok vs' w := by
    intro l
    induction l with
    | nil => intro vs h; cases h; exact ⟨[], .nil, rfl⟩
    | cons x l ih =>
      intro vs h
      obtain ⟨y, ys, h1, h2, rfl⟩ := mapO_cons_eq h
      obtain ⟨v', h3, h4⟩ := resV1_sound hE hh ht h1
      obtain ⟨vs', h5, h6⟩ := ih ys h2
      refine ⟨v' :: vs', .cons _ _ _ _ h3 h5, ?_⟩
      rw [List.mapM_cons, Sem.run_bind, h4, Result.andThen_ok, Sem.run_bind, h6]
      rfl
  obtain ⟨vs', h1, h2⟩ := key _ _ h
  refine ⟨if h : vs'.toArray.size = 1 then vs'.toArray[0] else .tuple vs'.toArray, ?_, ?_⟩
  · have hl := h1.length
    cases h1 with
    | nil => exact .tup _ _ .nil
    | cons v v' l l' hv hl' =>
      cases hl' with
      | nil => exact hv
      | cons u u' m m' hu hm =>
        rw [dif_neg (by simp)]
        exact .tup _ _ (.cons _ _ _ _ hv (.cons _ _ _ _ hu hm))
  · rw [results_eq, Sem.run_bind]
    have : ∀ (x : Sem (List Value)), x.run P w = .ok vs' w → ((List.toArray <$> x) : Sem (Array Value)).run P w = .ok vs'.toArray w := by
      intro x hx
      rw [map_eq_pure_bind, Sem.run_bind, hx]; rfl
    rw [this _ h2]
    rfl

/-- functions whose answers are told -/
structure OvOK (P : Program) (E : Env) : Prop where
  ok : ∀ f g, E.ov.get f = some g → ∀ args (args' : Array Value) s v s' Φ w, g args s = some (v, s') → Rel Φ s w → VRs Φ args args'.toList →
    Answers P f args' w fun v' w' => ∃ Φ', VR Φ' v v' ∧ Rel Φ' s' w' ∧ Ext Φ s w Φ' s' w'
theorem call_sound0 {r : Rec} {n : Nat} (hE : EOK P E) (hC : CallOK P r) (ih : CodeOK P r n) : CallOK P ⟨stepCode E r, stepCall0 E r⟩ := by
  intro f args args' s v s' Φ w h hr ha
  obtain ⟨fn, h1, h2⟩ := ob_eq (show stepCall0 E r f args s = some (v, s') from h)
  have hfn := hE.fn _ _ h1
  cases hb : fn.body with
  | none =>
    rw [hb] at h2
    obtain ⟨u, h3, h4⟩ := ob_eq (show (ob (extern fn args) fun v => some (v, s)) = some (v, s') from h2)
    cases h4
    obtain ⟨v', h5, h6⟩ := hE.ext f fn h1 hb args args'.toList v Φ w h3 ha
    exact .inr ⟨v', by simpa using h6, Φ, h5, hr, Ext.refl _ _ _⟩
  | some c =>
    rw [hb] at h2
    obtain ⟨⟨x, fr, s1⟩, h3, h4⟩ := ob_eq (show callIn E r fn args s c = some (v, s') from h2)
    have hlen := ha.length
    simp only [Array.length_toList] at hlen
    have hf0 : FrR P [] Φ ⟨initTm args 0 .e, args.length + (fn.ntmps - args.length), []⟩ { tmps := args' ++ Array.replicate (fn.ntmps - args'.size) undef, defers := [] } := by
      refine ⟨initTm_sound args 0 .e ⟨hr.gl, fun t v hv => by rw [get_e] at hv; cases hv⟩ fun j u hu => ?_, ?_, .nil⟩
      · obtain ⟨u', e1, e2⟩ := ha.get j u hu
        refine ⟨u', ?_, e2⟩
        have hj : j < args'.size := by
          rcases Nat.lt_or_ge j args'.size with h' | h'
          · exact h'
          · rw [List.getElem?_eq_none (by simpa using h')] at e1; cases e1
        show (args' ++ Array.replicate (fn.ntmps - args'.size) undef)[0 + j]? = some u'
        rw [Nat.zero_add, Array.getElem?_append_left hj]
        simpa using e1
      · show (args' ++ Array.replicate (fn.ntmps - args'.size) undef).size = _
        simp [hlen]
    have hleave : x = .normal ∨ x = .ret := by
      cases x with
      | normal => exact .inl rfl
      | exit id => cases h4
      | ret => exact .inr rfl
    have h5 : leave1 E r fn fr s1 = some (v, s') := by
      rcases hleave with rfl | rfl <;> exact h4
    obtain ⟨s2, h6, h7⟩ := ob_eq h5
    obtain ⟨vs, h8, h9⟩ := ob_eq h7
    cases h9
    have hpost : ∀ (R : Ending → World → Prop), (∀ v' w' Φ', VR Φ' (oneV vs) v' → Rel Φ' s' w' → Ext Φ s w Φ' s' w' → R (.returned v') w') →
        c.wp P (bodyPostD P fn R) { tmps := args' ++ Array.replicate (fn.ntmps - args'.size) undef, defers := [] } w := by
      intro R hR
      refine (ih c _ s x fr s1 h3 Φ _ w hf0 hr).1 _ fun Φ1 w1 a1 q1 q2 q3 => ?_
      have : Leaves P fn a1.tmps R a1.defers .returning w1 :=
        defers_sound hC fr.df a1.defers s1 s' Φ1 w1 h6 q1.df q2 fun Φ2 w2 p1 p2 => by
          obtain ⟨v', g1, g2⟩ := results_sound hE p1.toHRel (q1.tm.mono (p2.le q2.dom)) h8
          exact ⟨v', g2, hR v' w2 Φ2 g1 p1 (q3.trans p2)⟩
      rcases hleave with rfl | rfl <;> exact this
    refine .inl ⟨callFunc_body hfn hb (hE.rn _ _ h1), ?_, ?_⟩
    · exact calls_of_wp_defers hfn hb (hpost _ fun v' w' Φ' g1 g2 g3 => ⟨v', rfl, Φ', g1, g2, g3⟩)
    · exact callsD_of_wp_defers hfn hb (hpost _ fun v' w' Φ' g1 g2 g3 => ⟨v', rfl, Φ', g1, g2, g3⟩)

theorem call_sound {r : Rec} {n : Nat} (hE : EOK P E) (hO : OvOK P E) (hC : CallOK P r) (ih : CodeOK P r n) : CallOK P ⟨stepCode E r, stepCall E r⟩ := by
  intro f args args' s v s' Φ w h hr ha
  have h0 := call_sound0 hE hC ih f args args' s v s' Φ w
  cases hg : E.ov.get f with
  | none =>
    have h' : Option.rec (motive := fun _ => Option (Value × S)) (stepCall0 E r f args s)
      (fun g => Option.rec (motive := fun _ => Option (Value × S)) (stepCall0 E r f args s) some (g args s)) (E.ov.get f) = some (v, s') := h
    rw [hg] at h'
    exact h0 h' hr ha
  | some g =>
    have h' : Option.rec (motive := fun _ => Option (Value × S)) (stepCall0 E r f args s)
      (fun g => Option.rec (motive := fun _ => Option (Value × S)) (stepCall0 E r f args s) some (g args s)) (E.ov.get f) = some (v, s') := h
    rw [hg] at h'
    have h2 : Option.rec (motive := fun _ => Option (Value × S)) (stepCall0 E r f args s) some (g args s) = some (v, s') := h'
    cases hx : g args s with
    | none => rw [hx] at h2; exact h0 h2 hr ha
    | some y => rw [hx] at h2; cases h2; exact hO.ok f g hg args args' s v s' Φ w hx hr ha

theorem lvl_sound (hE : EOK P E) (hO : OvOK P E) (hD : DrawnOK P E) (hG : RgOK P E) : ∀ n, CallOK P (lvl E n) ∧ CodeOK P (lvl E n) n := by
  intro n
  induction n with
  | zero => exact ⟨(fun f args args' s v s' Φ w h => by cases h), (fun c fr s x fr' s' h => by cases h)⟩
  | succ n ih => exact ⟨call_sound hE hO ih.1 ih.2, code_sound hE ih.1 hD hG ih.2⟩
end
end Go.Ev

/-! Regions that draw their order, 1: what is needed. -/
namespace Go.Ev
open Go Go.Lib
set_option linter.unusedSimpArgs false
set_option linter.unusedVariables false
section
variable {P : Program} {E : Env} {Φ : Ren} {w : World} {bs : List Deferred}

/-! an operation, its operands alone being known -/
theorem d_core {r : Rec} {tm : Tr Value} {s : S} {o : Oper} {d : Dfr} {a : Act} (hE : EOK P E) (h : ev o.op ⟨E, r, tm, s⟩ = .d (some d)) (hρ : OpsR Φ tm a.eval o.op) :
    ∃ d', (execOp a.eval o).run P w = .ok (.defer d') w ∧ DfR P Φ d d' := by
  obtain ⟨dst, op, type, pos, after, guard⟩ := o
  cases op with
  | defer k =>
    obtain ⟨callee, args, ts⟩ := k
    cases callee with
    | value f =>
      have hev' : (ob (opnds tm args.toList) fun args => ob (target ⟨E, r, tm, s⟩ f args) (pr fun f args => ob (E.fn.get f) fun fn => gd fn.body.isSome (some (⟨f, args⟩ : Dfr)))) = some d := by injection h
      obtain ⟨vs, e1, e2⟩ := ob_eq hev'
      obtain ⟨⟨fid, vs'⟩, e3, e4⟩ := ob_eq e2
      obtain ⟨fn, e8, e9⟩ := ob_eq (show (ob (E.fn.get fid) fun fn => gd fn.body.isSome (some (⟨fid, vs'⟩ : Dfr))) = some d from e4)
      obtain ⟨e10, e11⟩ := gd_eq e9
      cases e11
      obtain ⟨fv, e5, e6⟩ := ob_eq e3
      obtain ⟨first, cap, rfl, e7⟩ := target1_eq e6
      have e7' : vs' = first.toList ++ (vs ++ cap.toList) := e7
      have hargs := opnds_sound (Φ := Φ) (ρ := a.eval) (fun x hx => hρ x (by simp [Op.operands, Call.operands]; exact .inr (by simpa using hx))) e1
      have hfv := hρ f (by simp [Op.operands, Call.operands]) _ e5
      generalize hfe : a.eval f = fv' at hfv
      cases hfv with
      | func _ _ p' _ q' hp hq =>
        have hall : VRs Φ vs' ((p' ++ args.map a.eval) ++ q').toList := by
          rw [e7']
          have := hp.append (hargs.append hq)
          simpa [List.append_assoc] using this
        obtain ⟨c, hc⟩ := Option.isSome_iff_exists.1 e10
        refine ⟨{ target := .fn (.func fid) q', args := p' ++ args.map a.eval }, ?_, ⟨q', rfl, hall⟩, fn, c, hE.fn _ _ e8, hc, hE.rn _ _ e8⟩
        simp [execOp, resolve, hfe, Deferred.ofValue]
    | _ => cases h
  | call k =>
    have h' : rCall k ⟨E, r, tm, s⟩ = .d (some d) := h
    unfold rCall at h'
    split at h'
    · cases h'
    · unfold built at h'
      split at h' <;> cases h'
    · cases h'
  | convert src dst' x =>
    have h' : rConv src dst' x ⟨E, r, tm, s⟩ = .d (some d) := h
    unfold rConv at h'
    split at h'
    · unfold conv at h'
      split at h' <;> cases h'
    · cases h'
  | _ => cases h

theorem op_core {r : Rec} {o : Oper} {fr fr' : AF} {s s' : S} {a : Act} (hE : EOK P E) (hC : CallOK P r) (hr : Rel Φ s w) (hρ : OpsR Φ fr.tm a.eval o.op) (h : doOp E r o fr s = some (fr', s'))
    {next : Act → World → Prop} {Q : Exit → Act → World → Prop}
    (hn : ∀ Φ' w' v' ds, Rel Φ' s' w' → Ext Φ s w Φ' s' w' → (∀ g, FrR P bs Φ fr g → g.defers = a.defers → FrR P bs Φ' fr' (({ g with defers := ds } : Act).put o.dst v')) →
      next (({ a with defers := ds } : Act).put o.dst v') w') : o.wp P a w next Q := by
  obtain ⟨tm, nt, df⟩ := fr
  have h0 : fin o ⟨tm, nt, df⟩ s (ev o.op ⟨E, r, tm, s⟩) = some (fr', s') := h
  have hρ : OpsR Φ tm a.eval o.op := hρ
  unfold Oper.wp
  have same : ∀ (g : Act), g.defers = a.defers → ({ g with defers := a.defers } : Act) = g := fun g e => by cases g; cases e; rfl
  have hn1 : ∀ Φ' w' v', Rel Φ' s' w' → Ext Φ s w Φ' s' w' → (∀ g, FrR P bs Φ ⟨tm, nt, df⟩ g → FrR P bs Φ' fr' (g.put o.dst v')) → next (a.put o.dst v') w' :=
    fun Φ' w' v' h1 h2 h3 => hn Φ' w' v' a.defers h1 h2 fun g hg hd => by rw [same g hd]; exact h3 g hg
  cases hev : ev o.op ⟨E, r, tm, s⟩ with
  | q v =>
    rw [hev] at h0
    obtain ⟨u, h1, h2⟩ := ob_eq (show (ob v fun v => put ⟨tm, nt, df⟩ s v o.dst) = some (fr', s') from h0)
    subst h1
    obtain ⟨v', h3, h4⟩ := q_sound (P := P) hE hev hr.toHRel hρ
    have hs : s' = s := by
      cases hd : o.dst with
      | none => rw [hd] at h2; cases h2; rfl
      | some d => rw [hd] at h2; obtain ⟨_, h6⟩ := gd_eq (show gd (Nat.blt d nt) (some ((⟨Tr.set tm d (some u), nt, df⟩ : AF), s)) = some (fr', s') from h2); cases h6; rfl
    subst hs
    rw [h4, Oper.upon_value]
    exact hn1 Φ w _ hr (Ext.refl _ _ _) fun g hg => (put_sound h2 hg h3).2
  | a v =>
    rw [hev] at h0
    obtain ⟨⟨u, B⟩, h1, h2⟩ := ob_eq (show (ob v (pr fun v b => put ⟨tm, nt, df⟩ (newB s b) v o.dst)) = some (fr', s') from h0)
    subst h1
    have h2' : put ⟨tm, nt, df⟩ (newB s B) u o.dst = some (fr', s') := h2
    obtain ⟨v', obj, d, sz, h3, h4, h5⟩ := a_sound (P := P) hE hev hr.toHRel hρ
    obtain ⟨h6, h7⟩ := h5 (Φ.add s.nx ⟨w.heap.size, 0, sz⟩) (Ren.le_add hr.dom _) (Ren.add_same _ _ _)
    obtain ⟨r1, r2⟩ := hr.new (w' := pushW w obj d) B ⟨w.heap.size, 0, sz⟩ (Nat.le_refl _) (by rw [pushW_size]; omega) (fun β hβ => pushW_other hβ) (by rw [pushW_same]; exact h7)
      (fun p hp => by rw [h4] at hp; cases hp) rfl rfl rfl
    have hs : s' = newB s B := by
      cases hd : o.dst with
      | none => rw [hd] at h2'; cases h2'; rfl
      | some d => rw [hd] at h2'; obtain ⟨_, h6⟩ := gd_eq (show gd (Nat.blt d nt) (some ((⟨Tr.set tm d (some u), nt, df⟩ : AF), newB s B)) = some (fr', s') from h2'); cases h6; rfl
    subst hs
    rw [h3, Oper.upon_value]
    exact hn1 _ _ _ r1 r2 fun g hg => (put_sound h2' (hg.mono (Ren.le_add hr.dom _)) h6).2
  | e v =>
    rw [hev] at h0
    obtain ⟨⟨u, s1⟩, h1, h2⟩ := ob_eq (show (ob v (pr fun v s => put ⟨tm, nt, df⟩ s v o.dst)) = some (fr', s') from h0)
    subst h1
    have h2' : put ⟨tm, nt, df⟩ s1 u o.dst = some (fr', s') := h2
    have hs : s' = s1 := by
      cases hd : o.dst with
      | none => rw [hd] at h2'; cases h2'; rfl
      | some d => rw [hd] at h2'; obtain ⟨_, h6⟩ := gd_eq (show gd (Nat.blt d nt) (some ((⟨Tr.set tm d (some u), nt, df⟩ : AF), s1)) = some (fr', s') from h2'); cases h6; rfl
    subst hs
    by_cases hc : isCallV o.op
    · obtain ⟨dst, op, type, pos, after, guard⟩ := o
      cases op with
      | call k =>
        obtain ⟨callee, args, ts⟩ := k
        cases callee with
        | value f =>
          have hev' : (ob (opnds tm args.toList) fun args => eCall ⟨E, r, tm, s⟩ f args) = some (u, s') := by injection hev
          obtain ⟨vs, e1, e2⟩ := ob_eq hev'
          obtain ⟨⟨fid, vs'⟩, e3, e4⟩ := ob_eq e2
          have e4' : r.cl fid vs' s = some (u, s') := e4
          obtain ⟨fv, e5, e6⟩ := ob_eq e3
          obtain ⟨first, cap, rfl, e7⟩ := target1_eq e6
          have e7' : vs' = first.toList ++ (vs ++ cap.toList) := e7
          have hargs := opnds_sound (Φ := Φ) (ρ := a.eval) (fun x hx => hρ x (by simp [Op.operands, Call.operands]; exact .inr (by simpa using hx))) e1
          have hfv := hρ f (by simp [Op.operands, Call.operands]) _ e5
          generalize hfe : a.eval f = fv' at hfv
          cases hfv with
          | func _ _ p' _ q' hp hq =>
            have hall : VRs Φ vs' ((p' ++ args.map a.eval) ++ q').toList := by
              rw [e7']
              have := hp.append (hargs.append hq)
              simpa [List.append_assoc] using this
            have hrun : (execOp a.eval ⟨dst, .call ⟨.value f, args, ts⟩, type, pos, after, guard⟩).run P w = (callFunc fid ((p' ++ args.map a.eval) ++ q')).run P w := by
              simp [execOp, resolve, hfe, Deferred.ofValue, invoke]
            rw [hrun]
            rcases hC fid vs' _ s u s' Φ w e4' hr hall with ⟨g1, g2, _⟩ | ⟨v', g1, Φ', g2, g3, g4⟩
            · rw [g1, Oper.upon_enter]
              refine g2.mono fun e w' => ?_
              rintro ⟨v', rfl, Φ', g3, g4, g5⟩
              exact hn1 _ _ _ g4 g5 fun g hg => (put_sound h2' (hg.mono (g5.le hr.dom)) g3).2
            · rw [g1, Oper.upon_value]
              exact hn1 _ _ _ g3 g4 fun g hg => (put_sound h2' (hg.mono (g4.le hr.dom)) g2).2
        | _ => exact hc.elim
      | _ => exact hc.elim
    · obtain ⟨v', w', Φ', g1, g2, g3, g4⟩ := e_sound (P := P) hE hc hev hr hρ
      have := hn1 Φ' w' v' g3 g4 fun g hg => (put_sound h2' (hg.mono (g4.le hr.dom)) g2).2
      rcases g1 with g1 | ⟨g1, rfl⟩
      · rw [g1, Oper.upon_value]; exact this
      · rw [g1, Oper.upon_skip]; exact this
  | d v =>
    rw [hev] at h0
    obtain ⟨d, h1, h2⟩ := ob_eq (show (ob v fun d => put (addDf d ⟨tm, nt, df⟩) s undefV o.dst) = some (fr', s') from h0)
    subst h1
    obtain ⟨d', g1, g2⟩ := d_core (P := P) (w := w) hE hev hρ
    have hs : s' = s := by
      cases hd : o.dst with
      | none => rw [hd] at h2; cases h2; rfl
      | some k => rw [hd] at h2; obtain ⟨_, h6⟩ := gd_eq (show gd (Nat.blt k nt) (some ((⟨Tr.set tm k (some undefV), nt, d :: df⟩ : AF), s)) = some (fr', s') from h2); cases h6; rfl
    subst hs
    rw [g1, Oper.upon_defer]
    refine hn Φ w undef (d' :: a.defers) hr (Ext.refl _ _ _) fun g hg hd => ?_
    have hf2 : FrR P bs Φ (addDf d ⟨tm, nt, df⟩) { g with defers := d' :: a.defers } := ⟨hg.tm, hg.nt, .cons _ _ _ _ g2 (hd ▸ hg.df)⟩
    exact (put_sound h2 hf2 VR.undef).2

/-! what a relation needs -/
mutual
theorem VR.restrict {Ω Ψ Χ : Ren} (hx : ∀ b l, Ψ b = some l → Χ b = Ω b) : ∀ {v v' v'' : Value}, VR Ω v v' → VR Ψ v v'' → VR Χ v v'
  | _, _, _, .bool b, _ => .bool b
  | _, _, _, .int k n, _ => .int k n
  | _, _, _, .str s, _ => .str s
  | _, _, _, .nilp, _ => .nilp
  | _, _, _, .ptr b o l h, .ptr _ _ l' h' => .ptr b o l (by rw [hx b l' h']; exact h)
  | _, _, _, .nils n c, _ => .nils n c
  | _, _, _, .sl b o n c l h, .sl _ _ _ _ l' h' => .sl b o n c l (by rw [hx b l' h']; exact h)
  | _, _, _, .slo b o n c c' z l h hc hs, .slo _ _ _ _ _ _ l' h' _ _ => .slo b o n c c' z l (by rw [hx b l' h']; exact h) hc hs
  | _, _, _, .sle b o c' a, _ => .sle b o c' a
  | _, _, _, .nilm, _ => .nilm
  | _, _, _, .map r l h, .map _ l' h' => .map r l (by rw [hx r l' h']; exact h)
  | _, _, _, .func fn p p' q q' hp hq, .func _ _ _ _ _ hp' hq' => .func fn p p' q q' (VRs.restrict hx hp hp') (VRs.restrict hx hq hq')
  | _, _, _, .func _ _ p' _ q' hp hq, .yld _ => .func _ _ p' _ q' (by rw [show p'.toList = [] from VRs.nil_inv hp]; exact .nil) (by rw [show q'.toList = [] from VRs.nil_inv hq]; exact .nil)
  | _, _, _, .yld l, .func _ _ _ _ _ _ _ => .yld l
  | _, _, _, .yld l, .yld _ => .yld l
  | _, _, _, .nilf, _ => .nilf
  | _, _, _, .nili, _ => .nili
  | _, _, _, .ifc t v v' h, .ifc _ _ _ h' => .ifc t v v' (VR.restrict hx h h')
  | _, _, _, .agg c c' h, .agg _ _ h' => .agg c c' (VRs.restrict hx h h')
  | _, _, _, .tup c c' h, .tup _ _ h' => .tup c c' (VRs.restrict hx h h')
  | _, _, _, .sy i c v' h, .sy _ _ _ h' => .sy i c v' (h.restrict hx h')
theorem VRs.restrict {Ω Ψ Χ : Ren} (hx : ∀ b l, Ψ b = some l → Χ b = Ω b) : ∀ {l l' l'' : List Value}, VRs Ω l l' → VRs Ψ l l'' → VRs Χ l l'
  | _, _, _, .nil, _ => .nil
  | _, _, _, .cons v v' l l' h hl, .cons _ _ _ _ h' hl' => .cons v v' l l' (VR.restrict hx h h') (VRs.restrict hx hl hl')
end
theorem ERs.restrict {Ω Ψ Χ : Ren} (hx : ∀ b l, Ψ b = some l → Χ b = Ω b) : ∀ {l l' l'' : List MapEntry}, ERs Ω l l' → ERs Ψ l l'' → ERs Χ l l'
  | _, _, _, .nil, _ => .nil
  | _, _, _, .cons e e' l l' h hl, .cons _ _ _ _ h' hl' => .cons e e' l l' ⟨h.1.restrict hx h'.1, h.2.1.restrict hx h'.2.1, h.2.2⟩ (ERs.restrict hx hl hl')
theorem EUs.vals {Ψ : Ren} : ∀ {L l' : List MapEntry}, EUs Ψ L l' → ∀ e ∈ L, (∃ u, VR Ψ e.key u) ∧ ∃ u, VR Ψ e.val u
  | _, _, .cons e e' L l' h hl, x, hx => by
    rcases List.mem_cons.1 hx with rfl | hx
    · exact ⟨⟨_, h.1⟩, _, h.2⟩
    · exact EUs.vals hl x hx
theorem EUs.restrict' {Ω Ψ Χ : Ren} (hx : ∀ b l, Ψ b = some l → Χ b = Ω b) : ∀ {L l' : List MapEntry}, EUs Ω L l' → (∀ e ∈ L, (∃ u, VR Ψ e.key u) ∧ ∃ u, VR Ψ e.val u) → EUs Χ L l'
  | _, _, .nil, _ => .nil
  | _, _, .cons e e' L l' h hl, hm => by
    obtain ⟨⟨u, h1⟩, u', h2⟩ := hm e (List.mem_cons_self ..)
    exact .cons _ _ _ _ ⟨h.1.restrict hx h1, h.2.restrict hx h2⟩ (EUs.restrict' hx hl fun x hx' => hm x (List.mem_cons_of_mem _ hx'))
theorem FzR.restrict {Ω Ψ Χ : Ren} (hx : ∀ b l, Ψ b = some l → Χ b = Ω b) {fz : Option (Nat × Nat)} {b n b' n' : Nat} {f f' : Nat × Nat} (h : FzR Ω fz b n f) (h' : FzR Ψ fz b' n' f') : FzR Χ fz b n f := by
  cases fz with
  | none => exact h
  | some p =>
    simp only [FzR] at h h' ⊢
    by_cases h1 : p.1 < p.2
    · rw [if_pos h1] at h ⊢; exact h
    · rw [if_neg h1] at h h' ⊢
      by_cases h2 : p.2 < p.1
      · rw [if_pos h2] at h h' ⊢
        obtain ⟨l1, l2, q1, q2, q3⟩ := h
        obtain ⟨m1, m2, r1, r2, _⟩ := h'
        exact ⟨l1, l2, (hx _ _ r1).trans q1, (hx _ _ r2).trans q2, q3⟩
      · rw [if_neg h2] at h ⊢; exact h
theorem BR.restrict {Ω Ψ Χ : Ren} (hx : ∀ b l, Ψ b = some l → Χ b = Ω b) {B : AB} {l l' : Loc} {o o' : Option Obj} (h : BR Ω B l o) (h' : BR Ψ B l' o') : BR Χ B l o := by
  cases B with
  | cells k =>
    obtain ⟨c, f, h1, h2, h3, h4, h5, h6⟩ := h
    obtain ⟨c', f', _, _, _, g4, g5, _⟩ := h'
    refine ⟨c, f, h1, h2, h3, fun i v hv => ?_, h5.restrict hx g5, h6⟩
    obtain ⟨v', a1, a2⟩ := h4 i v hv
    obtain ⟨v'', _, b2⟩ := g4 i v hv
    exact ⟨v', a1, a2.restrict hx b2⟩
  | map es clock =>
    obtain ⟨es', h1, h2⟩ := h
    obtain ⟨es'', _, g2⟩ := h'
    exact ⟨es', h1, h2.restrict hx g2⟩
  | mapu es =>
    obtain ⟨es', clock, L, h1, h2, h3⟩ := h
    obtain ⟨es'', clock', L', g1, g2, g3⟩ := h'
    refine ⟨es', clock, L, h1, h2, h3.restrict' hx fun e he => ?_⟩
    have hm : e ∈ L' := g2.mem_iff.2 (h2.mem_iff.1 he)
    exact g3.vals e hm
  | sit x pos => exact h
  | mit m since =>
    obtain ⟨h0, m', h1, h2⟩ := h
    obtain ⟨_, m'', _, g2⟩ := h'
    refine ⟨h0, m', h1, ?_⟩
    cases m with
    | none => exact h2
    | some r =>
      obtain ⟨l1, e1, e2⟩ := h2
      obtain ⟨l2, e3, _⟩ := g2
      exact ⟨l1, by rw [hx r l2 e3]; exact e1, e2⟩
end
end Go.Ev

/-! Regions that draw their order, 2: the walk. -/
namespace Go.Ev
open Go Go.Lib
set_option linter.unusedSimpArgs false
set_option linter.unusedVariables false

/-! equal values -/
theorem spEq_eq {a b : Option Nat} (h : spEq a b = true) : a = b := by
  unfold spEq at h; split at h
  · rfl
  · rw [beq_nat] at h; rw [h]
  · cases h
theorem aEq_eq {a b : Addr} (h : aEq a b = true) : a = b := by
  simp only [aEq, band_eq, Bool.and_eq_true, beq_nat] at h
  obtain ⟨h1, h2, h3⟩ := h
  cases a; cases b; simp only at h1 h2 h3
  rw [h1, h2, spEq_eq h3]
theorem oEq_eq {a b : Option Addr} (h : oEq a b = true) : a = b := by
  unfold oEq at h; split at h
  · rfl
  · rw [aEq_eq h]
  · cases h
theorem veq1_eq {x y : Value} (h : veq1 x y = true) : x = y := by
  unfold veq1 at h; split at h
  · rename_i a b; rw [bi_eq] at h; cases a <;> cases b <;> simp_all
  · simp only [band_eq, Bool.and_eq_true] at h
    obtain ⟨h1, h2⟩ := h
    rw [iEq_eq] at h2
    rw [kEq_eq.1 h1, eq_of_beq h2]
  · rename_i a b
    rw [sEq_eq] at h
    have e1 := beq_iff_eq.1 h
    have : a = b := by apply ByteArray.ext; exact Array.toList_inj.1 e1
    rw [this]
  · rw [oEq_eq h]
  · simp only [band_eq, Bool.and_eq_true, beq_nat] at h
    obtain ⟨h1, h2, h3⟩ := h
    rw [oEq_eq h1, h2, h3]
  · rw [beq_nat] at h; rw [h]
  · rfl
  · rfl
  · rfl
  · rw [band_eq, Bool.and_eq_true, beq_nat, beq_nat] at h; rw [h.1, h.2]
  · cases h
theorem veqL_eq : ∀ {x y : List Value}, veqL x y = true → x = y := by
  intro x
  induction x with
  | nil => intro y h; cases y with | nil => rfl | cons => cases h
  | cons a x ih =>
    intro y h
    cases y with
    | nil => cases h
    | cons b y =>
      have h' : band (veq1 a b) (veqL x y) = true := h
      rw [band_eq, Bool.and_eq_true] at h'
      rw [veq1_eq h'.1, ih h'.2]
theorem veq2_eq {x y : Value} (h : veq2 x y = true) : x = y := by
  unfold veq2 at h; split at h
  · rw [Array.toList_inj.1 (veqL_eq h)]
  · simp only [band_eq, Bool.and_eq_true, beq_nat] at h
    obtain ⟨h1, h2, h3⟩ := h
    rw [h1, Array.toList_inj.1 (veqL_eq h2), Array.toList_inj.1 (veqL_eq h3)]
  · exact veq1_eq h
theorem veq_eq {x y : Value} (h : veq x y = true) : x = y := by
  unfold veq at h; split at h
  · rename_i a b
    split at h
    · rename_i v u v' u' e1 e2
      rw [band_eq, Bool.and_eq_true] at h
      rw [veq2_eq h.1, veq2_eq h.2] at e1
      congr 1
      exact Array.toList_inj.1 (e1.trans e2.symm)
    · cases h
  · exact veq2_eq h

/-! what hangs on the heap -/
theorem heapFree_ev {E : Env} {r : Rec} {op : Op} {tm : Tr Value} {s s' : S} (h : heapFree op = true) : ev op ⟨E, r, tm, s⟩ = ev op ⟨E, r, tm, s'⟩ := by
  cases op with
  | call k =>
    obtain ⟨callee, args, ts⟩ := k
    cases callee with
    | builtin b => cases b <;> first | (exact Bool.noConfusion h) | rfl
    | _ => exact Bool.noConfusion h
  | _ => first | (exact Bool.noConfusion h) | rfl
theorem conv_alloc {c : C} {x : Operand} {sk dk : TypeDesc} {v : Option (Value × AB)} (h : conv c x sk dk = .a v) : sk = .string ∧ ∃ el, dk = .slice el ∧ v = op1 c x (aConv c el) := by
  unfold conv at h
  split at h
  · injection h with h; exact ⟨rfl, _, rfl, h.symm⟩
  · cases h
theorem rConv_alloc {c : C} {src dst : TypeId} {x : Operand} {v : Option (Value × AB)} (h : rConv src dst x c = .a v) :
    ∃ si di el, c.E.ty.get src = some si ∧ c.E.ty.get dst = some di ∧ si.kd = .string ∧ di.kd = .slice el ∧ v = op1 c x (aConv c el) := by
  unfold rConv at h
  split at h
  · rename_i si di h1 h2
    obtain ⟨e1, el, e2, e3⟩ := conv_alloc h
    exact ⟨si, di, el, h1, h2, e1, e2, e3⟩
  · cases h
theorem rConv_of {c : C} {src dst : TypeId} {x : Operand} {si di : TI} {el : TypeId} (h1 : c.E.ty.get src = some si) (h2 : c.E.ty.get dst = some di) (h3 : si.kd = .string) (h4 : di.kd = .slice el) :
    rConv src dst x c = .a (op1 c x (aConv c el)) := by
  unfold rConv
  rw [h1, h2]
  show conv c x si.kd di.kd = _
  rw [h3, h4]; rfl
theorem alloc_ev {E : Env} {r : Rec} {op : Op} {tm : Tr Value} {h h' : Tr AB} {n : Nat} {v : Option (Value × AB)} (hl : loud op = false) (he : ev op ⟨E, r, tm, ⟨h, n⟩⟩ = .a v) :
    ev op ⟨E, r, tm, ⟨h', n⟩⟩ = .a v := by
  cases op with
  | convert src dst x =>
    have he' : rConv src dst x ⟨E, r, tm, ⟨h, n⟩⟩ = .a v := he
    obtain ⟨si, di, el, e1, e2, e3, e4, e5⟩ := rConv_alloc he'
    have := rConv_of (c := ⟨E, r, tm, ⟨h', n⟩⟩) (x := x) e1 e2 e3 e4
    rw [e5]
    exact this
  | call k =>
    have he' : rCall k ⟨E, r, tm, ⟨h, n⟩⟩ = .a v := he
    unfold rCall at he'
    split at he'
    · cases he'
    · unfold built at he'
      split at he' <;> cases he'
    · cases he'
  | defer k =>
    have he' : rDefer k ⟨E, r, tm, ⟨h, n⟩⟩ = .a v := he
    unfold rDefer at he'
    split at he' <;> cases he'
  | range t x => cases hl
  | insert t m k v => cases he
  | alloc el => exact he
  | box el x => exact he
  | buildSlice t l p => exact he
  | makeMap t x => exact he
  | makeSlice t l k => exact he
  | _ => cases he

/-! frames -/
theorem put_eq {fr fr' : AF} {s s' : S} {v : Value} {dst : Option Tmp} (h : put fr s v dst = some (fr', s')) :
    s' = s ∧ fr'.nt = fr.nt ∧ fr'.df = fr.df ∧ (∀ τ, dst ≠ some τ → fr'.tm.get τ = fr.tm.get τ) ∧ (∀ d, dst = some d → d < fr.nt ∧ fr'.tm.get d = some v) := by
  cases dst with
  | none => cases h; exact ⟨rfl, rfl, rfl, fun _ _ => rfl, fun d e => by cases e⟩
  | some d =>
    cases fr with
    | mk tm nt df =>
      obtain ⟨h1, h2⟩ := gd_eq (show gd (Nat.blt d nt) (some ((⟨Tr.set tm d (some v), nt, df⟩ : AF), s)) = some (fr', s') from h)
      cases h2
      rw [blt_nat] at h1
      refine ⟨rfl, rfl, rfl, fun τ e => get_set_other _ _ (fun e' => e (by rw [e'])), fun d' e => ?_⟩
      cases e
      exact ⟨h1, get_set_same _ _ _⟩
theorem doOp_eq {E : Env} {r : Rec} {o : Oper} {fr fr' : AF} {s s' : S} (h : doOp E r o fr s = some (fr', s')) : fr'.nt = fr.nt ∧ (∀ τ, o.dst ≠ some τ → fr'.tm.get τ = fr.tm.get τ) := by
  obtain ⟨tm, nt, df⟩ := fr
  have h0 : fin o ⟨tm, nt, df⟩ s (ev o.op ⟨E, r, tm, s⟩) = some (fr', s') := h
  cases hev : ev o.op ⟨E, r, tm, s⟩ with
  | q v =>
    rw [hev] at h0
    obtain ⟨u, h1, h2⟩ := ob_eq (show (ob v fun v => put ⟨tm, nt, df⟩ s v o.dst) = some (fr', s') from h0)
    obtain ⟨_, g1, _, g2, _⟩ := put_eq h2
    exact ⟨g1, g2⟩
  | a v =>
    rw [hev] at h0
    obtain ⟨⟨u, B⟩, h1, h2⟩ := ob_eq (show (ob v (pr fun v b => put ⟨tm, nt, df⟩ (newB s b) v o.dst)) = some (fr', s') from h0)
    obtain ⟨_, g1, _, g2, _⟩ := put_eq (show put ⟨tm, nt, df⟩ (newB s B) u o.dst = some (fr', s') from h2)
    exact ⟨g1, g2⟩
  | e v =>
    rw [hev] at h0
    obtain ⟨⟨u, s1⟩, h1, h2⟩ := ob_eq (show (ob v (pr fun v s => put ⟨tm, nt, df⟩ s v o.dst)) = some (fr', s') from h0)
    obtain ⟨_, g1, _, g2, _⟩ := put_eq (show put ⟨tm, nt, df⟩ s1 u o.dst = some (fr', s') from h2)
    exact ⟨g1, g2⟩
  | d v =>
    rw [hev] at h0
    obtain ⟨d, h1, h2⟩ := ob_eq (show (ob v fun d => put (addDf d ⟨tm, nt, df⟩) s undefV o.dst) = some (fr', s') from h0)
    obtain ⟨_, g1, _, g2, _⟩ := put_eq h2
    exact ⟨g1, g2⟩

/-! bits -/
theorem mark_bit (dn i x : Nat) : (mark dn i).testBit x = (dn.testBit x || decide (x = i)) := by
  unfold mark
  rw [Nat.testBit_or, Nat.testBit_two_pow]
  congr 1
  exact decide_eq_decide.2 eq_comm
theorem land_bit {b dn : Nat} (h : Nat.land b dn = b) {x : Nat} (hx : b.testBit x = true) : dn.testBit x = true := by
  have : (b &&& dn).testBit x = true := by rw [show b &&& dn = Nat.land b dn from rfl, h]; exact hx
  rw [Nat.testBit_and, Bool.and_eq_true] at this
  exact this.2

/-! one step of the walk -/
inductive StepF (E : Env) (r : Rec) (all : List Oper) (mask : Nat) (d : DO) (V V' : W) : Prop
  | skip (hl : loud d.o.op = false) (hi : isIns d.o.op = false) (hw : want all V.fr d.o = some false) (hp : put V.fr V.s undefV d.o.dst = some (V'.fr, V'.s)) (ho : V'.old = V.old) (hm : V'.mu = V.mu)
  | quiet (hl : loud d.o.op = false) (hi : isIns d.o.op = false) (hw : want all V.fr d.o = some true) (v : Value) (he : ev d.o.op ⟨E, r, V.fr.tm, addMu (rMu mask d V.mu) (base V.old V.s)⟩ = .q (some v))
      (hs : heapFree d.o.op = true ∨ stable E r d (rMu mask d V.mu) V.fr.tm v V.old = true) (hp : put V.fr V.s v d.o.dst = some (V'.fr, V'.s)) (ho : V'.old = V.old) (hm : V'.mu = V.mu)
  | alloc (hl : loud d.o.op = false) (hi : isIns d.o.op = false) (hw : want all V.fr d.o = some true) (v : Value) (B : AB) (he : ev d.o.op ⟨E, r, V.fr.tm, V.s⟩ = .a (some (v, B)))
      (hp : put V.fr (newB V.s B) v d.o.dst = some (V'.fr, V'.s)) (ho : V'.old = V.old) (hm : V'.mu = V.mu)
  | made (hl : loud d.o.op = false) (hi : isIns d.o.op = false) (hw : want all V.fr d.o = some true) (v : Value) (B : AB) (he : ev d.o.op ⟨E, r, V.fr.tm, V.s⟩ = .a (some (v, B))) (hk : isMk d.o.op = true)
      (hno : V.mu = .no) (hp : put V.fr (skipB V.s) v d.o.dst = some (V'.fr, V'.s)) (ho : V'.old = V.old) (hm : V'.mu = .op V.s.nx [])
  | ins (hl : loud d.o.op = false) (hi : isIns d.o.op = true) (id : Nat) (es : List MapEntry) (e : MapEntry) (hmu : V.mu = .op id es) (hd : d.o.dst = none) (hg : d.o.guard = none) (he : insV E d.o.op V.fr.tm id es = some e)
      (hf : V'.fr = V.fr) (ho : V'.old = V.old) (hc : (V'.s = sealS V.s id (es ++ [e]) ∧ V'.mu = .se id (es ++ [e])) ∨ (V'.s = V.s ∧ V'.mu = .op id (es ++ [e])))
  | loud (hl : loud d.o.op = true) (hi : isIns d.o.op = false) (wb : Bool) (hw : want all V.fr d.o = some wb) (hb : V.dn = d.b)
      (hd : bi wb (doOp E r d.o V.fr V.s) (put V.fr V.s undefV d.o.dst) = some (V'.fr, V'.s)) (hn : V.s.nx ≤ V'.s.nx) (ho : V'.old = (d.i, V'.s) :: V.old) (hm : V'.mu = closeMu V.mu)
structure StepC (E : Env) (r : Rec) (all : List Oper) (mask : Nat) (d : DO) (V V' : W) : Prop where
  step : StepF E r all mask d V V'
  dn : V'.dn = mark V.dn d.i
  pre : ∀ x, d.b.testBit x = true → V.dn.testBit x = true
  new : V.dn.testBit d.i = false

theorem isIns_quiet {op : Op} (h : isIns op = true) : loud op = false := by
  cases op <;> first | rfl | exact Bool.noConfusion h
theorem addMu_nx (mu : Mu) (s : S) : (addMu mu s).nx = s.nx := by cases mu <;> rfl
theorem isNo_eq {mu : Mu} (h : isNo mu = true) : mu = .no := by cases mu <;> first | rfl | exact Bool.noConfusion h
theorem walk1_eq {E : Env} {r : Rec} {all : List Oper} {cnt mask : Nat} {d : DO} {W0 W' : W} (h : walk1 E r all cnt mask d W0.dn W0.old W0.fr W0.s W0.mu = some W') : StepC E r all mask d W0 W' := by
  obtain ⟨dn, old, fr, s, mu⟩ := W0
  obtain ⟨h1, h2⟩ := gd_eq h
  simp only [band_eq, bnot_eq, Bool.and_eq_true, Bool.not_eq_true', beq_nat] at h1
  obtain ⟨h3, h4⟩ := h1
  cases hi : isIns d.o.op with
  | true =>
    rw [hi] at h2
    have h5 : ins1 E cnt d dn old fr s mu = some W' := h2
    cases mu with
    | no => cases h5
    | se id es => cases h5
    | cl => cases h5
    | op id es =>
      obtain ⟨h6, h7⟩ := gd_eq (show gd (band d.o.dst.isNone d.o.guard.isNone) (ob (insV E d.o.op fr.tm id es) fun e => ins2 cnt d dn old fr s id (es ++ [e])) = some W' from h5)
      rw [band_eq, Bool.and_eq_true, Option.isNone_iff_eq_none, Option.isNone_iff_eq_none] at h6
      obtain ⟨e, h8, h9⟩ := ob_eq h7
      have h10 : some (bi (Nat.beq (es ++ [e]).length cnt) (⟨mark dn d.i, old, fr, sealS s id (es ++ [e]), .se id (es ++ [e])⟩ : W) ⟨mark dn d.i, old, fr, s, .op id (es ++ [e])⟩) = some W' := h9
      rw [bi_eq] at h10
      by_cases hc : Nat.beq (es ++ [e]).length cnt = true
      · rw [if_pos hc] at h10
        cases h10
        exact ⟨.ins (isIns_quiet hi) hi id es e rfl h6.1 h6.2 h8 rfl rfl (.inl ⟨rfl, rfl⟩), rfl, fun x hx => land_bit h3 hx, h4⟩
      · rw [if_neg hc] at h10
        cases h10
        exact ⟨.ins (isIns_quiet hi) hi id es e rfl h6.1 h6.2 h8 rfl rfl (.inr ⟨rfl, rfl⟩), rfl, fun x hx => land_bit h3 hx, h4⟩
  | false =>
  rw [hi] at h2
  obtain ⟨wb, h5, h6⟩ := ob_eq (show (ob (want all fr d.o) (bi (loud d.o.op) (loud1 E r d dn old fr s mu) (light1 E r mask d dn old fr s mu))) = some W' from h2)
  cases hl : loud d.o.op with
  | true =>
    rw [hl] at h6
    obtain ⟨h7, h8⟩ := gd_eq (show gd (Nat.beq dn d.b) (ob (bi wb (doOp E r d.o fr s) (put fr s undefV d.o.dst)) (pr (loud2 d dn old s.nx mu))) = some W' from h6)
    obtain ⟨⟨fr1, s1⟩, h9, h10⟩ := ob_eq h8
    obtain ⟨h11, h12⟩ := gd_eq (show gd (Nat.ble s.nx s1.nx) (some ⟨mark dn d.i, (d.i, s1) :: old, fr1, s1, closeMu mu⟩) = some W' from h10)
    cases h12
    rw [beq_nat] at h7
    rw [ble_nat] at h11
    exact ⟨.loud hl hi wb h5 h7 h9 h11 rfl rfl, rfl, fun x hx => land_bit h3 hx, h4⟩
  | false =>
    rw [hl] at h6
    have h6' : bi wb (light2 E r mask d dn old fr s mu) (skip1 d dn old fr s mu) = some W' := h6
    rw [bi_eq] at h6'
    cases wb with
    | false =>
      obtain ⟨⟨fr1, s1⟩, h9, h10⟩ := ob_eq (show (ob (put fr s undefV d.o.dst) (pr fun fr s => some ⟨mark dn d.i, old, fr, s, mu⟩)) = some W' from h6')
      cases h10
      exact ⟨.skip hl hi h5 h9 rfl rfl, rfl, fun x hx => land_bit h3 hx, h4⟩
    | true =>
      have h7 : light2 E r mask d dn old fr s mu = some W' := h6'
      unfold light2 at h7
      cases hev : ev d.o.op ⟨E, r, fr.tm, addMu (rMu mask d mu) s⟩ with
      | q v0 =>
        rw [hev] at h7
        have h8 : lightQ E r d dn old fr s mu (rMu mask d mu) (ev d.o.op ⟨E, r, fr.tm, addMu (rMu mask d mu) (base old s)⟩) = some W' := h7
        cases hevb : ev d.o.op ⟨E, r, fr.tm, addMu (rMu mask d mu) (base old s)⟩ with
        | q v =>
          rw [hevb] at h8
          obtain ⟨v, rfl, h9⟩ := ob_eq (show (ob v fun v => gd (bor (heapFree d.o.op) (stable E r d (rMu mask d mu) fr.tm v old)) (ob (put fr s v d.o.dst) (pr fun fr s => some (⟨mark dn d.i, old, fr, s, mu⟩ : W)))) = some W' from h8)
          obtain ⟨h10, h11⟩ := gd_eq h9
          obtain ⟨⟨fr1, s1⟩, h12, h13⟩ := ob_eq h11
          cases h13
          rw [bor_eq, Bool.or_eq_true] at h10
          exact ⟨.quiet hl hi h5 v hevb h10 h12 rfl rfl, rfl, fun x hx => land_bit h3 hx, h4⟩
        | a v => rw [hevb] at h8; cases h8
        | e v => rw [hevb] at h8; cases h8
        | d v => rw [hevb] at h8; cases h8
      | a v =>
        rw [hev] at h7
        have h8 : lightA mask d dn old fr s mu v = some W' := h7
        have hev' : ev d.o.op ⟨E, r, fr.tm, s⟩ = .a v := by
          have e1 : addMu (rMu mask d mu) s = ⟨(addMu (rMu mask d mu) s).h, s.nx⟩ := by
            have := addMu_nx (rMu mask d mu) s
            rw [← this]
          rw [e1] at hev
          exact alloc_ev (h' := s.h) hl hev
        unfold lightA at h8
        rw [bi_eq] at h8
        by_cases hk : band (bnot (Nat.beq mask 0)) (isMk d.o.op) = true
        · rw [if_pos hk] at h8
          rw [band_eq, Bool.and_eq_true] at hk
          obtain ⟨h9, h10⟩ := gd_eq (show gd (isNo mu) (ob v (pr fun v _ => ob (put fr (skipB s) v d.o.dst) (pr fun fr s' => some (⟨mark dn d.i, old, fr, s', .op s.nx []⟩ : W)))) = some W' from h8)
          obtain ⟨⟨v, B⟩, rfl, h11⟩ := ob_eq h10
          obtain ⟨⟨fr1, s1⟩, h12, h13⟩ := ob_eq (show (ob (put fr (skipB s) v d.o.dst) (pr fun fr s' => some (⟨mark dn d.i, old, fr, s', .op s.nx []⟩ : W))) = some W' from h11)
          cases h13
          exact ⟨.made hl hi h5 v B hev' hk.2 (isNo_eq h9) h12 rfl rfl, rfl, fun x hx => land_bit h3 hx, h4⟩
        · rw [if_neg hk] at h8
          obtain ⟨⟨v, B⟩, rfl, h9⟩ := ob_eq (show (ob v (pr fun v b => ob (put fr (newB s b) v d.o.dst) (pr fun fr s => some (⟨mark dn d.i, old, fr, s, mu⟩ : W)))) = some W' from h8)
          obtain ⟨⟨fr1, s1⟩, h12, h13⟩ := ob_eq (show (ob (put fr (newB s B) v d.o.dst) (pr fun fr s => some (⟨mark dn d.i, old, fr, s, mu⟩ : W))) = some W' from h9)
          cases h13
          exact ⟨.alloc hl hi h5 v B hev' h12 rfl rfl, rfl, fun x hx => land_bit h3 hx, h4⟩
      | e v => rw [hev] at h7; cases h7
      | d v => rw [hev] at h7; cases h7

theorem walk_nil (E : Env) (r : Rec) (all : List Oper) (cnt mask : Nat) (ds : List DO) (w : W) : walk E r all cnt mask ds [] w = some w := rfl
theorem walk_cons (E : Env) (r : Rec) (all : List Oper) (cnt mask : Nat) (ds : List DO) (i : Nat) (l : List Nat) (w : W) : walk E r all cnt mask ds (i :: l) w = ob (nth ds i) fun d => ob (walk1 E r all cnt mask d w.dn w.old w.fr w.s w.mu) (walk E r all cnt mask ds l) := by
  cases w; rfl
/-- the states of a walk -/
theorem walk_trace {E : Env} {r : Rec} {all : List Oper} {cnt mask : Nat} {ds : List DO} : ∀ (l : List Nat) (W0 Wf : W), walk E r all cnt mask ds l W0 = some Wf →
    ∃ st : Nat → W, st 0 = W0 ∧ st l.length = Wf ∧ ∀ q i, l[q]? = some i → ∃ d, nth ds i = some d ∧ StepC E r all mask d (st q) (st (q + 1)) := by
  intro l
  induction l with
  | nil => intro W0 Wf h; cases h; exact ⟨fun _ => W0, rfl, rfl, fun q i hq => by simp at hq⟩
  | cons i l ih =>
    intro W0 Wf h
    rw [walk_cons] at h
    obtain ⟨d, h1, h2⟩ := ob_eq h
    obtain ⟨W1, h3, h4⟩ := ob_eq h2
    obtain ⟨st, g1, g2, g3⟩ := ih W1 Wf h4
    refine ⟨fun q => Nat.casesOn (motive := fun _ => W) q W0 st, rfl, g2, fun q j hq => ?_⟩
    cases q with
    | zero =>
      cases hq
      exact ⟨d, h1, by show StepC E r all mask d W0 (st 0); rw [g1]; exact walk1_eq h3⟩
    | succ q => exact g3 q j (by simpa using hq)
/-- all that is put in is in the mask -/
theorem insMask_bit : ∀ (ds : List DO) (d : DO), d ∈ ds → isIns d.o.op = true → (insMask ds).testBit d.i = true := by
  intro ds
  induction ds with
  | nil => intro d h; cases h
  | cons x ds ih =>
    intro d h hi
    have e : insMask (x :: ds) = bi (isIns x.o.op) (mark (insMask ds) x.i) (insMask ds) := rfl
    rw [e, bi_eq]
    rcases List.mem_cons.1 h with rfl | h
    · rw [if_pos hi, mark_bit]; simp
    · have := ih d h hi
      by_cases hx : isIns x.o.op = true
      · rw [if_pos hx, mark_bit, this]; rfl
      · rw [if_neg hx]; exact this
end Go.Ev

/-! Equality of values, told by a Boolean. -/
namespace Go.Ev
open Go
set_option linter.unusedSimpArgs false
set_option linter.unusedVariables false
noncomputable def beqB (a b : Bool) : Bool := bi a b (bnot b)
theorem vsEq_eq {f : Value → Value → Bool} (hf : ∀ x y, f x y = true → x = y) : ∀ {x y : List Value}, vsEq f x y = true → x = y := by
  intro x
  induction x with
  | nil => intro y h; cases y with
    | nil => rfl
    | cons b y => cases h
  | cons a x ih =>
    intro y h
    cases y with
    | nil => cases h
    | cons b y =>
      have h' : band (f a b) (vsEq f x y) = true := h
      rw [band_eq, Bool.and_eq_true] at h'
      rw [hf _ _ h'.1, ih h'.2]
theorem bytes_eq {a b : ByteArray} (h : sEq a.data.toList b.data.toList = true) : a = b := by
  rw [sEq_eq] at h
  have e1 := beq_iff_eq.1 h
  apply ByteArray.ext; exact Array.toList_inj.1 e1
theorem beqB_eq {a b : Bool} (h : beqB a b = true) : a = b := by
  cases a <;> cases b <;> first | rfl | cases h
theorem vEq1_eq {f : Value → Value → Bool} (hf : ∀ x y, f x y = true → x = y) {x y : Value} (h : vEq1 f x y = true) : x = y := by
  unfold vEq1 at h
  split at h
  · rw [beqB_eq h]
  · rw [band_eq, Bool.and_eq_true, kEq_eq, iEq_eq, beq_iff_eq] at h; rw [h.1, h.2]
  · rw [bytes_eq h]
  · rw [oEq_eq h]
  · rw [band_eq, Bool.and_eq_true, band_eq, Bool.and_eq_true, beq_nat, beq_nat] at h; rw [oEq_eq h.1, h.2.1, h.2.2]
  · rw [beq_nat] at h; rw [h]
  · rfl
  · rfl
  · rfl
  · rw [band_eq, Bool.and_eq_true, band_eq, Bool.and_eq_true, beq_nat] at h
    rw [h.1, Array.toList_inj.1 (vsEq_eq hf h.2.1), Array.toList_inj.1 (vsEq_eq hf h.2.2)]
  · rw [band_eq, Bool.and_eq_true, beq_nat] at h; rw [h.1, hf _ _ h.2]
  · rw [Array.toList_inj.1 (vsEq_eq hf h)]
  · rw [Array.toList_inj.1 (vsEq_eq hf h)]
  · rw [band_eq, Bool.and_eq_true, beq_nat, beq_nat] at h; rw [h.1, h.2]
  · cases h
theorem vEqN_eq : ∀ (n : Nat) (x y : Value), vEqN n x y = true → x = y := by
  intro n
  induction n with
  | zero => intro x y h; cases h
  | succ n ih => intro x y h; exact vEq1_eq ih h
end Go.Ev

