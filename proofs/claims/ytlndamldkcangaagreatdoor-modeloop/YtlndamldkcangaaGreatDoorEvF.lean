/-
  A part of the proof that virgatetop.ModeLoop answers true for every text and every fuel: loops with fuel, classes of lengths, told calls. No condition.
-/
import Derived.Test.YtlndamldkcangaaGreatDoorEvE
set_option linter.all false
/-! One state told by another: renamed, symbols for what is not held. -/
namespace Go.Ev
open Go
set_option linter.unusedSimpArgs false
set_option linter.unusedVariables false
noncomputable section
/-- a renaming by pieces: from lo up to hi, onto 'to' and what follows -/
def rhoP (ps : List (Nat × Nat × Nat)) (a : Nat) : Option Nat :=
  List.rec (motive := fun _ => Option Nat) none (fun p _ ih => bi (band (Nat.ble p.1 a) (Nat.blt a p.2.1)) (some (p.2.2 + (a - p.1))) ih) ps
/-- the numbers below 60 stay; 60 to 63 tell the numbers -/
def rho (ps : List (Nat × Nat × Nat)) (a : Nat) : Option Nat := bi (Nat.blt a 60) (some a) (gd (Nat.ble 64 a) (rhoP ps a))
/-- the pieces rise, and end at n -/
def rises (ps : List (Nat × Nat × Nat)) (n : Nat) : Nat → Nat → Bool :=
  List.rec (motive := fun _ => Nat → Nat → Bool) (fun lo _ => Nat.ble lo n)
    (fun p _ ih lo to => band (band (Nat.ble lo p.1) (Nat.ble p.1 p.2.1)) (band (Nat.ble to p.2.2) (ih p.2.1 (p.2.2 + (p.2.1 - p.1))))) ps
/-- how the numbers turn: within which bounds N lies; whether steps and life begin anew, at dz and dL, or go on by them -/
structure CP where
  lo : Nat
  hi : Nat
  lit : Bool
  dz : Nat
  dL : Nat
  /-- 1: the fuel is fs; 2: it is fs above the steps as they were told; 3: steps and life aren't told -/
  fm : Nat
  fs : Nat
def isIS (v : Value) : Bool := match v with
  | .bool _ => false
  | .agg _ => false
  | .tuple _ => false
  | _ => true
def covS (v : Value) (i c lo hi : Nat) : Bool := match v with
  | .complex .f64 j d => band (bor (Nat.beq i j) (band (Nat.beq i 3) (Nat.beq j 2)))
      (bi (Nat.blt c nBase) (bi (Nat.blt d nBase) (Nat.beq c d) (band (Nat.beq c lo) (Nat.beq c hi)))
        (band (bor (bnot (Nat.blt d nBase)) (band (Nat.beq d lo) (Nat.beq d hi))) (band (Nat.ble (nLo (8 * (c - nBase))) lo) (Nat.ble hi (nHi (8 * (c - nBase)))))))
  | .string b => band (band (Nat.beq i 3) (Nat.blt c nBase)) (Nat.beq b.data.toList.length c)
  | _ => false
def cov10 (v : Value) (c lo hi : Nat) : Bool := match v with
  | .int .i64 n => band (band (Nat.beq lo hi) (iEq n (Int.ofNat (fN (nKind c) lo)))) (band (Nat.ble (nLo c) lo) (Nat.ble hi (nHi c)))
  | .complex .f64 j d => band (Nat.beq j 10) (band (Nat.beq (nKind c) (nKind d)) (band (Nat.ble (nLo c) lo) (Nat.ble hi (nHi c))))
  | _ => false
def covN (v : Value) (i c d : Nat) (lit : Bool) : Bool := match v with
  | .int .i64 n => band lit (iEq n (Int.ofNat (d + c)))
  | .complex .f64 j e => band (bnot lit) (band (Nat.beq i j) (Nat.beq e (c + d)))
  | _ => false
def isN (x : Option Nat) (b : Nat) : Bool := Option.casesOn (motive := fun _ => Bool) x false (fun y => Nat.beq y b)
def covL (ps : List (Nat × Nat × Nat)) (v : Value) (i c dL : Nat) (lit : Bool) : Bool := match v with
  | .slice (some ⟨b, o, some 5⟩) n cp => band (band lit (isN (rho ps c) b)) (band (Nat.ble n cp) (Nat.ble n (10 * dL + (i - 11))))
  | .complex .f64 j e => band (band (bnot lit) (isN (rho ps c) e)) (band (Nat.blt 10 j) (Nat.ble (j - 11) (i - 11 + 10 * dL)))
  | _ => false
def isKd (v : Value) (c : Nat) : Bool := match v with
  | .int k _ => Nat.beq (kNo k) c
  | .complex .f64 j d => band (Nat.beq j 1) (Nat.beq d c)
  | _ => false
def covF (v : Value) (fm fs : Nat) : Bool := match v with
  | .int .i64 n => band (Nat.beq fm 1) (iEq n (Int.ofNat fs))
  | .complex .f64 j e => bor (band (Nat.beq fm 2) (band (Nat.beq j 7) (Nat.beq e fs))) (band (Nat.beq fm 3) (band (Nat.beq j 6) (Nat.beq e 0)))
  | _ => false
def covSy (p : CP) (ps : List (Nat × Nat × Nat)) (i c : Nat) (v : Value) : Bool :=
  bi (Nat.beq i 0) (isIS v) (bi (Nat.beq i 1) (isKd v c) (bi (bor (Nat.beq i 2) (Nat.beq i 3)) (covS v i c p.lo p.hi) (bi (Nat.beq i 10) (cov10 v c p.lo p.hi)
    (bi (Nat.beq i 7) (band (band (Nat.blt p.fm 3) (Nat.blt c 100000)) (covN v 7 c p.dz p.lit)) (bi (Nat.beq i 9) (band (band (Nat.blt p.fm 3) (Nat.blt c 100000)) (covN v 9 c p.dL p.lit)) (bi (Nat.blt 10 i) (band (Nat.blt p.fm 3) (covL ps v i c p.dL p.lit)) (band (band (Nat.beq i 6) (Nat.beq c 0)) (covF v p.fm p.fs))))))))
def covA (ps : List (Nat × Nat × Nat)) (a b : Addr) : Bool := band (isN (rho ps a.block) b.block) (band (Nat.beq a.off b.off) (spEq a.spot b.spot))
def covI (p : CP) (k : IntKind) (m : Int) (v : Value) : Bool := match v with
  | .int k' n => band (kEq k k') (iEq m n)
  | .complex .f64 j d => band (band (kEq k .i64) (Nat.beq j 10)) (band (iEq m (Int.ofNat (fN (nKind d) p.lo))) (iEq m (Int.ofNat (fN (nKind d) p.hi))))
  | _ => false
def cov1 (p : CP) (ps : List (Nat × Nat × Nat)) (f : Value → Value → Bool) (t v : Value) : Bool := match t with
  | .complex .f64 i c => covSy p ps i c v
  | .int k m => covI p k m v
  | t => match t, v with
    | .bool a, .bool b => bi a b (bnot b)
    | .string a, .string b => sEq a.data.toList b.data.toList
    | .pointer none, .pointer none => true
    | .pointer (some a), .pointer (some b) => covA ps a b
    | .slice none l c, .slice none l' c' => band (Nat.beq l l') (Nat.beq c c')
    | .slice (some a) l c, .slice (some b) l' c' => band (covA ps a b) (band (Nat.beq l l') (Nat.beq c c'))
    | .map (some a), .map (some b) => isN (rho ps a) b
    | .map none, .map none => true
    | .nilFunc, .nilFunc => true
    | .nilIface, .nilIface => true
    | .func (.func g) q r, .func (.func h) q' r' => band (Nat.beq g h) (band (vsEq f q.toList q'.toList) (vsEq f r.toList r'.toList))
    | .iface a v, .iface b u => band (Nat.beq a b) (f v u)
    | .agg a, .agg b => vsEq f a.toList b.toList
    | .tuple a, .tuple b => vsEq f a.toList b.toList
    | _, _ => false
def covV (p : CP) (ps : List (Nat × Nat × Nat)) (n : Nat) : Value → Value → Bool := Nat.rec (motive := fun _ => Value → Value → Bool) (fun _ _ => false) (fun _ ih => cov1 p ps ih) n
/-- the cells of one are those of the other, up to where it goes -/
def preL (f : Value → Value → Bool) (x : List Value) : List Value → Bool :=
  List.rec (motive := fun _ => List Value → Bool) (fun _ => true) (fun a _ ih y => List.casesOn (motive := fun _ => Bool) y false (fun b y => band (f a b) (ih y))) x
def fzCov (x y : Option (Nat × Nat)) : Bool := match x, y with
  | none, none => true
  | some (a, b), some (c, d) => band (band (Nat.beq a c) (Nat.beq b d)) (bor (Nat.ble a b) (Nat.blt a 59))
  | _, _ => false
def covK (p : CP) (ps : List (Nat × Nat × Nat)) (k k' : Blk) : Bool :=
  band (band (Nat.beq k.el k'.el) (band (bnot k'.st) k.pa.isEmpty)) (band (bi k.gr (preL (covV p ps 20) k.c k'.c) (band (bnot k'.gr) (vsEq (covV p ps 20) k.c k'.c))) (fzCov k.fz k'.fz))
def covE (p : CP) (ps : List (Nat × Nat × Nat)) (a b : MapEntry) : Bool := band (covV p ps 20 a.key b.key) (band (covV p ps 20 a.val b.val) (Nat.beq a.born b.born))
def covEs (p : CP) (ps : List (Nat × Nat × Nat)) (x : List MapEntry) : List MapEntry → Bool :=
  List.rec (motive := fun _ => List MapEntry → Bool) (fun y => y.isEmpty) (fun a _ ih y => List.casesOn (motive := fun _ => Bool) y false (fun b y => band (covE p ps a b) (ih y))) x
def covB (p : CP) (ps : List (Nat × Nat × Nat)) (a b : AB) : Bool := match a, b with
  | .cells k, .cells k' => covK p ps k k'
  | .map e c, .map e' c' => band (covEs p ps e e') (Nat.beq c c')
  | _, _ => false
def covB1 (p : CP) (ps : List (Nat × Nat × Nat)) (h : Tr AB) (q : Nat × AB) : Bool :=
  Option.casesOn (motive := fun _ => Bool) (rho ps q.1) false (fun b => Option.casesOn (motive := fun _ => Bool) (h.get b) false (fun B => covB p ps q.2 B))
/-- what stands in l is told by the heap -/
def covH (p : CP) (ps : List (Nat × Nat × Nat)) (h : Tr AB) (l : List (Nat × AB)) : Bool := List.rec (motive := fun _ => Bool) true (fun q _ ih => band (covB1 p ps h q) ih) l
/-- the new naming -/
def covR (ps : List (Nat × Nat × Nat)) (Φ : Ren) (z F L N : Nat) : Ren := fun a =>
  if a < 60 then Φ a else if a < 64 then some ⟨a, 0, if a = 63 then z else if a = 62 then F else if a = 61 then L else N⟩ else match rhoP ps a with
    | some b => Φ b
    | none => none
end
theorem rhoP_nil (a : Nat) : rhoP [] a = none := rfl
theorem rhoP_cons (p : Nat × Nat × Nat) (ps : List (Nat × Nat × Nat)) (a : Nat) : rhoP (p :: ps) a = if p.1 ≤ a ∧ a < p.2.1 then some (p.2.2 + (a - p.1)) else rhoP ps a := by
  show bi (band (Nat.ble p.1 a) (Nat.blt a p.2.1)) (some (p.2.2 + (a - p.1))) (rhoP ps a) = _
  rw [bi_eq, band_eq]
  simp only [Bool.and_eq_true, ble_nat, blt_nat]
theorem rises_in {n : Nat} : ∀ {ps : List (Nat × Nat × Nat)} {lo to a b : Nat}, rises ps n lo to = true → rhoP ps a = some b → lo ≤ a ∧ to ≤ b ∧ a < n := by
  intro ps
  induction ps with
  | nil => intro lo to a b _ h; rw [rhoP_nil] at h; cases h
  | cons p ps ih =>
    intro lo to a b hr h
    have hr' : band (band (Nat.ble lo p.1) (Nat.ble p.1 p.2.1)) (band (Nat.ble to p.2.2) (rises ps n p.2.1 (p.2.2 + (p.2.1 - p.1)))) = true := hr
    simp only [band_eq, Bool.and_eq_true, ble_nat] at hr'
    obtain ⟨⟨h1, h2⟩, h3, h4⟩ := hr'
    rw [rhoP_cons] at h
    have hend : p.2.1 ≤ n := by
      clear ih h hr
      have aux : ∀ (ps : List (Nat × Nat × Nat)) (lo to : Nat), rises ps n lo to = true → lo ≤ n := by
        intro ps
        induction ps with
        | nil => intro lo to h; exact ble_nat.1 h
        | cons q ps ih =>
          intro lo to h
          have h' : band (band (Nat.ble lo q.1) (Nat.ble q.1 q.2.1)) (band (Nat.ble to q.2.2) (rises ps n q.2.1 (q.2.2 + (q.2.1 - q.1)))) = true := h
          simp only [band_eq, Bool.and_eq_true, ble_nat] at h'
          have := ih _ _ h'.2.2
          omega
      exact aux _ _ _ h4
    by_cases hp : p.1 ≤ a ∧ a < p.2.1
    · rw [if_pos hp] at h
      have := Option.some.inj h
      omega
    · rw [if_neg hp] at h
      obtain ⟨g1, g2, g3⟩ := ih h4 h
      omega
theorem rises_lt {n : Nat} : ∀ {ps : List (Nat × Nat × Nat)} {lo to a a' b b' : Nat}, rises ps n lo to = true → rhoP ps a = some b → rhoP ps a' = some b' → a < a' → b < b' := by
  intro ps
  induction ps with
  | nil => intro lo to a a' b b' _ h; rw [rhoP_nil] at h; cases h
  | cons p ps ih =>
    intro lo to a a' b b' hr h h' hlt
    have hr' : band (band (Nat.ble lo p.1) (Nat.ble p.1 p.2.1)) (band (Nat.ble to p.2.2) (rises ps n p.2.1 (p.2.2 + (p.2.1 - p.1)))) = true := hr
    simp only [band_eq, Bool.and_eq_true, ble_nat] at hr'
    obtain ⟨⟨h1, h2⟩, h3, h4⟩ := hr'
    rw [rhoP_cons] at h h'
    by_cases hp : p.1 ≤ a ∧ a < p.2.1
    · rw [if_pos hp] at h
      have e := Option.some.inj h
      by_cases hp' : p.1 ≤ a' ∧ a' < p.2.1
      · rw [if_pos hp'] at h'
        have e' := Option.some.inj h'
        omega
      · rw [if_neg hp'] at h'
        obtain ⟨g1, g2, _⟩ := rises_in h4 h'
        omega
    · rw [if_neg hp] at h
      obtain ⟨g1, g2, _⟩ := rises_in h4 h
      by_cases hp' : p.1 ≤ a' ∧ a' < p.2.1
      · omega
      · rw [if_neg hp'] at h'
        exact ih h4 h h' hlt
theorem isN_eq {x : Option Nat} {b : Nat} (h : isN x b = true) : x = some b := by
  cases x with
  | none => cases h
  | some y => rw [beq_nat.1 (show Nat.beq y b = true from h)]
theorem rho_cases {ps : List (Nat × Nat × Nat)} {a b : Nat} (h : rho ps a = some b) : (a < 60 ∧ b = a) ∨ (64 ≤ a ∧ rhoP ps a = some b) := by
  unfold rho at h
  rw [bi_eq] at h
  split at h
  · rename_i h1
    rw [blt_nat] at h1
    exact .inl ⟨h1, (Option.some.inj h).symm⟩
  · obtain ⟨h1, h2⟩ := gd_eq h
    exact .inr ⟨ble_nat.1 h1, h2⟩
section
variable {ps : List (Nat × Nat × Nat)} {Φ : Ren} {z F L N : Nat} {p : CP}
theorem covR_rho {a b : Nat} (h : rho ps a = some b) : covR ps Φ z F L N a = Φ b := by
  rcases rho_cases h with ⟨h1, rfl⟩ | ⟨h1, h2⟩
  · unfold covR; rw [if_pos h1]
  · unfold covR; rw [if_neg (by omega), if_neg (by omega), h2]
theorem covR_63 : covR ps Φ z F L N 63 = some ⟨63, 0, z⟩ := rfl
theorem covR_62 : covR ps Φ z F L N 62 = some ⟨62, 0, F⟩ := rfl
theorem covR_61 : covR ps Φ z F L N 61 = some ⟨61, 0, L⟩ := rfl
theorem covR_60 : covR ps Φ z F L N 60 = some ⟨60, 0, N⟩ := rfl
/-- how the new numbers stand to the old ones -/
structure CPok (p : CP) (Φ : Ren) (z F L N : Nat) : Prop where
  lo : p.lo ≤ N
  hi : N ≤ p.hi
  n : N ≤ 200
  n0 : ∀ l, Φ 60 = some l → l.size = N
  zz : p.fm < 3 → z ≤ 6000
  l3 : p.fm < 3 → 3 ≤ L
  l2 : p.fm < 3 → L ≤ 2000
  z1 : p.fm < 3 → p.lit = true → z = p.dz
  l1 : p.fm < 3 → p.lit = true → L = p.dL
  z0 : p.fm < 3 → p.lit = false → ∀ l, Φ 63 = some l → z = l.size + p.dz
  l0 : p.fm < 3 → p.lit = false → ∀ l, Φ 61 = some l → L = l.size + p.dL
  f6 : p.fm < 3 → F ≤ 6000
  f1 : p.fm = 1 → F = p.fs
  f2 : p.fm = 2 → ∀ l, Φ 63 = some l → F = l.size + p.fs
  f3 : p.fm = 3 → ∀ l, Φ 62 = some l → F = l.size
theorem isIS_eq {v v' : Value} (h : isIS v = true) (hv : VR Φ v v') : v'.oneCell' = true ∧ ∀ b, v' ≠ .bool b := by
  cases hv with
  | sy i c v' h => exact h.form
  | bool b => cases h
  | agg _ _ _ => cases h
  | tup _ _ _ => cases h
  | _ => exact ⟨rfl, fun b e => by cases e⟩
theorem covSy_sound {i c : Nat} {v v' : Value} (hp : CPok p Φ z F L N) (h : covSy p ps i c v = true) (hv : VR Φ v v') : SyR (covR ps Φ z F L N) i c v' := by
  unfold covSy at h
  simp only [bi_eq, beq_nat] at h
  by_cases c0 : i = 0
  · rw [if_pos c0] at h
    subst c0
    exact .inl (isIS_eq h hv)
  · rw [if_neg c0] at h
    by_cases c1 : i = 1
    · rw [if_pos c1] at h
      subst c1
      refine .inl ?_
      unfold isKd at h
      split at h
      · rw [beq_nat] at h; subst h; cases hv; exact ⟨_, by rw [kOf_kNo]⟩
      · rw [band_eq, Bool.and_eq_true, beq_nat, beq_nat] at h
        obtain ⟨rfl, rfl⟩ := h
        exact hv.sy_inv.kind
      · cases h
    · rw [if_neg c1] at h
      by_cases c2 : i = 2 ∨ i = 3
      · rw [if_pos (by rw [bor_eq, Bool.or_eq_true, beq_nat, beq_nat]; exact c2)] at h
        unfold covS at h
        split at h
        · rename_i j d
          simp only [band_eq, bor_eq, bi_eq, Bool.and_eq_true, Bool.or_eq_true, beq_nat, blt_nat] at h
          obtain ⟨hj, h⟩ := h
          have hs := hv.sy_inv
          have hlo := hp.lo; have hhi := hp.hi
          by_cases hc : c < nBase
          · rw [if_pos hc] at h
            by_cases hd : d < nBase
            · rw [if_pos hd, beq_nat] at h
              subst h
              rcases hs with hs | ⟨lz, lF, lL, l, q1, q2, q3, q4, q5⟩
              · refine .inl ?_
                rcases hj with rfl | ⟨rfl, rfl⟩
                · exact hs
                · obtain ⟨x, e1, e2, _, e3⟩ := hs; exact ⟨x, e1, e2, e3⟩
              · exfalso
                rcases hj with rfl | ⟨rfl, rfl⟩
                · rcases c2 with rfl | rfl
                  · obtain ⟨_, _, _, _, e, _⟩ := q5; omega
                  · obtain ⟨_, _, _, e, _⟩ := q5; omega
                · obtain ⟨_, _, _, _, e, _⟩ := q5; omega
            · rw [if_neg hd, Bool.and_eq_true, beq_nat, beq_nat] at h
              obtain ⟨h1, h2⟩ := h
              rcases hs with hs | ⟨lz, lF, lL, l, q1, q2, q3, q4, q5⟩
              · exfalso
                rcases hj with rfl | ⟨rfl, rfl⟩
                · rcases c2 with rfl | rfl
                  · obtain ⟨_, _, _, _, e⟩ := hs; exact hd e
                  · obtain ⟨_, _, _, e⟩ := hs; exact hd e
                · obtain ⟨_, _, _, _, e⟩ := hs; exact hd e
              · refine .inl ?_
                rcases hj with rfl | ⟨rfl, rfl⟩
                · rcases c2 with rfl | rfl
                  · obtain ⟨x, e1, e2, e3, e4, e5, e6, e7⟩ := q5
                    have en := hp.n0 _ q4
                    exact ⟨x, e1, by omega, e3, hc⟩
                  · obtain ⟨x, e1, e2, e4, e5, e6, e7⟩ := q5
                    have en := hp.n0 _ q4
                    exact ⟨x, e1, by omega, hc⟩
                · obtain ⟨x, e1, e2, e3, e4, e5, e6, e7⟩ := q5
                  have en := hp.n0 _ q4
                  exact ⟨x, e1, by omega, hc⟩
          · rw [if_neg hc] at h
            simp only [Bool.and_eq_true, Bool.or_eq_true, beq_nat, bnot_eq, Bool.not_eq_true', ble_nat] at h
            obtain ⟨hd, h1, h2⟩ := h
            rcases hs with hs | ⟨lz, lF, lL, l, q1, q2, q3, q4, q5⟩
            · have hdd : d < nBase := by
                rcases hj with rfl | ⟨rfl, rfl⟩
                · rcases c2 with rfl | rfl
                  · obtain ⟨_, _, _, _, e⟩ := hs; exact e
                  · obtain ⟨_, _, _, e⟩ := hs; exact e
                · obtain ⟨_, _, _, _, e⟩ := hs; exact e
              have hd2 : d = p.lo ∧ d = p.hi := by
                rcases hd with hd | hd
                · rw [blt_nat.2 hdd] at hd; cases hd
                · exact hd
              have hN : N = d := by omega
              have hn := hp.n
              refine .inr ⟨_, _, _, ⟨60, 0, N⟩, covR_63, covR_62, covR_61, ?_, ?_⟩
              · rcases c2 with rfl | rfl <;> exact covR_60
              · rcases hj with rfl | ⟨rfl, rfl⟩
                · rcases c2 with rfl | rfl
                  · obtain ⟨x, e1, e2, e3, e4⟩ := hs
                    exact ⟨x, e1, by show _ = N; omega, e3, by omega, by show _ ≤ N; omega, by show N ≤ _; omega, hn⟩
                  · obtain ⟨x, e1, e2, e4⟩ := hs
                    exact ⟨x, e1, by show _ = N; omega, by omega, by show _ ≤ N; omega, by show N ≤ _; omega, hn⟩
                · obtain ⟨x, e1, e2, e3, e4⟩ := hs
                  exact ⟨x, e1, by show _ = N; omega, by omega, by show _ ≤ N; omega, by show N ≤ _; omega, hn⟩
            · refine .inr ⟨_, _, _, ⟨60, 0, N⟩, covR_63, covR_62, covR_61, ?_, ?_⟩
              · rcases c2 with rfl | rfl <;> exact covR_60
              · rcases hj with rfl | ⟨rfl, rfl⟩
                · rcases c2 with rfl | rfl
                  · obtain ⟨x, e1, e2, e3, e4, e5, e6, e7⟩ := q5
                    have en := hp.n0 _ q4
                    exact ⟨x, e1, e2.trans en, e3, by omega, Nat.le_trans h1 hlo, Nat.le_trans hhi h2, hp.n⟩
                  · obtain ⟨x, e1, e2, e4, e5, e6, e7⟩ := q5
                    have en := hp.n0 _ q4
                    exact ⟨x, e1, e2.trans en, by omega, Nat.le_trans h1 hlo, Nat.le_trans hhi h2, hp.n⟩
                · obtain ⟨x, e1, e2, e3, e4, e5, e6, e7⟩ := q5
                  have en := hp.n0 _ q4
                  exact ⟨x, e1, e2.trans en, by omega, Nat.le_trans h1 hlo, Nat.le_trans hhi h2, hp.n⟩
        · simp only [band_eq, Bool.and_eq_true, beq_nat, blt_nat] at h
          obtain ⟨⟨rfl, h1⟩, h2⟩ := h
          cases hv
          exact .inl ⟨_, rfl, h2, h1⟩
        · cases h
      · rw [if_neg (by rw [bor_eq, Bool.or_eq_true, beq_nat, beq_nat]; exact c2)] at h
        by_cases c10 : i = 10
        · rw [if_pos c10] at h
          subst c10
          unfold cov10 at h
          split at h
          · simp only [band_eq, Bool.and_eq_true, beq_nat, ble_nat, iEq_eq, beq_iff_eq] at h
            obtain ⟨⟨h0, rfl⟩, h2, h3⟩ := h
            cases hv
            have hlo := hp.lo; have hhi := hp.hi
            have eN : N = p.lo := by omega
            refine .inr ⟨_, _, _, ⟨60, 0, N⟩, covR_63, covR_62, covR_61, covR_60, ?_, Nat.le_trans h2 hlo, Nat.le_trans hhi h3, hp.n⟩
            rw [eN]; rfl
          · simp only [band_eq, Bool.and_eq_true, beq_nat, ble_nat] at h
            obtain ⟨rfl, h1, h2, h3⟩ := h
            obtain ⟨lz, lF, lL, l, q1, q2, q3, q4, rfl, g2, g3, g4⟩ := hv.sy_inv.ten
            have en := hp.n0 _ q4
            refine .inr ⟨_, _, _, ⟨60, 0, N⟩, covR_63, covR_62, covR_61, covR_60, ?_, Nat.le_trans h2 hp.lo, Nat.le_trans hp.hi h3, hp.n⟩
            rw [h1, en]
          · cases h
        · rw [if_neg c10] at h
          by_cases c7 : i = 7
          · rw [if_pos c7] at h
            subst c7
            rw [band_eq, Bool.and_eq_true, band_eq, Bool.and_eq_true, blt_nat, blt_nat] at h
            obtain ⟨⟨hfm, hc⟩, h⟩ := h
            refine .inr ⟨_, _, _, ⟨60, 0, N⟩, covR_63, covR_62, covR_61, covR_60, ?_⟩
            unfold covN at h
            split at h
            · rw [band_eq, Bool.and_eq_true, iEq_eq, beq_iff_eq] at h
              obtain ⟨hl, rfl⟩ := h
              cases hv
              have := hp.z1 hfm hl
              refine ⟨?_, hc, hp.zz hfm⟩
              show Value.int .i64 (Int.ofNat (p.dz + c)) = .int .i64 ((z : Int) + c)
              congr 1
              rw [this]; simp
            · simp only [band_eq, Bool.and_eq_true, bnot_eq, Bool.not_eq_true', beq_nat] at h
              obtain ⟨hl, rfl, rfl⟩ := h
              rcases hv.sy_inv with hs | ⟨lz, lF, lL, l, q1, q2, q3, q4, rfl, g2, g3⟩
              · exact hs.elim
              · have := hp.z0 hfm hl _ q1
                refine ⟨?_, hc, hp.zz hfm⟩
                show Value.int .i64 ((lz.size : Int) + ((c + p.dz : Nat) : Int)) = .int .i64 ((z : Int) + c)
                congr 1
                omega
            · cases h
          · rw [if_neg c7] at h
            by_cases c9 : i = 9
            · rw [if_pos c9] at h
              subst c9
              rw [band_eq, Bool.and_eq_true, band_eq, Bool.and_eq_true, blt_nat, blt_nat] at h
              obtain ⟨⟨hfm, hc⟩, h⟩ := h
              refine .inr ⟨_, _, _, ⟨60, 0, N⟩, covR_63, covR_62, covR_61, covR_60, ?_⟩
              unfold covN at h
              split at h
              · rw [band_eq, Bool.and_eq_true, iEq_eq, beq_iff_eq] at h
                obtain ⟨hl, rfl⟩ := h
                cases hv
                have := hp.l1 hfm hl
                refine ⟨?_, hc, hp.l3 hfm, hp.l2 hfm⟩
                show Value.int .i64 (Int.ofNat (p.dL + c)) = .int .i64 ((L : Int) + c)
                congr 1
                rw [this]; simp
              · simp only [band_eq, Bool.and_eq_true, bnot_eq, Bool.not_eq_true', beq_nat] at h
                obtain ⟨hl, rfl, rfl⟩ := h
                rcases hv.sy_inv with hs | ⟨lz, lF, lL, l, q1, q2, q3, q4, rfl, g2, g3⟩
                · exact hs.elim
                · have := hp.l0 hfm hl _ q3
                  refine ⟨?_, hc, hp.l3 hfm, hp.l2 hfm⟩
                  show Value.int .i64 ((lL.size : Int) + ((c + p.dL : Nat) : Int)) = .int .i64 ((L : Int) + c)
                  congr 1
                  omega
              · cases h
            · rw [if_neg c9] at h
              by_cases c11 : 10 < i
              · rw [if_pos (blt_nat.2 c11), band_eq, Bool.and_eq_true, blt_nat] at h
                obtain ⟨hfm, h⟩ := h
                unfold covL at h
                split at h
                · rename_i b o n cp
                  simp only [band_eq, Bool.and_eq_true, ble_nat] at h
                  obtain ⟨⟨hl, hr⟩, h1, h2⟩ := h
                  have hr := isN_eq hr
                  have eL := hp.l1 hfm hl
                  cases hv with
                  | slo _ _ _ _ c' _ l hb hc hs =>
                    have := VR.slice (Ψ := covR ps Φ z F L N) (i := i) (c := c) (n := n) (off := o) (cp := c') c11 covR_63 covR_62 covR_61 (by rw [covR_rho hr]; exact hb) (by omega) hs (by show n ≤ 10 * L + (i - 11); rw [eL]; exact h2) (hp.l2 hfm)
                    exact this.sy_inv
                · simp only [band_eq, Bool.and_eq_true, bnot_eq, Bool.not_eq_true', blt_nat, ble_nat] at h
                  obtain ⟨⟨hl, hr⟩, h1, h2⟩ := h
                  have hr := isN_eq hr
                  obtain ⟨lz, lF, lL, l, n0, off, cp, e1, e2, e3, hl', rfl, hle, hcap, hcnt, hL⟩ := hv.sy_inv.slice h1
                  have eL := hp.l0 hfm hl _ e3
                  have := VR.slice (Ψ := covR ps Φ z F L N) (i := i) (c := c) (n := n0) (off := off) (cp := cp) c11 covR_63 covR_62 covR_61 (by rw [covR_rho hr]; exact hl') hle hcap (by show n0 ≤ 10 * L + (i - 11); omega) (hp.l2 hfm)
                  exact this.sy_inv
                · cases h
              · rw [if_neg (by rw [blt_nat]; exact c11)] at h
                simp only [band_eq, Bool.and_eq_true, beq_nat] at h
                obtain ⟨⟨rfl, rfl⟩, h⟩ := h
                refine .inr ⟨_, _, _, ⟨60, 0, N⟩, covR_63, covR_62, covR_61, covR_60, ?_⟩
                unfold covF at h
                split at h
                · simp only [band_eq, Bool.and_eq_true, beq_nat, iEq_eq, beq_iff_eq] at h
                  obtain ⟨h1, rfl⟩ := h
                  cases hv
                  have := hp.f1 h1
                  exact ⟨by rw [← this]; rfl, Nat.zero_le _, hp.f6 (by omega), hp.n⟩
                · simp only [band_eq, bor_eq, Bool.and_eq_true, Bool.or_eq_true, beq_nat] at h
                  rcases h with ⟨h1, rfl, rfl⟩ | ⟨h1, rfl, rfl⟩
                  · rcases hv.sy_inv with hs | ⟨lz, lF, lL, l, q1, q2, q3, q4, rfl, g2, g3⟩
                    · exact hs.elim
                    · have := hp.f2 h1 _ q1
                      refine ⟨?_, Nat.zero_le _, hp.f6 (by omega), hp.n⟩
                      show Value.int .i64 ((lz.size : Int) + ((p.fs : Nat) : Int)) = .int .i64 (F : Int)
                      congr 1
                      omega
                  · rcases hv.sy_inv with hs | ⟨lz, lF, lL, l, q1, q2, q3, q4, rfl, g2, g3⟩
                    · exact hs.elim
                    · have := hp.f3 h1 _ q2
                      exact ⟨by rw [this], Nat.zero_le _, by show F ≤ 6000; omega, hp.n⟩
                · cases h
end
end Go.Ev

/-! One state told by another, 2: values, objects, heaps. -/
namespace Go.Ev
open Go
set_option linter.unusedSimpArgs false
set_option linter.unusedVariables false
section
variable {ps : List (Nat × Nat × Nat)} {Φ : Ren} {z F L N : Nat} {p : CP}
theorem covA_eq {a b : Addr} (h : covA ps a b = true) : rho ps a.block = some b.block ∧ a.off = b.off ∧ a.spot = b.spot := by
  unfold covA at h
  rw [band_eq, Bool.and_eq_true, band_eq, Bool.and_eq_true, beq_nat] at h
  exact ⟨isN_eq h.1, h.2.1, spEq_eq h.2.2⟩
theorem covs_sound {Ψ : Ren} {f : Value → Value → Bool} (hf : ∀ t v v', f t v = true → VR Φ v v' → VR Ψ t v') : ∀ {x y l : List Value}, vsEq f x y = true → VRs Φ y l → VRs Ψ x l := by
  intro x
  induction x with
  | nil => intro y l h hr; cases y with
    | nil => cases hr; exact .nil
    | cons b y => cases h
  | cons a x ih =>
    intro y l h hr
    cases y with
    | nil => cases h
    | cons b y =>
      have h' : band (f a b) (vsEq f x y) = true := h
      rw [band_eq, Bool.and_eq_true] at h'
      cases hr with
      | cons _ v' _ l' hv hl => exact .cons _ _ _ _ (hf _ _ _ h'.1 hv) (ih h'.2 hl)
theorem covI_sound {k : IntKind} {m : Int} {v v' : Value} (hp : CPok p Φ z F L N) (h : covI p k m v = true) (hv : VR Φ v v') : v' = .int k m := by
  unfold covI at h
  split at h
  · rw [band_eq, Bool.and_eq_true, kEq_eq, iEq_eq, beq_iff_eq] at h
    obtain ⟨rfl, rfl⟩ := h
    cases hv; rfl
  · simp only [band_eq, Bool.and_eq_true, kEq_eq, beq_nat, iEq_eq, beq_iff_eq] at h
    obtain ⟨⟨rfl, rfl⟩, h1, h2⟩ := h
    rename_i d
    obtain ⟨lz, lF, lL, l, q1, q2, q3, q4, rfl, g2, g3, g4⟩ := hv.sy_inv.ten
    have en := hp.n0 _ q4
    have e1 : fN (nKind d) p.lo ≤ fN (nKind d) l.size := fN_mono (by rw [en]; exact hp.lo)
    have e2 : fN (nKind d) l.size ≤ fN (nKind d) p.hi := fN_mono (by rw [en]; exact hp.hi)
    have h1' : m = (fN (nKind d) p.lo : Int) := h1
    have h2' : m = (fN (nKind d) p.hi : Int) := h2
    congr 1
    omega
  · cases h
theorem cov1_sound {f : Value → Value → Bool} (hp : CPok p Φ z F L N) (hf : ∀ t v v', f t v = true → VR Φ v v' → VR (covR ps Φ z F L N) t v') {t v v' : Value} (h : cov1 p ps f t v = true) (hv : VR Φ v v') : VR (covR ps Φ z F L N) t v' := by
  unfold cov1 at h
  split at h
  · exact .sy _ _ _ (covSy_sound hp h hv)
  · rw [covI_sound hp h hv]; exact .int _ _
  · rename_i hx1 hx2
    clear hx1 hx2
    split at h
    · cases hv
      rename_i a b
      rw [bi_eq] at h
      cases a <;> cases b <;> first | exact .bool _ | (simp at h)
    · rw [show _ = _ from bytes_eq h] at *
      cases hv; exact .str _
    · cases hv; exact .nilp
    · obtain ⟨a', rfl, ⟨l, hl, rfl⟩, hsp⟩ := hv.ptr_inv
      obtain ⟨e1, e2, e3⟩ := covA_eq h
      rename_i a b
      obtain ⟨ab, ao, as⟩ := a
      simp only at e1 e2 e3
      subst e2
      rw [hsp] at e3
      subst e3
      exact .ptr _ _ l (by rw [covR_rho e1]; exact hl)
    · rw [band_eq, Bool.and_eq_true, beq_nat, beq_nat] at h
      obtain ⟨rfl, rfl⟩ := h
      cases hv; exact .nils _ _
    · simp only [band_eq, Bool.and_eq_true, beq_nat] at h
      obtain ⟨h1, rfl, rfl⟩ := h
      obtain ⟨e1, e2, e3⟩ := covA_eq h1
      rename_i a l c b
      obtain ⟨ab, ao, as⟩ := a
      simp only at e1 e2 e3
      subst e2 e3
      cases hv with
      | sl b o n c l hl => exact .sl _ _ _ _ l (by rw [covR_rho e1]; exact hl)
      | slo b o n c c' z l hl hc hs => exact .slo _ _ _ _ _ _ l (by rw [covR_rho e1]; exact hl) hc hs
      | sle b o c' a => exact .sle _ _ _ _
    · cases hv with
      | map r l hl => exact .map _ l (by rw [covR_rho (isN_eq h)]; exact hl)
    · cases hv; exact .nilm
    · cases hv; exact .nilf
    · cases hv; exact .nili
    · simp only [band_eq, Bool.and_eq_true, beq_nat] at h
      obtain ⟨rfl, h1, h2⟩ := h
      cases hv with
      | func _ _ p' _ q' hp' hq' => exact .func _ _ p' _ q' (covs_sound hf h1 hp') (covs_sound hf h2 hq')
    · rw [band_eq, Bool.and_eq_true, beq_nat] at h
      obtain ⟨rfl, h1⟩ := h
      cases hv with
      | ifc _ _ v' hv => exact .ifc _ _ _ (hf _ _ _ h1 hv)
    · cases hv with
      | agg _ c' hc => exact .agg _ _ (covs_sound hf h hc)
    · cases hv with
      | tup _ c' hc => exact .tup _ _ (covs_sound hf h hc)
    · cases h
theorem covV_sound (hp : CPok p Φ z F L N) : ∀ (n : Nat) (t v v' : Value), covV p ps n t v = true → VR Φ v v' → VR (covR ps Φ z F L N) t v' := by
  intro n
  induction n with
  | zero => intro t v v' h; cases h
  | succ n ih => intro t v v' h hv; exact cov1_sound hp ih h hv
theorem preL_get {f : Value → Value → Bool} : ∀ {x y : List Value}, preL f x y = true → x.length ≤ y.length ∧ ∀ (i : Nat) (v : Value), x[i]? = some v → ∃ u, y[i]? = some u ∧ f v u = true := by
  intro x
  induction x with
  | nil => intro y _; exact ⟨Nat.zero_le _, fun i v h => by simp at h⟩
  | cons a x ih =>
    intro y h
    cases y with
    | nil => cases h
    | cons b y =>
      have h' : band (f a b) (preL f x y) = true := h
      rw [band_eq, Bool.and_eq_true] at h'
      obtain ⟨h1, h2⟩ := ih h'.2
      refine ⟨by simp; exact h1, fun i v hv => ?_⟩
      cases i with
      | zero => simp at hv; subst hv; exact ⟨b, rfl, h'.1⟩
      | succ i => exact h2 i v (by simpa using hv)
theorem vsEq_get {f : Value → Value → Bool} : ∀ {x y : List Value}, vsEq f x y = true → x.length = y.length ∧ ∀ (i : Nat) (v : Value), x[i]? = some v → ∃ u, y[i]? = some u ∧ f v u = true := by
  intro x
  induction x with
  | nil => intro y h; cases y with
    | nil => exact ⟨rfl, fun i v h => by simp at h⟩
    | cons b y => cases h
  | cons a x ih =>
    intro y h
    cases y with
    | nil => cases h
    | cons b y =>
      have h' : band (f a b) (vsEq f x y) = true := h
      rw [band_eq, Bool.and_eq_true] at h'
      obtain ⟨h1, h2⟩ := ih h'.2
      refine ⟨by simp [h1], fun i v hv => ?_⟩
      cases i with
      | zero => simp at hv; subst hv; exact ⟨b, rfl, h'.1⟩
      | succ i => exact h2 i v (by simpa using hv)
theorem fzCov_sound {x y : Option (Nat × Nat)} {b n : Nat} {f : Nat × Nat} (h : fzCov x y = true) (hf : FzR Φ y b n f) : FzR (covR ps Φ z F L N) x b n f := by
  unfold fzCov at h
  split at h
  · exact hf
  · simp only [band_eq, bor_eq, Bool.and_eq_true, Bool.or_eq_true, beq_nat, ble_nat, blt_nat] at h
    obtain ⟨⟨rfl, rfl⟩, h⟩ := h
    rename_i a b
    simp only [FzR] at hf ⊢
    by_cases h1 : a < b
    · rw [if_pos h1] at hf ⊢; exact hf
    · rw [if_neg h1] at hf ⊢
      by_cases h2 : b < a
      · rw [if_pos h2] at hf ⊢
        obtain ⟨l1, l2, q1, q2, q3⟩ := hf
        refine ⟨l1, l2, ?_, ?_, q3⟩
        · unfold covR; rw [if_pos (by omega)]; exact q1
        · unfold covR; rw [if_pos (by omega)]; exact q2
      · rw [if_neg h2] at hf ⊢; exact hf
  · cases h
theorem covEs_sound (hp : CPok p Φ z F L N) : ∀ {x y l : List MapEntry}, covEs p ps x y = true → ERs Φ y l → ERs (covR ps Φ z F L N) x l := by
  intro x
  induction x with
  | nil =>
    intro y l h hr
    cases y with
    | nil => cases hr; exact .nil
    | cons b y => cases h
  | cons a x ih =>
    intro y l h hr
    cases y with
    | nil => cases h
    | cons b y =>
      have h' : band (covE p ps a b) (covEs p ps x y) = true := h
      rw [band_eq, Bool.and_eq_true] at h'
      cases hr with
      | cons _ e' _ l' he hl =>
        obtain ⟨h1, h2⟩ := h'
        unfold covE at h1
        simp only [band_eq, Bool.and_eq_true, beq_nat] at h1
        exact .cons _ _ _ _ ⟨covV_sound hp _ _ _ _ h1.1 he.1, covV_sound hp _ _ _ _ h1.2.1 he.2.1, he.2.2.trans h1.2.2.symm⟩ (ih h2 hl)
theorem covB_sound (hp : CPok p Φ z F L N) {A B : AB} {l : Loc} {o : Option Obj} (h : covB p ps A B = true) (hB : BR Φ B l o) : BR (covR ps Φ z F L N) A l o ∧ A.pa = [] ∧ ¬ B.isStale := by
  unfold covB at h
  split at h
  · rename_i k k'
    unfold covK at h
    simp only [band_eq, Bool.and_eq_true, beq_nat, bnot_eq, Bool.not_eq_true', bi_eq] at h
    obtain ⟨⟨hel, hst, hpa⟩, hc, hfz⟩ := h
    obtain ⟨c, f, h1, h2, h3, h4, h5, h6⟩ := hB
    have hget : k.c.length ≤ k'.c.length ∧ (k.gr = false → k'.gr = false ∧ k.c.length = k'.c.length) ∧ ∀ (i : Nat) (v : Value), k.c[i]? = some v → ∃ u, k'.c[i]? = some u ∧ covV p ps 20 v u = true := by
      by_cases hg : k.gr = true
      · rw [if_pos hg] at hc
        obtain ⟨e1, e2⟩ := preL_get hc
        exact ⟨e1, (fun e => by rw [hg] at e; cases e), e2⟩
      · rw [if_neg hg] at hc
        simp only [Bool.and_eq_true, Bool.not_eq_true'] at hc
        obtain ⟨e1, e2⟩ := vsEq_get hc.2
        exact ⟨Nat.le_of_eq e1, fun _ => ⟨hc.1, e1⟩, e2⟩
    obtain ⟨g1, g2, g3⟩ := hget
    refine ⟨⟨c, f, by rw [hel]; exact h1, h2, by omega, fun i v hv => ?_, fzCov_sound hfz h5, fun e => ?_⟩, by simpa [AB.pa] using hpa, fun hs => ?_⟩
    · obtain ⟨u, e1, e2⟩ := g3 i v hv
      obtain ⟨v', e3, e4⟩ := h4 i u e1
      exact ⟨v', e3, covV_sound hp _ _ _ _ e2 e4⟩
    · obtain ⟨e1, e2⟩ := g2 e
      obtain ⟨e3, e4⟩ := h6 e1
      exact ⟨e3, e2.trans e4⟩
    · have hs' : k'.st = true := hs
      rw [hst] at hs'; cases hs'
  · rw [band_eq, Bool.and_eq_true, beq_nat] at h
    obtain ⟨h1, rfl⟩ := h
    obtain ⟨es', e1, e2⟩ := hB
    exact ⟨⟨es', e1, covEs_sound hp h1 e2⟩, rfl, id⟩
  · cases h
theorem covH_mem {h : Tr AB} : ∀ {l : List (Nat × AB)}, covH p ps h l = true → ∀ q ∈ l, ∃ b B, rho ps q.1 = some b ∧ h.get b = some B ∧ covB p ps q.2 B = true := by
  intro l
  induction l with
  | nil => intro _ q hq; cases hq
  | cons a l ih =>
    intro hh q hq
    have h' : band (covB1 p ps h a) (covH p ps h l) = true := hh
    rw [band_eq, Bool.and_eq_true] at h'
    rcases List.mem_cons.1 hq with rfl | hq
    · have h1 := h'.1
      unfold covB1 at h1
      cases hr : rho ps q.1 with
      | none => rw [hr] at h1; cases h1
      | some b =>
        rw [hr] at h1
        cases hg : h.get b with
        | none => simp only [hg] at h1; cases h1
        | some B => simp only [hg] at h1; exact ⟨b, B, rfl, hg, h1⟩
    · exact ih h'.2 q hq
theorem rho_inj {n a a' b : Nat} (hr : rises ps n 64 64 = true) (h : rho ps a = some b) (h' : rho ps a' = some b) : a = a' := by
  rcases rho_cases h with ⟨h1, rfl⟩ | ⟨h1, h2⟩
  · rcases rho_cases h' with ⟨h3, h4⟩ | ⟨h3, h4⟩
    · exact h4
    · have := rises_in hr h4; omega
  · rcases rho_cases h' with ⟨h3, rfl⟩ | ⟨h3, h4⟩
    · have := rises_in hr h2; omega
    · rcases Nat.lt_trichotomy a a' with hlt | heq | hgt
      · have := rises_lt hr h2 h4 hlt; omega
      · exact heq
      · have := rises_lt hr h4 h2 hgt; omega
/-- A STATE THAT TELLS ANOTHER STANDS FOR THE SAME WORLD -/
theorem cov_rel {s : S} {w : World} {l : List (Nat × AB)} {n : Nat} (hp : CPok p Φ z F L N) (hr : Rel Φ s w) (hrise : rises ps n 64 64 = true) (h : covH p ps s.h l = true) :
    Rel (covR ps Φ z F L N) ⟨ofList l, n⟩ w ∧ ∀ β, Im (covR ps Φ z F L N) (ofList l) β → Im Φ s.h β := by
  have hmem := covH_mem h
  have hget : ∀ a A, (ofList l).get a = some A → ∃ b B m, rho ps a = some b ∧ s.h.get b = some B ∧ Φ b = some m ∧ BR (covR ps Φ z F L N) A m w.heap[m.b]? ∧ A.pa = [] ∧ ¬ B.isStale := by
    intro a A hg
    obtain ⟨b, B, h1, h2, h3⟩ := hmem (a, A) (get_ofList _ _ _ hg)
    obtain ⟨m, h4, h5⟩ := hr.live b B h2
    obtain ⟨h6, h7, h8⟩ := covB_sound (F := F) hp h3 h5
    exact ⟨b, B, m, h1, h2, h4, h6, h7, h8⟩
  have hn64 : 64 ≤ n := by
    clear hget hmem h
    have aux : ∀ (ps : List (Nat × Nat × Nat)) (lo to : Nat), rises ps n lo to = true → lo ≤ n := by
      intro ps
      induction ps with
      | nil => intro lo to h; exact ble_nat.1 h
      | cons q ps ih =>
        intro lo to h
        have h' : band (band (Nat.ble lo q.1) (Nat.ble q.1 q.2.1)) (band (Nat.ble to q.2.2) (rises ps n q.2.1 (q.2.2 + (q.2.1 - q.1)))) = true := h
        simp only [band_eq, Bool.and_eq_true, ble_nat] at h'
        have := ih _ _ h'.2.2
        omega
    exact aux _ _ _ hrise
  refine ⟨⟨⟨fun a A hg => ?_, fun a a' A A' m m' hg hg' hne hm hm' he => ?_, fun a A q P hg hq => ?_, fun a A q P m m' hg hq => ?_⟩, fun a ha => ?_, fun a A q hg hq => ?_, fun g hg => ?_⟩, fun β hβ => ?_⟩
  · obtain ⟨b, B, m, h1, h2, h3, h4, _⟩ := hget a A hg
    exact ⟨m, by rw [covR_rho h1]; exact h3, h4⟩
  · obtain ⟨b, B, l1, h1, h2, h3, h4, h5, h6⟩ := hget a A hg
    obtain ⟨b', B', l2, h1', h2', h3', h4', h5', h6'⟩ := hget a' A' hg'
    rw [covR_rho h1, h3] at hm; cases hm
    rw [covR_rho h1', h3'] at hm'; cases hm'
    have hbne : b ≠ b' := fun e => hne (rho_inj hrise h1 (e ▸ h1'))
    rcases hr.apart b b' B B' _ _ h2 h2' hbne h3 h3' he with h | h
    · exact absurd (hr.heir b B b' B' h2 h h2') h6'
    · exact absurd (hr.heir b' B' b B h2' h h2) h6
  · obtain ⟨b, B, l1, h1, h2, h3, h4, h5, h6⟩ := hget a A hg
    rw [h5] at hq; cases hq
  · obtain ⟨b, B, l1, h1, h2, h3, h4, h5, h6⟩ := hget a A hg
    rw [h5] at hq; cases hq
  · have ha' : n ≤ a := ha
    unfold covR
    rw [if_neg (by omega), if_neg (by omega)]
    cases hq : rhoP ps a with
    | none => rfl
    | some b => have := rises_in hrise hq; omega
  · obtain ⟨b, B, l1, h1, h2, h3, h4, h5, h6⟩ := hget a A hg
    rw [h5] at hq; cases hq
  · unfold covR
    by_cases h1 : g < 60
    · rw [if_pos h1]; exact hr.gl g hg
    · rw [if_neg h1, if_pos hg]; exact ⟨_, rfl⟩
  · obtain ⟨a, A, m, h1, h2, h3⟩ := hβ
    obtain ⟨b, B, l1, g1, g2, g3, _⟩ := hget a A h1
    rw [covR_rho g1, g3] at h2; cases h2
    exact ⟨b, B, m, g2, g3, h3⟩
end
end Go.Ev

/-! A loop whose rounds are told, with fuel: what it comes to. -/
namespace Go.Ev
open Go Go.Lib
set_option linter.unusedSimpArgs false
set_option linter.unusedVariables false
noncomputable section
def atF (fr : AF) (i : Nat) (v : Value) : AF := AF.rec (motive := fun _ => AF) (fun tm nt df => ⟨Tr.set tm i (some v), nt, df⟩) fr
/-- the fuel, where it reaches so far; and where it ends there -/
def contV (lit : Bool) (k : Nat) : Value := bi lit (sy 6 k) (sy 8 k)
def stopV (lit : Bool) (k : Nat) : Value := bi lit (.int .i64 (Int.ofNat k)) (sy 7 k)
def isFV (v : Value) : Bool := match v with
  | .complex .f64 i _ => bor (Nat.beq i 6) (Nat.beq i 8)
  | _ => false
def hasF (fr : AF) (i : Nat) : Bool := AF.rec (motive := fun _ => Bool) (fun tm _ df => band (List.casesOn (motive := fun _ => Bool) df true (fun _ _ => false)) (Option.casesOn (motive := fun _ => Bool) (tm.get i) false isFV)) fr
def isRet (x : Ex) : Bool := Ex.casesOn (motive := fun _ => Bool) x false (fun _ => false) true
/-- the ends at the steps from o on, d of them -/
def stopsAt (f0 : Nat) (cd : AF → S → Option (Ex × AF × S)) (iF : Nat) (lit : Bool) (fin : Nat → S → Bool) (o : Nat) (fr : AF) (s : S) (d : Nat) : Bool :=
  Nat.rec (motive := fun _ => Bool) true (fun k ih => band (bi (Nat.blt (o + k) f0) true (Option.casesOn (motive := fun _ => Bool) (cd (atF fr iF (stopV lit (o + k))) s) false
    (pr fun x p => pr (fun fr' s' => band (band (isRet x) (noDf fr')) (fin (o + k) s')) p))) ih) d
def chain.isNormX (x : Ex) : Bool := Ex.casesOn (motive := fun _ => Bool) x true (fun _ => false) false
/-- rounds, each with how many steps it takes -/
def chain (f0 : Nat) (cd : AF → S → Option (Ex × AF × S)) (iF : Nat) (lit : Bool) (fin : Nat → S → Bool) (end_ : AF → S → Bool) (ds : List Nat) : Nat → AF → S → Bool :=
  List.rec (motive := fun _ => Nat → AF → S → Bool) (fun _ fr s => end_ fr s)
    (fun d _ ih o fr s => band (stopsAt f0 cd iF lit fin o fr s d) (Option.casesOn (motive := fun _ => Bool) (cd (atF fr iF (contV lit (o + d))) s) false
      (pr fun x p => pr (fun fr' s' => band (band (chain.isNormX x) (hasF fr' iF)) (ih (o + d) fr' s')) p))) ds
end
theorem rounds_le {P : Program} {c : Code} {Q : Exit → Act → World → Prop} : ∀ {n m : Nat}, n ≤ m → ∀ {a : Act} {w : World}, Code.rounds P c Q n a w → Code.rounds P c Q m a w := by
  intro n
  induction n with
  | zero => intro m _ a w h; exact h.elim
  | succ n ih =>
    intro m hm a w h
    obtain ⟨m', rfl⟩ : ∃ m', m = m' + 1 := ⟨m - 1, by omega⟩
    refine Code.wp_mono (fun e a' w' q => ?_) h
    cases e <;> first | exact q | exact ih (by omega) q
section
variable {P : Program} {Φ0 : Ren} {s0 : S} {w0 : World}
/-- what stays from one state to a later one, named anew -/
structure Ex0 (Φ0 : Ren) (s0 : S) (w0 : World) (Ψ : Ren) (s : S) (w : World) : Prop where
  size : w0.heap.size ≤ w.heap.size
  frame : ∀ β, β < w0.heap.size → ¬ Im Φ0 s0.h β → w.heap[β]? = w0.heap[β]?
  im : ∀ β, Im Ψ s.h β → Im Φ0 s0.h β ∨ w0.heap.size ≤ β
  tape : w.tape = w0.tape
  os : w.os = w0.os
  output : w.output = w0.output
theorem Ex0.refl : Ex0 Φ0 s0 w0 Φ0 s0 w0 := ⟨Nat.le_refl _, fun _ _ _ => rfl, fun _ h => .inl h, rfl, rfl, rfl⟩
theorem Ex0.step {Ψ Ψ' : Ren} {s s' : S} {w w' : World} (h : Ex0 Φ0 s0 w0 Ψ s w) (x : Ext Ψ s w Ψ' s' w') : Ex0 Φ0 s0 w0 Ψ' s' w' where
  size := Nat.le_trans h.size x.size
  frame := fun β hβ hi => by
    rw [x.frame β (Nat.lt_of_lt_of_le hβ h.size) (fun hh => (h.im β hh).elim hi (fun hle => by omega)), h.frame β hβ hi]
  im := fun β hh => by
    rcases x.im β hh with h1 | h1
    · exact h.im β h1
    · exact .inr (Nat.le_trans h.size h1)
  tape := x.tape.trans h.tape
  os := x.os.trans h.os
  output := x.output.trans h.output
theorem Ex0.cov {Ψ Ψ' : Ren} {s s' : S} {w : World} (h : Ex0 Φ0 s0 w0 Ψ s w) (hi : ∀ β, Im Ψ' s'.h β → Im Ψ s.h β) : Ex0 Φ0 s0 w0 Ψ' s' w :=
  ⟨h.size, h.frame, fun β hb => h.im β (hi β hb), h.tape, h.os, h.output⟩
/-- where the numbers stand -/
structure Nums (Ψ : Ren) (z F L N : Nat) : Prop where
  z : Ψ 63 = some ⟨63, 0, z⟩
  f : Ψ 62 = some ⟨62, 0, F⟩
  l : Ψ 61 = some ⟨61, 0, L⟩
  n : Ψ 60 = some ⟨60, 0, N⟩
theorem Nums.ext {Ψ Ψ' : Ren} {z F L N : Nat} {s s' : S} {w w' : World} (h : Nums Ψ z F L N) (hd : Dom Ψ s.nx) (x : Ext Ψ s w Ψ' s' w') : Nums Ψ' z F L N :=
  ⟨x.le hd _ _ h.z, x.le hd _ _ h.f, x.le hd _ _ h.l, x.le hd _ _ h.n⟩
theorem AF.atF_eq (fr : AF) (i : Nat) (v : Value) : atF fr i v = ⟨Tr.set fr.tm i (some v), fr.nt, fr.df⟩ := by cases fr; rfl
theorem FrR.atF {bs : List Deferred} {Ψ : Ren} {fr : AF} {a : Act} {i : Nat} {v v' : Value} (h : FrR P bs Ψ fr a) (hv : VR Ψ v v') (ha : a.tmps[i]? = some v') : FrR P bs Ψ (Ev.atF fr i v) a := by
  rw [AF.atF_eq]
  refine ⟨⟨h.tm.gl, fun t u hu => ?_⟩, h.nt, h.df⟩
  have hu' : (Tr.set fr.tm i (some v)).get t = some u := hu
  rw [get_set] at hu'
  by_cases e : t = i
  · rw [if_pos e] at hu'; cases hu'; subst e; exact ⟨v', ha, hv⟩
  · rw [if_neg e] at hu'; exact h.tm.get t u hu'
theorem contV_ok {Ψ : Ren} {z F L N k : Nat} {lit : Bool} (h : Nums Ψ z F L N) (hN : N ≤ 200) (hF : F ≤ 6000) (hk : (bif lit then 0 else z) + k ≤ F) : VR Ψ (contV lit k) (.int .i64 (F : Int)) := by
  cases lit with
  | true => exact .sy _ _ _ (.inr ⟨_, _, _, _, h.z, h.f, h.l, h.n, rfl, by simpa using hk, hF, hN⟩)
  | false => exact .sy _ _ _ (.inr ⟨_, _, _, _, h.z, h.f, h.l, h.n, rfl, by simpa using hk, hF⟩)
theorem stopV_ok {Ψ : Ren} {z F L N k : Nat} {lit : Bool} (h : Nums Ψ z F L N) (hF : F ≤ 6000) (hk : (bif lit then 0 else z) + k = F) : VR Ψ (stopV lit k) (.int .i64 (F : Int)) := by
  cases lit with
  | true =>
    have : k = F := by simpa using hk
    subst this
    exact .int _ _
  | false =>
    have hk' : z + k = F := by simpa using hk
    refine .sy _ _ _ (.inr ⟨_, _, _, _, h.z, h.f, h.l, h.n, ?_, by omega, by show z ≤ 6000; omega⟩)
    show Value.int .i64 (F : Int) = .int .i64 ((z : Int) + k)
    congr 1
    omega
theorem hasF_eq {bs : List Deferred} {Ψ : Ren} {z F L N : Nat} {fr : AF} {a : Act} {i : Nat} (h : hasF fr i = true) (hf : FrR P bs Ψ fr a) (hn : Nums Ψ z F L N) : fr.df = [] ∧ a.tmps[i]? = some (.int .i64 (F : Int)) := by
  obtain ⟨tm, nt, df⟩ := fr
  have h' : band (List.casesOn (motive := fun _ => Bool) df true (fun _ _ => false)) (Option.casesOn (motive := fun _ => Bool) (tm.get i) false isFV) = true := h
  rw [band_eq, Bool.and_eq_true] at h'
  refine ⟨(by cases df with | nil => rfl | cons _ _ => cases h'.1), ?_⟩
  cases hg : tm.get i with
  | none => rw [hg] at h'; cases h'.2
  | some v =>
    rw [hg] at h'
    obtain ⟨v', e1, e2⟩ := hf.tm.get i v hg
    have h2 : isFV v = true := h'.2
    unfold isFV at h2
    split at h2
    · rw [bor_eq, Bool.or_eq_true, beq_nat, beq_nat] at h2
      rw [e1]
      congr 1
      rcases e2.sy_inv with hs | ⟨lz, lF, lL, l, q1, q2, q3, q4, q5⟩
      · exfalso
        rcases h2 with rfl | rfl <;> exact hs
      · rw [hn.f] at q2; cases q2
        rcases h2 with rfl | rfl
        · exact q5.1
        · exact q5.1
    · cases h2
theorem stopsAt_get {f0 : Nat} {cd : AF → S → Option (Ex × AF × S)} {iF : Nat} {lit : Bool} {fin : Nat → S → Bool} {o : Nat} {fr : AF} {s : S} : ∀ {d k : Nat}, stopsAt f0 cd iF lit fin o fr s d = true → k < d → f0 ≤ o + k →
    ∃ fr' s', cd (atF fr iF (stopV lit (o + k))) s = some (.ret, fr', s') ∧ fr'.df = [] ∧ fin (o + k) s' = true := by
  intro d
  induction d with
  | zero => intro k _ hk; omega
  | succ d ih =>
    intro k h hk hk0
    have h' : band (bi (Nat.blt (o + d) f0) true (Option.casesOn (motive := fun _ => Bool) (cd (atF fr iF (stopV lit (o + d))) s) false (pr fun x p => pr (fun fr' s' => band (band (isRet x) (noDf fr')) (fin (o + d) s')) p))) (stopsAt f0 cd iF lit fin o fr s d) = true := h
    rw [band_eq, Bool.and_eq_true] at h'
    by_cases e : k = d
    · subst e
      have h1 := h'.1
      rw [bi_eq, if_neg (by rw [blt_nat]; omega)] at h1
      cases hx : cd (atF fr iF (stopV lit (o + k))) s with
      | none => simp only [hx] at h1; cases h1
      | some y =>
        obtain ⟨x, fr', s'⟩ := y
        simp only [hx] at h1
        have h2 : band (band (isRet x) (noDf fr')) (fin (o + k) s') = true := h1
        rw [band_eq, Bool.and_eq_true, band_eq, Bool.and_eq_true] at h2
        cases x with
        | normal => cases h2.1.1
        | exit id => cases h2.1.1
        | ret => exact ⟨fr', s', rfl, noDf_eq h2.1.2, h2.2⟩
    · exact ih h'.2 (by omega) hk0
/-- what the chain comes to: an end that 'fin' knows, or the last state, of which 'K' speaks -/
theorem chain_sound {f0 : Nat} {r : Rec} {n : Nat} {c : Code} {iF : Nat} {lit : Bool} {fin : Nat → S → Bool} {end_ : AF → S → Bool} {Q : Exit → Act → World → Prop} {z F L N m : Nat} {KE : Nat → Prop} {keep : Nat → Prop}
    (hC : CodeOK P r n) (hN : N ≤ 200) (hF : F ≤ 6000) (hf0 : (lit = true ∧ f0 ≤ F) ∨ f0 = 0)
    (hfin : ∀ k Ψ s' w' a', (bif lit then 0 else z) + k = F → fin k s' = true → Rel Ψ s' w' → Nums Ψ z F L N → Ex0 Φ0 s0 w0 Ψ s' w' → (∀ a, keep a → Ψ a = Φ0 a) → a'.defers = [] → Q .ret a' w')
    (hend : ∀ Ψ fr' s' w' a', end_ fr' s' = true → FrR P [] Ψ fr' a' → a'.tmps[iF]? = some (.int .i64 (F : Int)) → fr'.df = [] → Rel Ψ s' w' → Nums Ψ z F L N → Ex0 Φ0 s0 w0 Ψ s' w' → (∀ a, keep a → Ψ a = Φ0 a) → KE F → Code.rounds P c Q m a' w') :
    ∀ (ds : List Nat) (o : Nat) (fr : AF) (s : S) (Ψ : Ren) (a : Act) (w : World), chain f0 (r.cd c) iF lit fin end_ ds o fr s = true → ((bif lit then 0 else z) + o + ds.sum ≤ F → KE F) → (bif lit then 0 else z) + o ≤ F →
      FrR P [] Ψ fr a → fr.df = [] → a.tmps[iF]? = some (.int .i64 (F : Int)) → Rel Ψ s w → Nums Ψ z F L N → Ex0 Φ0 s0 w0 Ψ s w → (∀ a, keep a → Ψ a = Φ0 a ∧ a < s.nx) →
      (∀ a, keep a → Ψ a = Φ0 a) → Code.rounds P c Q (ds.length + m) a w := by
  intro ds
  induction ds with
  | nil =>
    intro o fr s Ψ a w h hKE ho hf hd ha hr hn hx hk hk'
    have h' : end_ fr s = true := h
    have e : ([] : List Nat).length + m = m := by simp
    rw [e]
    exact hend Ψ fr s w a h' hf ha hd hr hn hx hk' (hKE (by simpa using ho))
  | cons d ds ih =>
    intro o fr s Ψ a w h hKE ho hf hd ha hr hn hx hk hk'
    have h' : band (stopsAt f0 (r.cd c) iF lit fin o fr s d) (Option.casesOn (motive := fun _ => Bool) (r.cd c (atF fr iF (contV lit (o + d))) s) false
      (pr fun x p => pr (fun fr' s' => band (band (chain.isNormX x) (hasF fr' iF)) (chain f0 (r.cd c) iF lit fin end_ ds (o + d) fr' s')) p)) = true := h
    rw [band_eq, Bool.and_eq_true] at h'
    obtain ⟨h1, h2⟩ := h'
    have e : (d :: ds).length + m = (ds.length + m) + 1 := by simp; omega
    rw [e]
    show c.wp P (Exit.then (Code.rounds P c Q (ds.length + m)) Q) a w
    by_cases hlt : (bif lit then 0 else z) + o + d ≤ F
    · cases hx1 : r.cd c (atF fr iF (contV lit (o + d))) s with
      | none => simp only [hx1] at h2; cases h2
      | some y =>
        obtain ⟨x, fr', s'⟩ := y
        simp only [hx1] at h2
        have h3 : band (band (chain.isNormX x) (hasF fr' iF)) (chain f0 (r.cd c) iF lit fin end_ ds (o + d) fr' s') = true := h2
        rw [band_eq, Bool.and_eq_true, band_eq, Bool.and_eq_true] at h3
        obtain ⟨⟨h4, h5⟩, h6⟩ := h3
        cases x with
        | exit id => cases h4
        | ret => cases h4
        | normal =>
          refine (hC c _ s .normal fr' s' hx1 Ψ a w (hf.atF (contV_ok hn hN hF (by omega)) ha) hr).1 _ fun Ψ' w' a' q1 q2 q3 => ?_
          have hn' := hn.ext hr.dom q3
          obtain ⟨e1, e2⟩ := hasF_eq h5 q1 hn'
          have hk2 : ∀ a, keep a → Ψ' a = Φ0 a := fun a ha => by rw [q3.ag a (hk a ha).2]; exact (hk a ha).1
          exact ih (o + d) fr' s' Ψ' a' w' h6 (fun hh => hKE (by simp at hh ⊢; omega)) (by omega) q1 e1 e2 q2 hn' (hx.step q3) (fun a ha => ⟨hk2 a ha, Nat.lt_of_lt_of_le (hk a ha).2 q3.nx⟩) hk2
    · obtain ⟨k, hk1, hk2⟩ : ∃ k, k < d ∧ (bif lit then 0 else z) + (o + k) = F := ⟨F - (bif lit then 0 else z) - o, by omega, by omega⟩
      have hk0 : f0 ≤ o + k := by
        rcases hf0 with ⟨hl, hf0⟩ | hf0
        · rw [hl] at hk2
          simp only [cond_true] at hk2
          omega
        · omega
      obtain ⟨fr', s', g1, g2, g3⟩ := stopsAt_get h1 hk1 hk0
      refine (hC c _ s .ret fr' s' g1 Ψ a w (hf.atF (stopV_ok hn hF hk2) ha) hr).1 _ fun Ψ' w' a' q1 q2 q3 => ?_
      have hdf : a'.defers = [] := by
        have := q1.df
        rw [g2] at this
        exact this.nil_inv
      exact hfin (o + k) Ψ' s' w' a' hk2 g3 q2 (hn.ext hr.dom q3) (hx.step q3) (fun a ha => by rw [q3.ag a (hk a ha).2]; exact (hk a ha).1) hdf
end
end Go.Ev

/-! A loop whose rounds are told, 2: the rounds that come back to where they began. -/
namespace Go.Ev
open Go Go.Lib
set_option linter.unusedSimpArgs false
set_option linter.unusedVariables false
/-- where the rounds come back to: the objects, the temporaries; how many steps the rounds take, how the objects are named anew; what is told at an end -/
structure LimT where
  TL : List (Nat × AB)
  nT : Nat
  TF : List (Nat × Value)
  nt : Nat
  ds : List Nat
  ps : List (Nat × Nat × Nat)
  FL : List (Nat × AB)
  nF : Nat
  psF : List (Nat × Nat × Nat)
  keep : List Nat
  iF : Nat
noncomputable section
def covFr (p : CP) (ps : List (Nat × Nat × Nat)) (tm : Tr Value) (l : List (Nat × Value)) : Bool :=
  List.rec (motive := fun _ => Bool) true (fun q _ ih => band (Option.casesOn (motive := fun _ => Bool) (tm.get q.1) false (fun v => covV p ps 20 q.2 v)) ih) l
def keepOK (ps : List (Nat × Nat × Nat)) (n : Nat) (l : List Nat) : Bool :=
  List.rec (motive := fun _ => Bool) true (fun a _ ih => band (band (isN (rho ps a) a) (Nat.blt a n)) ih) l
def endT (T : LimT) (p : CP) (ps : List (Nat × Nat × Nat)) (fr : AF) (s : S) : Bool :=
  AF.rec (motive := fun _ => Bool) (fun tm nt _ => band (band (Nat.beq nt T.nt) (covFr p ps tm T.TF)) (covH p ps s.h T.TL)) fr
def finP (lit : Bool) (k : Nat) : CP := ⟨0, 200, true, 0, 3, bi lit 1 2, k⟩
def finT (T : LimT) (lit : Bool) (k : Nat) (s : S) : Bool := covH (finP lit k) T.psF s.h T.FL
def perP : CP := ⟨0, 200, false, 7, 1, 0, 0⟩
def sumN (l : List Nat) : Nat := List.rec (motive := fun _ => Nat) 0 (fun x _ ih => x + ih) l
/-- the rounds come back -/
def perOK (T : LimT) (cd : AF → S → Option (Ex × AF × S)) : Bool :=
  band (band (band (rises T.ps T.nT 64 64) (keepOK T.ps T.nT T.keep)) (band (rises T.psF T.nF 64 64) (keepOK T.psF T.nF T.keep)))
    (band (Nat.beq (sumN T.ds) 7) (chain 0 cd T.iF false (finT T false) (endT T perP T.ps) T.ds 0 ⟨ofList T.TF, T.nt, []⟩ ⟨ofList T.TL, T.nT⟩))
end
theorem sumN_eq (l : List Nat) : sumN l = l.sum := by
  induction l with
  | nil => rfl
  | cons x l ih => show x + sumN l = _; rw [ih]; simp
theorem keepOK_mem {ps : List (Nat × Nat × Nat)} {n : Nat} : ∀ {l : List Nat}, keepOK ps n l = true → ∀ a ∈ l, rho ps a = some a ∧ a < n := by
  intro l
  induction l with
  | nil => intro _ a h; cases h
  | cons x l ih =>
    intro h a ha
    have h' : band (band (isN (rho ps x) x) (Nat.blt x n)) (keepOK ps n l) = true := h
    rw [band_eq, Bool.and_eq_true, band_eq, Bool.and_eq_true, blt_nat] at h'
    rcases List.mem_cons.1 ha with rfl | ha
    · exact ⟨isN_eq h'.1.1, h'.1.2⟩
    · exact ih h'.2 a ha
section
variable {P : Program} {Φ0 : Ren} {s0 : S} {w0 : World}
theorem covFr_sound {p : CP} {ps : List (Nat × Nat × Nat)} {Φ : Ren} {z F L N : Nat} {tm : Tr Value} {tmps : Array Value} (hp : CPok p Φ z F L N) (hg : GlR (covR ps Φ z F L N)) (ht : TmR Φ tm tmps) :
    ∀ {l : List (Nat × Value)}, covFr p ps tm l = true → TmR (covR ps Φ z F L N) (ofList l) tmps := by
  intro l h
  refine ⟨hg, fun t v hv => ?_⟩
  have hmem := get_ofList _ _ _ hv
  have key : ∀ {l : List (Nat × Value)}, covFr p ps tm l = true → (t, v) ∈ l → ∃ u, tm.get t = some u ∧ covV p ps 20 v u = true := by
    intro l
    induction l with
    | nil => intro _ h; cases h
    | cons q l ih =>
      intro h hm
      have h' : band (Option.casesOn (motive := fun _ => Bool) (tm.get q.1) false (fun v => covV p ps 20 q.2 v)) (covFr p ps tm l) = true := h
      rw [band_eq, Bool.and_eq_true] at h'
      rcases List.mem_cons.1 hm with rfl | hm
      · cases hq : tm.get t with
        | none => have h1 := h'.1; simp only [hq] at h1; cases h1
        | some u => have h1 := h'.1; simp only [hq] at h1; exact ⟨u, rfl, h1⟩
      · exact ih h'.2 hm
  obtain ⟨u, e1, e2⟩ := key h hmem
  obtain ⟨v', e3, e4⟩ := ht.get t u e1
  exact ⟨v', e3, covV_sound hp _ _ _ _ e2 e4⟩
/-- behind the loop -/
structure LimQ (T : LimT) (Φ0 : Ren) (s0 : S) (w0 : World) (F N : Nat) (w : World) : Prop where
  out : ∃ Ψ, Rel Ψ ⟨ofList T.FL, T.nF⟩ w ∧ Nums Ψ 0 F 3 N ∧ Ex0 Φ0 s0 w0 Ψ ⟨ofList T.FL, T.nF⟩ w ∧ ∀ a ∈ T.keep, Ψ a = Φ0 a
theorem fin_sound {T : LimT} {lit : Bool} {k z F L N : Nat} {Ψ : Ren} {s' : S} {w' : World} (hrise : rises T.psF T.nF 64 64 = true) (hkeep : keepOK T.psF T.nF T.keep = true) (hN : N ≤ 200) (hF : F ≤ 6000)
    (hk : (bif lit then 0 else z) + k = F) (h : finT T lit k s' = true) (hr : Rel Ψ s' w') (hn : Nums Ψ z F L N) (hx : Ex0 Φ0 s0 w0 Ψ s' w') (hkp : ∀ a, a ∈ T.keep → Ψ a = Φ0 a) : LimQ T Φ0 s0 w0 F N w' := by
  have hp : CPok (finP lit k) Ψ 0 F 3 N := by
    refine ⟨Nat.zero_le _, hN, hN, ?_, fun _ => Nat.zero_le _, fun _ => Nat.le_refl _, fun _ => by omega, fun _ _ => rfl, fun _ _ => rfl, ?_, ?_, fun _ => hF, ?_, ?_, ?_⟩
    · intro l hl; rw [hn.n] at hl; cases hl; rfl
    · intro _ e; cases e
    · intro _ e; cases e
    · intro e
      cases lit with
      | true => show F = k; simpa using hk.symm
      | false => cases e
    · intro e l hl
      cases lit with
      | true => cases e
      | false =>
        rw [hn.z] at hl; cases hl
        show F = z + k
        simpa using hk.symm
    · intro e
      cases lit <;> cases e
  obtain ⟨h1, h2⟩ := cov_rel (F := F) hp hr hrise h
  exact ⟨_, h1, ⟨covR_63, covR_62, covR_61, covR_60⟩, hx.cov h2, fun a ha => by rw [covR_rho (keepOK_mem hkeep a ha).1]; exact hkp a ha⟩
theorem per_rounds {T : LimT} {r : Rec} {n : Nat} {c : Code} {Q : Exit → Act → World → Prop} {F N : Nat} (hC : CodeOK P r n) (h : perOK T (r.cd c) = true) (hN : N ≤ 200) (hF : F ≤ 6000)
    (hQ : ∀ a' w', a'.defers = [] → LimQ T Φ0 s0 w0 F N w' → Q .ret a' w') :
    ∀ (k z L : Nat) (Ψ : Ren) (a : Act) (w : World), F ≤ z + k → z ≤ F → 3 ≤ L → 7 * L ≤ z + 1000 → Rel Ψ ⟨ofList T.TL, T.nT⟩ w → FrR P [] Ψ ⟨ofList T.TF, T.nt, []⟩ a → a.tmps[T.iF]? = some (.int .i64 (F : Int)) →
      Nums Ψ z F L N → Ex0 Φ0 s0 w0 Ψ ⟨ofList T.TL, T.nT⟩ w → (∀ a ∈ T.keep, Ψ a = Φ0 a) → Code.rounds P c Q (T.ds.length * (k + 1)) a w := by
  unfold perOK at h
  simp only [band_eq, Bool.and_eq_true, beq_nat] at h
  obtain ⟨⟨⟨h1, h2⟩, h3, h4⟩, h5, h6⟩ := h
  intro k
  induction k using Nat.strongRecOn with
  | _ k ih =>
    intro z L Ψ a w hk hz hL hzL hr hf ha hn hx hkp
    have hsum : T.ds.sum = 7 := by rw [← sumN_eq]; exact h5
    have key := chain_sound (P := P) (Φ0 := Φ0) (s0 := s0) (w0 := w0) (r := r) (n := n) (c := c) (iF := T.iF) (lit := false) (fin := finT T false) (end_ := endT T perP T.ps) (Q := Q) (z := z) (F := F) (L := L) (N := N)
      (m := T.ds.length * k) (KE := fun _ => z + 7 ≤ F) (keep := fun a => a ∈ T.keep) (f0 := 0) hC hN hF (.inr rfl)
      (fun k' Ψ' s' w' a' e1 e2 e3 e4 e5 e6 e7 => hQ a' w' e7 (fin_sound h3 h4 hN hF e1 e2 e3 e4 e5 e6))
      (fun Ψ' fr' s' w' a' e1 e2 e3 e4 e5 e6 e7 e8 e9 => by
        obtain ⟨tm, nt, df⟩ := fr'
        have e1' : band (band (Nat.beq nt T.nt) (covFr perP T.ps tm T.TF)) (covH perP T.ps s'.h T.TL) = true := e1
        rw [band_eq, Bool.and_eq_true, band_eq, Bool.and_eq_true, beq_nat] at e1'
        obtain ⟨⟨g1, g2⟩, g3⟩ := e1'
        have hp : CPok perP Ψ' (z + 7) F (L + 1) N := by
          refine ⟨Nat.zero_le _, hN, hN, ?_, fun _ => by omega, fun _ => by omega, fun _ => by omega, (fun _ e => by cases e), (fun _ e => by cases e), ?_, ?_, fun _ => hF, (fun e => by cases e), (fun e => by cases e), (fun e => by cases e)⟩
          · intro l hl; rw [e6.n] at hl; cases hl; rfl
          · intro _ _ l hl; rw [e6.z] at hl; cases hl; rfl
          · intro _ _ l hl; rw [e6.l] at hl; cases hl; rfl
        obtain ⟨q1, q2⟩ := cov_rel (F := F) hp e5 h1 g3
        have hfr : FrR P [] (covR T.ps Ψ' (z + 7) F (L + 1) N) ⟨ofList T.TF, T.nt, []⟩ a' := by
          refine ⟨covFr_sound hp q1.gl e2.tm g2, e2.nt.trans g1, ?_⟩
          have hdf := e2.df
          have e4' : df = [] := e4
          subst e4'
          have : a'.defers = [] := hdf.nil_inv
          rw [this]; exact .nil
        have h7 : 7 ≤ k := by omega
        have := ih (k - 7) (by omega) (z + 7) (L + 1) (covR T.ps Ψ' (z + 7) F (L + 1) N) a' w' (by omega) e9 (by omega) (by omega) q1 hfr e3 ⟨covR_63, covR_62, covR_61, covR_60⟩ (e7.cov q2)
          (fun b hb => by rw [covR_rho (keepOK_mem h2 b hb).1]; exact e8 b hb)
        exact rounds_le (Nat.mul_le_mul_left _ (by omega)) this)
      T.ds 0 ⟨ofList T.TF, T.nt, []⟩ ⟨ofList T.TL, T.nT⟩ Ψ a w h6 (fun hh => by simp at hh; omega) (by simpa using hz) hf rfl ha hr hn hx (fun b hb => ⟨hkp b hb, (keepOK_mem h2 b hb).2⟩) hkp
    have e : T.ds.length * (k + 1) = T.ds.length + T.ds.length * k := by rw [Nat.mul_add, Nat.mul_one, Nat.add_comm]
    rw [e]
    exact key
end
end Go.Ev

/-! A loop whose rounds are told, 3: the call. -/
namespace Go.Ev
open Go Go.Lib
set_option linter.unusedSimpArgs false
set_option linter.unusedVariables false
/-- what a told call does, wherever that shows it -/
def MemRun (P : Program) (f : FuncId) (m : Mem) : Prop := ∀ (args' : Array Value) (Φ : Ren) (w : World), Rel Φ ⟨ofList m.pre, m.nx⟩ w → VRs Φ m.args args'.toList →
  Answers P f args' w fun v' w' => ∃ Φ' s1, VR Φ' m.v v' ∧ Rel Φ' s1 w' ∧ Ext Φ ⟨ofList m.pre, m.nx⟩ w Φ' s1 w' ∧ s1.nx = m.nx' ∧ hasAll s1.h m.post = true
theorem mem_sound' {P : Program} {f : FuncId} {m : Mem} (hok : memOK m = true) (H : MemRun P f m)
    {args : List Value} {args' : Array Value} {s : S} {v : Value} {s' : S} {Φ : Ren} {w : World} (h : memF m args s = some (v, s')) (hr : Rel Φ s w) (ha : VRs Φ args args'.toList) :
    Answers P f args' w fun v' w' => ∃ Φ', VR Φ' v v' ∧ Rel Φ' s' w' ∧ Ext Φ s w Φ' s' w' := by
  obtain ⟨h1, h2⟩ := gd_eq h
  cases h2
  rw [band_eq, Bool.and_eq_true, band_eq, Bool.and_eq_true, beq_nat] at h1
  obtain ⟨ha0, hnx, hpre⟩ := h1
  have ha1 := vsEq_eq (vEqN_eq 20) ha0
  subst ha1
  unfold memOK at hok
  rw [band_eq, Bool.and_eq_true, band_eq, Bool.and_eq_true] at hok
  obtain ⟨hfr, hid, hpa⟩ := hok
  have hfr := allFresh_mem hfr
  have hid := allIn_mem hid
  have hpa := allIn_mem hpa
  have hpre := hasAll_mem hpre
  have hsub : ∀ a B, (⟨ofList m.pre, m.nx⟩ : S).h.get a = some B → s.h.get a = some B := fun a B hg => hpre (a, B) (get_ofList _ _ _ hg)
  obtain ⟨hr0, _⟩ := hr.less (s' := ⟨ofList m.pre, m.nx⟩) hsub hnx
  have him : ∀ {β}, Im Φ (ofList m.pre) β → Im Φ s.h β := fun hi => Im.less hsub hi
  refine (H args' Φ w hr0 ha).mono fun v' w' => ?_
  rintro ⟨Φ', s1, g1, g2, g3, e2, hpost⟩
  have hpost := hasAll_mem hpost
  have hnxle : s.nx ≤ m.nx' := by have := g3.nx; have e : (⟨ofList m.pre, m.nx⟩ : S).nx = m.nx := rfl; omega
  have hag : ∀ a, a < s.nx → Φ' a = Φ a := fun a h => g3.ag a (by show a < m.nx; omega)
  -- what stands behind it
  have hget : ∀ a B, (memS m s).h.get a = some B → ((a, B) ∈ m.post ∧ s1.h.get a = some B) ∨ (s.h.get a = some B ∧ a ∉ idsOf m.pre ∧ a ∉ pasOf m.pre ∧ a ∉ idsOf m.post) := by
    intro a B hg
    rcases get_puts (show (puts (drops s.h m.pre) m.post).get a = some B from hg) with h1 | ⟨h1, h2⟩
    · exact .inl ⟨h1, hpost _ h1⟩
    · obtain ⟨h3, h4, h5⟩ := get_drops h2
      exact .inr ⟨h3, h4, h5, h1⟩
  have hlt : ∀ a B, s.h.get a = some B → a < s.nx := fun a B hg => by
    rcases Nat.lt_or_ge a s.nx with h | h
    · exact h
    · obtain ⟨l, q1, _⟩ := hr.live a B hg
      rw [hr.dom a h] at q1; cases q1
  -- an object beside lies in no block that the call knows of
  have hside : ∀ a B l, s.h.get a = some B → a ∉ idsOf m.pre → a ∉ pasOf m.pre → Φ a = some l → ¬ Im Φ (ofList m.pre) l.b := by
    intro a B l hg hn1 hn2 hl ⟨b, B0, l0, q1, q2, q3⟩
    have hmem := get_ofList _ _ _ q1
    have hne : a ≠ b := fun e => hn1 (e ▸ mem_ids hmem)
    rcases hr.apart a b B B0 l l0 hg (hsub b B0 q1) hne hl q2 q3.symm with h | h
    · exact fresh_not (hfr _ hmem) (hr.heir a B b B0 hg h (hsub b B0 q1))
    · exact hn2 (mem_pas hmem h)
  have hfar : ∀ a B l b B' l', s.h.get a = some B → a ∉ idsOf m.pre → a ∉ pasOf m.pre → Φ a = some l → s1.h.get b = some B' → Φ' b = some l' → l.b ≠ l'.b := by
    intro a B l b B' l' hg hn1 hn2 hl hg' hl' e
    rcases g3.im l'.b ⟨b, B', l', hg', hl', rfl⟩ with h | h
    · exact hside a B l hg hn1 hn2 hl (e ▸ h)
    · have := Im.lt hr.toHRel ⟨a, B, l, hg, hl, rfl⟩
      omega
  have hΦ : ∀ a B l, s.h.get a = some B → Φ' a = some l → Φ a = some l := fun a B l hg hl => by rw [← hag a (hlt a B hg)]; exact hl
  refine ⟨Φ', g1, ⟨⟨fun a B hg => ?_, fun a b B B' l l' hg hg' hne hl hl' he => ?_, fun a B p Q hg hp hq => ?_, fun a B p Q l l' hg hp hq hl hl' he => ?_⟩, ?_, fun a B p hg hp => ?_, g2.gl⟩, ?_⟩
  · rcases hget a B hg with ⟨_, h⟩ | ⟨h, n1, n2, _⟩
    · exact g2.live a B h
    · obtain ⟨l, q1, q2⟩ := hr.live a B h
      refine ⟨l, by rw [hag a (hlt a B h)]; exact q1, ?_⟩
      rw [g3.frame l.b (Im.lt hr.toHRel ⟨a, B, l, h, q1, rfl⟩) (hside a B l h n1 n2 q1)]
      have hle : Φ.le Φ' := g3.le (by show Dom Φ m.nx; rw [hnx]; exact hr.dom)
      exact q2.mono hle
  · rcases hget a B hg with ⟨_, h⟩ | ⟨h, n1, n2, _⟩
    · rcases hget b B' hg' with ⟨_, h'⟩ | ⟨h', n1', n2', _⟩
      · exact g2.apart a b B B' l l' h h' hne hl hl' he
      · exact absurd he.symm (hfar b B' l' a B l h' n1' n2' (hΦ b B' l' h' hl') h hl)
    · rcases hget b B' hg' with ⟨_, h'⟩ | ⟨h', n1', n2', _⟩
      · exact absurd he (hfar a B l b B' l' h n1 n2 (hΦ a B l h hl) h' hl')
      · exact hr.apart a b B B' l l' h h' hne (hΦ a B l h hl) (hΦ b B' l' h' hl') he
  · rcases hget a B hg with ⟨hm, h⟩ | ⟨h, n1, n2, _⟩
    · rcases hget p Q hq with ⟨_, h'⟩ | ⟨h', n1', n2', _⟩
      · exact g2.heir a B p Q h hp h'
      · exfalso
        rcases hpa p (mem_pas hm hp) with q | q
        · rcases List.mem_append.1 q with q | q
          · exact n1' q
          · exact n2' q
        · have := hlt p Q h'; omega
    · rcases hget p Q hq with ⟨hm', h'⟩ | ⟨h', _⟩
      · exfalso
        have hplt := hr.pas a B p h hp
        rcases hid p (mem_ids hm') with q | q
        · obtain ⟨B0, hB0⟩ := ids_mem q
          exact fresh_not (hfr _ hB0) (hr.heir a B p B0 h hp (hpre _ hB0))
        · omega
      · exact hr.heir a B p Q h hp h'
  · rcases hget a B hg with ⟨hm, h⟩ | ⟨h, n1, n2, _⟩
    · rcases hget p Q hq with ⟨_, h'⟩ | ⟨h', n1', n2', _⟩
      · exact g2.ends a B p Q l l' h hp h' hl hl' he
      · exact absurd he.symm (hfar p Q l' a B l h' n1' n2' (hΦ p Q l' h' hl') h hl)
    · rcases hget p Q hq with ⟨hm', h'⟩ | ⟨h', _⟩
      · exact absurd he (hfar a B l p Q l' h n1 n2 (hΦ a B l h hl) h' hl')
      · exact hr.ends a B p Q l l' h hp h' (hΦ a B l h hl) (hΦ p Q l' h' hl') he
  · show Dom Φ' m.nx'
    rw [← e2]; exact g2.dom
  · show p < m.nx'
    rcases hget a B hg with ⟨_, h⟩ | ⟨h, _⟩
    · rw [← e2]; exact g2.pas a B p h hp
    · have := hr.pas a B p h hp; omega
  · refine ⟨hnxle, hag, g3.size, fun β hβ hi => g3.frame β hβ fun h => hi (him h), fun β hβ => ?_, g3.tape, g3.os, g3.output⟩
    obtain ⟨a, B, l, q1, q2, q3⟩ := hβ
    rcases hget a B q1 with ⟨_, h⟩ | ⟨h, _⟩
    · rcases g3.im β ⟨a, B, l, h, q2, q3⟩ with h | h
      · exact .inl (him h)
      · exact .inr h
    · exact .inl ⟨a, B, l, h, hΦ a B l h q2, q3⟩
theorem OvF.memRun {P : Program} {f : FuncId} {g : List Value → S → Option (Value × S)} {m : Mem} {l : List Mem} (hm : memOK m = true) (hr : MemRun P f m) (hl : OvF P f (Ev.memL l g)) : OvF P f (Ev.memL (m :: l) g) := by
  intro args args' s v s' Φ w hx hr' ha
  have hx' : Option.rec (motive := fun _ => Option (Value × S)) (Ev.memL l g args s) some (memF m args s) = some (v, s') := hx
  cases hq : memF m args s with
  | none => rw [hq] at hx'; exact hl args args' s v s' Φ w hx' hr' ha
  | some y => rw [hq] at hx'; cases hx'; exact mem_sound' hm hr hq hr' ha
/-- a class of lengths -/
structure ClsD where
  lo : Nat
  hi : Nat
  pre : List (Nat × AB)
  ds : List Nat
  L1 : Nat
  ps : List (Nat × Nat × Nat)
noncomputable section
/-- before the rounds -/
def refP (K : ClsD) : CP := ⟨K.lo, K.hi, true, 0, 3, 0, 0⟩
def inP (K : ClsD) : CP := ⟨K.lo, K.hi, true, sumN K.ds, K.L1, 0, 0⟩
def idP (n : Nat) : List (Nat × Nat × Nat) := [(64, n, 64)]
/-- pieces of one number each, that stay, of those that are kept -/
def idPs (keep : List Nat) (ps : List (Nat × Nat × Nat)) : Bool :=
  List.rec (motive := fun _ => Bool) true (fun p _ ih => band (band (band (Nat.beq p.2.2 p.1) (Nat.beq p.2.1 (p.1 + 1))) (elemN p.1 keep)) ih) ps
def clsOK (T : LimT) (cd : AF → S → Option (Ex × AF × S)) (mp : Addr) (nx : Nat) (pre : List (Nat × AB)) (K : ClsD) : Bool :=
  band (band (band (Nat.ble 64 nx) (covH (refP K) (idP nx) (ofList pre) K.pre)) (band (rises K.ps T.nT 64 64) (keepOK K.ps T.nT T.keep)))
    (band (band (Nat.ble 3 K.L1) (Nat.ble (7 * K.L1) (sumN K.ds + 1000)))
      (chain 3 cd T.iF true (finT T true) (endT T (inP K) K.ps) K.ds 0 ⟨ofList [(0, .pointer (some mp))], T.nt, []⟩ ⟨ofList K.pre, nx⟩))
def finalP : CP := ⟨0, 200, true, 0, 0, 3, 0⟩
def limOK (T : LimT) (nx : Nat) (mp : Addr) : Bool :=
  band (band (band (rises T.psF nx 64 64) (idPs T.keep T.psF)) (band (covH finalP T.psF (ofList T.FL) T.FL) (hasAll (ofList T.FL) T.FL)))
    (band (band (allIn 60 T.keep (List.range 60)) (keepOK (idP nx) nx T.keep)) (band (Nat.blt mp.block nx) (band (Nat.ble 64 mp.block) mp.spot.isNone)))
end
theorem idPs_rho {keep : List Nat} : ∀ {ps : List (Nat × Nat × Nat)} {a b : Nat}, idPs keep ps = true → rhoP ps a = some b → b = a ∧ a ∈ keep := by
  intro ps
  induction ps with
  | nil => intro a b _ h; rw [rhoP_nil] at h; cases h
  | cons p ps ih =>
    intro a b h hr
    have h' : band (band (band (Nat.beq p.2.2 p.1) (Nat.beq p.2.1 (p.1 + 1))) (elemN p.1 keep)) (idPs keep ps) = true := h
    simp only [band_eq, Bool.and_eq_true, beq_nat] at h'
    obtain ⟨⟨⟨h1, h2⟩, h3⟩, h4⟩ := h'
    rw [rhoP_cons] at hr
    by_cases hp : p.1 ≤ a ∧ a < p.2.1
    · rw [if_pos hp] at hr
      have e := Option.some.inj hr
      have ea : a = p.1 := by omega
      subst ea
      exact ⟨by omega, elemN_mem h3⟩
    · rw [if_neg hp] at hr
      exact ih h4 hr
theorem idP_rho {n a b : Nat} (h : rhoP (idP n) a = some b) : b = a := by
  unfold idP at h
  rw [rhoP_cons, rhoP_nil] at h
  split at h
  · have := Option.some.inj h
    simp only at this
    omega
  · cases h
theorem idP_rises {n : Nat} (h : 64 ≤ n) : rises (idP n) n 64 64 = true := by
  show band (band (Nat.ble 64 64) (Nat.ble 64 n)) (band (Nat.ble 64 64) (Nat.ble n n)) = true
  simp only [band_eq, Bool.and_eq_true, ble_nat]
  omega
theorem Nums.of {Φ : Ren} (h : GlR Φ) : ∃ z F L N, Nums Φ z F L N := by
  obtain ⟨z, h1⟩ := h 63 (by omega)
  obtain ⟨F, h2⟩ := h 62 (by omega)
  obtain ⟨L, h3⟩ := h 61 (by omega)
  obtain ⟨N, h4⟩ := h 60 (by omega)
  exact ⟨z, F, L, N, h1, h2, h3, h4⟩
section
variable {P : Program}
/-- from its body to its answers -/
theorem answers_of_body {f : FuncId} {fn : Func} {c : Code} {args' : Array Value} {w : World} {T : Value → World → Prop} (hf : P.funcs[f]? = some fn) (hn : fn.name ≠ "runtime.NumGoroutine") (hb : fn.body = some c)
    (h : ∀ R : Ending → World → Prop, (∀ v' w', T v' w' → R (.returned v') w') → c.wp P (bodyPostD P fn R) { tmps := args' ++ Array.replicate (fn.ntmps - args'.size) undef, defers := [] } w) : Answers P f args' w T :=
  .inl ⟨callFunc_body hf hb hn, calls_of_wp_defers hf hb (h _ fun v' w' q => ⟨v', rfl, q⟩), callsD_of_wp_defers hf hb (h _ fun v' w' q => ⟨v', rfl, q⟩)⟩
theorem cls_rounds {T : LimT} {r rT : Rec} {n nT nx : Nat} {c : Code} {Q : Exit → Act → World → Prop} {F N z0 L0 : Nat} {K : ClsD} {mp : Addr} {pre : List (Nat × AB)} {Φ : Ren} {w : World} {a : Act} {mv : Value}
    (hC : CodeOK P r n) (hCT : CodeOK P rT nT) (hT : perOK T (rT.cd c) = true) (hK : clsOK T (r.cd c) mp nx pre K = true) (hL : limOK T nx mp = true) (hF3 : 3 ≤ F) (hF : F ≤ 6000) (h200 : N ≤ 200) (hlo : K.lo ≤ N) (hhi : N ≤ K.hi)
    (hr : Rel Φ ⟨ofList pre, nx⟩ w) (hn : Nums Φ z0 F L0 N) (hm : VR Φ (.pointer (some mp)) mv) (ha0 : a.tmps[0]? = some mv) (haF : a.tmps[T.iF]? = some (.int .i64 (F : Int))) (hsz : a.tmps.size = T.nt) (hd : a.defers = [])
    (hQ : ∀ a' w', a'.defers = [] → LimQ T Φ ⟨ofList pre, nx⟩ w F N w' → Q .ret a' w') :
    Code.rounds P c Q (K.ds.length + T.ds.length * (F + 1)) a w := by
  unfold clsOK at hK
  simp only [band_eq, Bool.and_eq_true, ble_nat] at hK
  obtain ⟨⟨⟨h64, hcov⟩, hrise, hkeep⟩, ⟨h3, h7⟩, hch⟩ := hK
  unfold limOK at hL
  simp only [band_eq, Bool.and_eq_true, blt_nat, ble_nat] at hL
  obtain ⟨_, ⟨_, hkid⟩, hmlt, hm64, hmsp⟩ := hL
  have hp0 : CPok (refP K) Φ 0 F 3 N := by
    refine ⟨hlo, hhi, h200, ?_, fun _ => Nat.zero_le _, fun _ => Nat.le_refl _, fun _ => by omega, fun _ _ => rfl, fun _ _ => rfl, (fun _ e => by cases e), (fun _ e => by cases e), fun _ => hF, (fun e => by cases e), (fun e => by cases e), (fun e => by cases e)⟩
    intro l hl; rw [hn.n] at hl; cases hl; rfl
  obtain ⟨hr0, him0⟩ := cov_rel (F := F) hp0 hr (idP_rises h64) hcov
  have hx0 : Ex0 Φ ⟨ofList pre, nx⟩ w (covR (idP nx) Φ 0 F 3 N) ⟨ofList K.pre, nx⟩ w := Ex0.refl.cov him0
  have hmp : ∃ l, Φ mp.block = some l ∧ mv = .pointer (some ⟨l.b, l.base + mp.off, none⟩) := by
    obtain ⟨a', rfl, ⟨l, hl, rfl⟩, _⟩ := hm.ptr_inv
    exact ⟨l, hl, rfl⟩
  obtain ⟨lm, hlm, rfl⟩ := hmp
  have hrm : rho (idP nx) mp.block = some mp.block := by
    have : rhoP (idP nx) mp.block = some mp.block := by
      unfold idP
      rw [rhoP_cons, if_pos ⟨hm64, hmlt⟩]
      congr 1
      simp only
      omega
    unfold rho
    rw [bi_eq, if_neg (by rw [blt_nat]; omega), this]
    have : Nat.ble 64 mp.block = true := ble_nat.2 hm64
    rw [this]; rfl
  have hmV : VR (covR (idP nx) Φ 0 F 3 N) (.pointer (some mp)) (.pointer (some ⟨lm.b, lm.base + mp.off, none⟩)) := by
    have hs : mp.spot = none := by simpa using hmsp
    exact AR.mk ⟨lm, by rw [covR_rho hrm]; exact hlm, rfl⟩ hs
  have hf0 : FrR P [] (covR (idP nx) Φ 0 F 3 N) ⟨ofList [(0, .pointer (some mp))], T.nt, []⟩ a := by
    refine ⟨⟨hr0.gl, fun t v hv => ?_⟩, hsz, by rw [hd]; exact .nil⟩
    have := get_ofList [(0, Value.pointer (some mp))] t v hv
    rw [List.mem_singleton] at this
    cases this
    exact ⟨_, ha0, hmV⟩
  have hk0 : ∀ b ∈ T.keep, covR (idP nx) Φ 0 F 3 N b = Φ b := fun b hb => covR_rho (keepOK_mem hkid b hb).1
  have hsum : sumN K.ds = K.ds.sum := sumN_eq _
  refine chain_sound (P := P) (Φ0 := Φ) (s0 := ⟨ofList pre, nx⟩) (w0 := w) (r := r) (n := n) (c := c) (iF := T.iF) (lit := true) (fin := finT T true) (end_ := endT T (inP K) K.ps) (Q := Q) (z := 0) (F := F) (L := 3) (N := N)
    (m := T.ds.length * (F + 1)) (KE := fun _ => K.ds.sum ≤ F) (keep := fun a => a ∈ T.keep) (f0 := 3) hC h200 hF (.inl ⟨rfl, hF3⟩) ?_ ?_ K.ds 0 _ _ _ a w hch (fun hh => by simpa using hh) (Nat.zero_le _) hf0 rfl haF hr0 ⟨covR_63, covR_62, covR_61, covR_60⟩ hx0
    (fun b hb => ⟨hk0 b hb, (keepOK_mem hkid b hb).2⟩) hk0
  · intro k' Ψ' s' w' a' e1 e2 e3 e4 e5 e6 e7
    unfold perOK at hT
    simp only [band_eq, Bool.and_eq_true] at hT
    exact hQ a' w' e7 (fin_sound hT.1.2.1 hT.1.2.2 h200 hF e1 e2 e3 e4 e5 e6)
  · intro Ψ' fr' s' w' a' e1 e2 e3 e4 e5 e6 e7 e8 e9
    obtain ⟨tm, nt, df⟩ := fr'
    have e1' : band (band (Nat.beq nt T.nt) (covFr (inP K) K.ps tm T.TF)) (covH (inP K) K.ps s'.h T.TL) = true := e1
    rw [band_eq, Bool.and_eq_true, band_eq, Bool.and_eq_true, beq_nat] at e1'
    obtain ⟨⟨g1, g2⟩, g3⟩ := e1'
    have hz : K.ds.sum ≤ F := e9
    have hp : CPok (inP K) Ψ' K.ds.sum F K.L1 N := by
      refine ⟨hlo, hhi, h200, ?_, fun _ => by omega, fun _ => h3, fun _ => by omega, fun _ _ => hsum.symm, fun _ _ => rfl, (fun _ e => by cases e), (fun _ e => by cases e), fun _ => hF, (fun e => by cases e), (fun e => by cases e), (fun e => by cases e)⟩
      intro l hl; rw [e6.n] at hl; cases hl; rfl
    obtain ⟨q1, q2⟩ := cov_rel (F := F) hp e5 hrise g3
    have hfr : FrR P [] (covR K.ps Ψ' K.ds.sum F K.L1 N) ⟨ofList T.TF, T.nt, []⟩ a' := by
      refine ⟨covFr_sound hp q1.gl e2.tm g2, e2.nt.trans g1, ?_⟩
      have hdf := e2.df
      have e4' : df = [] := e4
      subst e4'
      have : a'.defers = [] := hdf.nil_inv
      rw [this]; exact .nil
    have := per_rounds (Φ0 := Φ) (s0 := ⟨ofList pre, nx⟩) (w0 := w) hCT hT h200 hF hQ (F - K.ds.sum) K.ds.sum K.L1 _ a' w' (by omega) hz h3 (by omega) q1 hfr e3 ⟨covR_63, covR_62, covR_61, covR_60⟩ (e7.cov q2)
      (fun b hb => by rw [covR_rho (keepOK_mem hkeep b hb).1]; exact e8 b hb)
    exact rounds_le (Nat.mul_le_mul_left _ (by omega)) this
/-- behind the loop, as the caller tells it -/
theorem LimQ.rel {T : LimT} {Φ : Ren} {nx F N z0 L0 : Nat} {pre : List (Nat × AB)} {w w' : World} {mp : Addr} (hL : limOK T nx mp = true) (h : LimQ T Φ ⟨ofList pre, nx⟩ w F N w') (hr : Rel Φ ⟨ofList pre, nx⟩ w) (hn : Nums Φ z0 F L0 N)
    (hF : F ≤ 6000) (h200 : N ≤ 200) : Rel Φ ⟨ofList T.FL, nx⟩ w' ∧ Ext Φ ⟨ofList pre, nx⟩ w Φ ⟨ofList T.FL, nx⟩ w' ∧ hasAll (ofList T.FL) T.FL = true := by
  unfold limOK at hL
  simp only [band_eq, Bool.and_eq_true] at hL
  obtain ⟨⟨⟨hrise, hid⟩, hcov, hall⟩, ⟨hkr, _⟩, _⟩ := hL
  obtain ⟨Ψ, q1, q2, q3, q4⟩ := h.out
  have hp : CPok finalP Ψ z0 F L0 N := by
    refine ⟨Nat.zero_le _, h200, h200, ?_, fun e => ?_, fun e => ?_, fun e => ?_, fun e => ?_, fun e => ?_, fun e => ?_, fun e => ?_, fun _ => hF, (fun e => by cases e), (fun e => by cases e), ?_⟩
    · intro l hl; rw [q2.n] at hl; cases hl; rfl
    all_goals first
      | (exact absurd e (by show ¬ (3 < 3); omega))
      | skip
    intro _ l hl; rw [q2.f] at hl; cases hl; rfl
  obtain ⟨p1, p2⟩ := cov_rel (F := F) hp q1 hrise hcov
  have hle : Ren.le (covR T.psF Ψ z0 F L0 N) Φ := by
    intro a l hl
    unfold covR at hl
    by_cases h60 : a < 60
    · rw [if_pos h60] at hl
      have : a ∈ T.keep := by
        rcases allIn_mem hkr a (List.mem_range.2 h60) with h | h
        · exact h
        · omega
      rw [← q4 a this]; exact hl
    · rw [if_neg h60] at hl
      by_cases h64 : a < 64
      · rw [if_pos h64] at hl
        have hl' := Option.some.inj hl
        subst hl'
        have hc : a = 60 ∨ a = 61 ∨ a = 62 ∨ a = 63 := by omega
        rcases hc with rfl | rfl | rfl | rfl
        · exact hn.n
        · exact hn.l
        · exact hn.f
        · exact hn.z
      · rw [if_neg h64] at hl
        cases hq : rhoP T.psF a with
        | none => rw [hq] at hl; cases hl
        | some b =>
          rw [hq] at hl
          obtain ⟨rfl, hk⟩ := idPs_rho hid hq
          rw [← q4 _ hk]; exact hl
  refine ⟨⟨p1.toHRel.mono hle, hr.dom, p1.pas, hr.gl⟩, ⟨Nat.le_refl _, fun _ _ => rfl, q3.size, q3.frame, fun β hβ => ?_, q3.tape, q3.os, q3.output⟩, hall⟩
  obtain ⟨a, B, l, g1, g2, g3⟩ := hβ
  obtain ⟨l', g4, _⟩ := p1.live a B g1
  have := hle _ _ g4
  rw [g2] at this; cases this
  exact q3.im β (p2 β ⟨a, B, l, g1, g4, g3⟩)
/-- THE CALL -/
theorem lim_run {T : LimT} {f : FuncId} {fn : Func} {id nx : Nat} {c : Code} {mp : Addr} {pre : List (Nat × AB)} {rT : Rec} {nT : Nat} (hf : P.funcs[f]? = some fn) (hn : fn.name ≠ "runtime.NumGoroutine") (hb : fn.body = some (.block id (.loop c)))
    (hres : fn.results = #[]) (hnt : fn.ntmps = T.nt) (hiF : T.iF = 1) (hnt2 : 2 ≤ T.nt) (hCT : CodeOK P rT nT) (hT : perOK T (rT.cd c) = true) (hL : limOK T nx mp = true)
    (hK : ∀ N, N ≤ 200 → ∃ (K : ClsD) (r : Rec) (n : Nat), K.lo ≤ N ∧ N ≤ K.hi ∧ CodeOK P r n ∧ clsOK T (r.cd c) mp nx pre K = true) :
    MemRun P f ⟨[.pointer (some mp), sy 6 3], nx, pre, .tuple ⟨[]⟩, nx, T.FL⟩ := by
  intro args' Φ w hr ha
  obtain ⟨mv, l1, e1, hm, h2⟩ := ha.cons_inv
  obtain ⟨fv, l2, e2, hfv, h3⟩ := h2.cons_inv
  have e3 := h3.nil_inv
  subst e3 e2
  have e4 := arr2 e1
  subst e4
  obtain ⟨z0, F, L0, N, hnum⟩ := Nums.of hr.gl
  obtain ⟨hFv, hF3, hF, h200⟩ : fv = .int .i64 (F : Int) ∧ 3 ≤ F ∧ F ≤ 6000 ∧ N ≤ 200 := by
    rcases hfv.sy_inv with hs | ⟨lz, lF, lL, l, q1, q2, q3, q4, g1, g2, g3, g4⟩
    · exact hs.elim
    · rw [hnum.f] at q2; cases q2
      have q4' : Φ 60 = some l := q4
      rw [hnum.n] at q4'; cases q4'
      exact ⟨g1, g2, g3, g4⟩
  subst hFv
  obtain ⟨K, r, n, hlo, hhi, hC, hKK⟩ := hK N h200
  refine answers_of_body hf hn hb fun R hR => ?_
  refine wp_block (wp_loop_rounds _ (cls_rounds hC hCT hT hKK hL hF3 hF h200 hlo hhi hr hnum hm ?_ ?_ ?_ rfl fun a' w' hd hq => ?_))
  · show (#[mv, Value.int .i64 (F : Int)] ++ _)[0]? = some mv
    rw [Array.getElem?_append_left (by simp)]; rfl
  · rw [hiF]
    show (#[mv, Value.int .i64 (F : Int)] ++ _)[1]? = some (Value.int .i64 (F : Int))
    rw [Array.getElem?_append_left (by simp)]; rfl
  · simp; omega
  · show Leaves P fn a'.tmps R a'.defers .returning w'
    rw [hd]
    obtain ⟨q1, q2, q3⟩ := hq.rel hL hr hnum hF h200
    refine ⟨.tuple ⟨[]⟩, ?_, hR _ _ ⟨Φ, _, VR.undef, q1, q2, rfl, q3⟩⟩
    simp [results, hres]
end
end Go.Ev

/-! Classes of lengths: the state before the rounds for one length. -/
namespace Go.Ev
open Go Go.Lib
set_option linter.unusedVariables false
noncomputable section
/-- the text's length told by a class -/
def subVC (lo hi : Nat) (v : Value) : Value := match v with
  | .complex .f64 i c => bi (Nat.beq i 2) (sy 2 (nBase + (lo + 256 * hi))) (bi (Nat.beq i 10)
      (bi (Nat.beq (fN (nKind c) lo) (fN (nKind c) hi)) (.int .i64 (Int.ofNat (fN (nKind c) lo))) (sy 10 (nKind c + 8 * (lo + 256 * hi)))) v)
  | v => v
def subBC (lo hi : Nat) (b : AB) : AB := match b with
  | .cells k => .cells ⟨k.c.map (subVC lo hi), k.el, k.gr, [], k.st, k.fz⟩
  | b => b
def subLC (lo hi : Nat) (l : List (Nat × AB)) : List (Nat × AB) := l.map fun p => (p.1, subBC lo hi p.2)
/-- the text's length told -/
def subV (N : Nat) (v : Value) : Value := match v with
  | .complex .f64 i c => bi (Nat.beq i 2) (sy 2 N) (bi (Nat.beq i 10) (.int .i64 (Int.ofNat (fN (nKind c) N))) v)
  | v => v
def subB (N : Nat) (b : AB) : AB := match b with
  | .cells k => .cells ⟨k.c.map (subV N), k.el, k.gr, [], k.st, k.fz⟩
  | b => b
def subL (N : Nat) (l : List (Nat × AB)) : List (Nat × AB) := l.map fun p => (p.1, subB N p.2)
def dsA : List Nat := [0, 0, 2, 1, 0, 2, 1, 1, 1, 1, 0, 0, 1, 0, 0, 0, 2, 1, 1, 1, 1, 0, 0, 1, 0, 0]
def dsB : List Nat := [0, 0, 2, 1, 0, 2, 1, 1, 1, 1, 0, 0, 1, 0, 0, 0, 2, 1, 1, 1, 1, 0, 0, 1, 0, 0, 0, 2, 1, 1, 1, 1, 0, 0, 1, 0, 0]
end
end Go.Ev

/-! A call told for a class of lengths: rounds of a loop that all lengths share, then each length by itself. -/
namespace Go.Ev
open Go Go.Lib
set_option linter.unusedSimpArgs false
set_option linter.unusedVariables false
/-- ids: the objects that the call needs; wit: the cell in which the class is told (none: it is argument 0); sp: pieces of code ahead of the loop; k: rounds that all share; tl: temporaries that the rest needs; ps: for each length where the new objects stand -/
structure Fk where
  ids : List Nat
  nx : Nat
  wit : Option (Nat × Nat)
  lo : Nat
  hi : Nat
  sp : Nat
  k : Nat
  tl : List Nat
  v : Value
  nx' : Nat
  new : List (Nat × AB)
  ps : Nat → List (Nat × Nat × Nat)
noncomputable section
/-- a value that tells a class -/
def witV (v : Value) (lo hi : Nat) : Bool := match v with
  | .complex .f64 i c => bi (Nat.beq i 10) (band (Nat.ble lo (nLo c)) (Nat.ble (nHi c) hi))
      (band (band (bor (Nat.beq i 2) (Nat.beq i 3)) (bnot (Nat.blt c nBase))) (band (Nat.ble lo (nLo (8 * (c - nBase)))) (Nat.ble (nHi (8 * (c - nBase))) hi)))
  | _ => false
def witA (l : List Value) (lo hi : Nat) : Bool := List.casesOn (motive := fun _ => Bool) l false (fun v _ => witV v lo hi)
def witOK (K : Fk) (args : List Value) (h : Tr AB) : Bool :=
  Option.casesOn (motive := fun _ => Bool) K.wit (witA args K.lo K.hi) (fun p => Option.casesOn (motive := fun _ => Bool) (h.get p.1) false (fun B =>
    Option.casesOn (motive := fun _ => Bool) (bCells B fun k => nth k.c p.2) false (fun v => witV v K.lo K.hi)))
def cpN (N : Nat) : CP := ⟨N, N, true, 0, 0, 3, 0⟩
def mapF (N : Nat) (tm : Tr Value) (l : List Nat) : List (Nat × Value) :=
  List.rec (motive := fun _ => List (Nat × Value)) [] (fun t _ ih => Option.casesOn (motive := fun _ => List (Nat × Value)) (tm.get t) ih (fun v => (t, subV N v) :: ih)) l
def idV (v : Value) : List Nat := match v with
  | .pointer (some a) => [a.block]
  | .slice (some a) _ _ => [a.block]
  | _ => []
def idsF (l : List (Nat × Value)) : List Nat := List.rec (motive := fun _ => List Nat) [] (fun p _ ih => idV p.2 ++ ih) l
def pickH (h : Tr AB) (l : List Nat) : List (Nat × AB) :=
  List.rec (motive := fun _ => List (Nat × AB)) [] (fun i _ ih => Option.casesOn (motive := fun _ => List (Nat × AB)) (h.get i) ih (fun B => (i, B) :: ih)) l
def clrB (b : AB) : AB := match b with
  | .cells k => .cells ⟨k.c, k.el, k.gr, [], k.st, k.fz⟩
  | b => b
def clrL (l : List (Nat × AB)) : List (Nat × AB) := List.rec (motive := fun _ => List (Nat × AB)) [] (fun p _ ih => (p.1, clrB p.2) :: ih) l
def isExitX (id : Nat) (x : Ex) : Bool := Ex.casesOn (motive := fun _ => Bool) x false (fun i => Nat.beq i id) false
def isNormX (x : Ex) : Bool := Ex.casesOn (motive := fun _ => Bool) x true (fun _ => false) false
def pcs (K : Fk) (N : Nat) : List (Nat × Nat × Nat) := (64, K.nx, 64) :: K.ps N
/-- the end -/
def lastB (E : Env) (fn : Func) (K : Fk) (post : List (Nat × AB)) (N : Nat) (x : Ex) (fr : AF) (s : S) : Bool :=
  band (band (isRet x) (noDf fr)) (Option.casesOn (motive := fun _ => Bool) (mapO (resV1 E fr.tm s) fn.results.toList) false (fun vs =>
    band (covV (cpN N) (pcs K N) 20 K.v (oneV vs)) (band (rises (pcs K N) K.nx' 64 64) (covH (cpN N) (pcs K N) s.h post))))
/-- behind the rounds, for one length -/
def exitB (E : Env) (r : Rec) (fn : Func) (K : Fk) (post : List (Nat × AB)) (id : Nat) (c B : Code) (N : Nat) (fr : AF) (s : S) : Bool :=
  band (band (covFr (cpN N) (idP s.nx) fr.tm (mapF N fr.tm K.tl)) (covH (cpN N) (idP s.nx) s.h (subL N (pickH s.h (K.ids ++ idsF (mapF N fr.tm K.tl))))))
    (Option.casesOn (motive := fun _ => Bool) (r.cd (.loop c) ⟨ofList (mapF N fr.tm K.tl), fr.nt, []⟩ ⟨ofList (subL N (pickH s.h (K.ids ++ idsF (mapF N fr.tm K.tl)))), s.nx⟩) false
      (pr fun x p => pr (fun fr1 s1 => band (isExitX id x) (Option.casesOn (motive := fun _ => Bool) (r.cd B fr1 s1) false (pr fun x2 p2 => pr (lastB E fn K post N x2) p2))) p))
def exitsB (E : Env) (r : Rec) (fn : Func) (K : Fk) (post : List (Nat × AB)) (id : Nat) (c B : Code) (fr : AF) (s : S) (d : Nat) : Bool :=
  Nat.rec (motive := fun _ => Bool) true (fun d ih => band (exitB E r fn K post id c B (K.lo + d) fr s) ih) d
def rndsB (E : Env) (r : Rec) (fn : Func) (K : Fk) (post : List (Nat × AB)) (id : Nat) (c B : Code) (k : Nat) : AF → S → Bool :=
  Nat.rec (motive := fun _ => AF → S → Bool) (fun fr s => exitsB E r fn K post id c B fr s (K.hi + 1 - K.lo))
    (fun _ ih fr s => Option.casesOn (motive := fun _ => Bool) (r.cd c fr s) false (pr fun x p => pr (fun fr' s' => band (isNormX x) (band (noDf fr') (ih fr' s'))) p)) k
/-- all of it, for one length -/
def wholeB (E : Env) (r : Rec) (fn : Func) (K : Fk) (post : List (Nat × AB)) (code : Code) (N : Nat) (fr : AF) (s : S) : Bool :=
  band (band (covFr (cpN N) (idP s.nx) fr.tm (mapF N fr.tm K.tl)) (covH (cpN N) (idP s.nx) s.h (subL N (pickH s.h (K.ids ++ idsF (mapF N fr.tm K.tl))))))
    (Option.casesOn (motive := fun _ => Bool) (r.cd code ⟨ofList (mapF N fr.tm K.tl), fr.nt, []⟩ ⟨ofList (subL N (pickH s.h (K.ids ++ idsF (mapF N fr.tm K.tl)))), s.nx⟩) false
      (pr fun x p => pr (lastB E fn K post N x) p))
def wholesB (E : Env) (r : Rec) (fn : Func) (K : Fk) (post : List (Nat × AB)) (code : Code) (fr : AF) (s : S) (d : Nat) : Bool :=
  Nat.rec (motive := fun _ => Bool) true (fun d ih => band (wholeB E r fn K post code (K.lo + d) fr s) ih) d
def leafB (E : Env) (r : Rec) (fn : Func) (K : Fk) (post : List (Nat × AB)) (code : Code) (fr : AF) (s : S) : Bool := match code with
  | .seq (.seq X (.block id (.loop c))) B => Option.casesOn (motive := fun _ => Bool) (r.cd X fr s) false (pr fun x p => pr (fun fr' s' => band (isNormX x) (band (noDf fr') (rndsB E r fn K post id c B K.k fr' s'))) p)
  | code => band (noDf fr) (wholesB E r fn K post code fr s (K.hi + 1 - K.lo))
def spineB (E : Env) (r : Rec) (fn : Func) (K : Fk) (post : List (Nat × AB)) (n : Nat) : Code → AF → S → Bool :=
  Nat.rec (motive := fun _ => Code → AF → S → Bool) (leafB E r fn K post)
    (fun _ ih code fr s => match code with
      | .seq X rest => Option.casesOn (motive := fun _ => Bool) (r.cd X fr s) false (pr fun x p => pr (fun fr' s' => band (isNormX x) (ih rest fr' s')) p)
      | _ => false) n
def forkB (E : Env) (r : Rec) (fn : Func) (code : Code) (K : Fk) (args : List Value) (pre : List (Nat × AB)) : Bool :=
  band (band (witOK K args (ofList pre)) (band (Nat.ble 64 K.nx) (hasAll (ofList (clrL pre ++ K.new)) (clrL pre ++ K.new))))
    (spineB E r fn K (clrL pre ++ K.new) K.sp code ⟨initTm args 0 .e, args.length + (fn.ntmps - args.length), []⟩ ⟨ofList pre, K.nx⟩)
def fkMem (K : Fk) (args : List Value) (s : S) : Mem := ⟨args, K.nx, pickH s.h K.ids, K.v, K.nx', clrL (pickH s.h K.ids) ++ K.new⟩
/-- the override -/
def ovFork (E : Env) (r : Rec) (fn : Func) (code : Code) (K : Fk) (g : List Value → S → Option (Value × S)) (args : List Value) (s : S) : Option (Value × S) :=
  orE (gd (band (Nat.beq s.nx K.nx) (band (memOK (fkMem K args s)) (forkB E r fn code K args (pickH s.h K.ids)))) (memF (fkMem K args s) args s)) (g args s)
end
section
variable {P : Program}
theorem init_frame {Φ : Ren} {s : S} {w : World} {args : List Value} {args' : Array Value} {fn : Func} (hr : Rel Φ s w) (ha : VRs Φ args args'.toList) :
    FrR P [] Φ ⟨initTm args 0 .e, args.length + (fn.ntmps - args.length), []⟩ { tmps := args' ++ Array.replicate (fn.ntmps - args'.size) undef, defers := [] } := by
  have hlen := ha.length
  simp only [Array.length_toList] at hlen
  refine ⟨initTm_sound args 0 .e ⟨hr.gl, fun t v hv => by rw [get_e] at hv; cases hv⟩ fun j u hu => ?_, ?_, .nil⟩
  · obtain ⟨u', e1, e2⟩ := ha.get j u hu
    refine ⟨u', ?_, e2⟩
    have hj : j < args'.size := by
      rcases Nat.lt_or_ge j args'.size with h' | h'
      · exact h'
      · rw [List.getElem?_eq_none (by simpa using h')] at e1; cases e1
    show (args' ++ Array.replicate (fn.ntmps - args'.size) undef)[0 + j]? = some u'
    rw [Nat.zero_add, Array.getElem?_append_left hj]
    simpa using e1
  · show (args' ++ Array.replicate (fn.ntmps - args'.size) undef).size = _
    simp [hlen]
theorem witV_ok {Φ : Ren} {z F L N lo hi : Nat} {v v' : Value} (hn : Nums Φ z F L N) (h : witV v lo hi = true) (hv : VR Φ v v') : lo ≤ N ∧ N ≤ hi ∧ N ≤ 200 := by
  unfold witV at h
  split at h
  · rename_i i c
    rw [bi_eq] at h
    by_cases h10 : i = 10
    · rw [if_pos (by rw [beq_nat]; exact h10)] at h
      subst h10
      rw [band_eq, Bool.and_eq_true, ble_nat, ble_nat] at h
      obtain ⟨lz, lF, lL, l, q1, q2, q3, q4, rfl, g2, g3, g4⟩ := hv.sy_inv.ten
      rw [hn.n] at q4; cases q4
      have g2' : nLo c ≤ N := g2
      have g3' : N ≤ nHi c := g3
      have g4' : N ≤ 200 := g4
      omega
    · rw [if_neg (by rw [beq_nat]; exact h10)] at h
      simp only [band_eq, bor_eq, Bool.and_eq_true, Bool.or_eq_true, beq_nat, bnot_eq, Bool.not_eq_true', ble_nat] at h
      obtain ⟨⟨h1, h2⟩, h3, h4⟩ := h
      obtain ⟨s, lz, lF, lL, l, e3, e4, e5, e6, rfl, e2, e7, e8, e9⟩ := hv.sy_inv.strN h1 (fun hh => by have := blt_nat.2 hh; rw [this] at h2; cases h2)
      rw [hn.n] at e6; cases e6
      have g2' : nLo (8 * (c - nBase)) ≤ N := e7
      have g3' : N ≤ nHi (8 * (c - nBase)) := e8
      have g4' : N ≤ 200 := e9
      omega
  · cases h
theorem isNormX_eq {x : Ex} (h : isNormX x = true) : x = .normal := by cases x <;> first | rfl | cases h
theorem isRet_eq {x : Ex} (h : isRet x = true) : x = .ret := by cases x <;> first | rfl | cases h
theorem isExitX_eq {x : Ex} {id : Nat} (h : isExitX id x = true) : x = .exit id := by
  cases x with
  | normal => cases h
  | ret => cases h
  | exit i => have h' : Nat.beq i id = true := h; rw [beq_nat] at h'; rw [h']
theorem cpN_ok {Φ : Ren} {z F L N : Nat} (hn : Nums Φ z F L N) (h : N ≤ 200) : CPok (cpN N) Φ z F L N := by
  refine ⟨Nat.le_refl _, Nat.le_refl _, h, ?_, fun e => ?_, fun e => ?_, fun e => ?_, fun e => ?_, fun e => ?_, fun e => ?_, fun e => ?_, fun e => ?_, (fun e => by cases e), (fun e => by cases e), ?_⟩
  · intro l hl; rw [hn.n] at hl; cases hl; rfl
  all_goals first
    | (exact absurd e (by show ¬ (3 < 3); omega))
    | skip
  intro _ l hl; rw [hn.f] at hl; cases hl; rfl
/-- a renaming that leaves the first n as they are -/
theorem covR_keep {Φ : Ren} {z F L N n a : Nat} {ps : List (Nat × Nat × Nat)} (hn : Nums Φ z F L N) (h : a < n) : covR ((64, n, 64) :: ps) Φ z F L N a = Φ a := by
  unfold covR
  by_cases h60 : a < 60
  · rw [if_pos h60]
  · rw [if_neg h60]
    by_cases h64 : a < 64
    · rw [if_pos h64]
      have hc : a = 60 ∨ a = 61 ∨ a = 62 ∨ a = 63 := by omega
      rcases hc with rfl | rfl | rfl | rfl
      · exact hn.n.symm
      · exact hn.l.symm
      · exact hn.f.symm
      · exact hn.z.symm
    · rw [if_neg h64, rhoP_cons, if_pos ⟨by show 64 ≤ a; omega, h⟩]
      show Φ (64 + (a - 64)) = Φ a
      congr 1
      omega
/-- what holds on the way -/
structure Way (P : Program) (Φ0 : Ren) (s0 : S) (w0 : World) (z F L N nx : Nat) (Ψ : Ren) (fr : AF) (s : S) (a : Act) (w : World) : Prop where
  fr : FrR P [] Ψ fr a
  rel : Rel Ψ s w
  nums : Nums Ψ z F L N
  ex : Ex0 Φ0 s0 w0 Ψ s w
  ag : ∀ b, b < nx → Ψ b = Φ0 b
  nx : nx ≤ s.nx
variable {Φ0 : Ren} {s0 : S} {w0 : World} {z F L N nx : Nat}
theorem Way.next {Ψ Ψ' : Ren} {fr fr' : AF} {s s' : S} {a a' : Act} {w w' : World} (h : Way P Φ0 s0 w0 z F L N nx Ψ fr s a w) (q1 : FrR P [] Ψ' fr' a') (q2 : Rel Ψ' s' w') (q3 : Ext Ψ s w Ψ' s' w') :
    Way P Φ0 s0 w0 z F L N nx Ψ' fr' s' a' w' :=
  ⟨q1, q2, h.nums.ext h.rel.dom q3, h.ex.step q3, fun b hb => by rw [q3.ag b (Nat.lt_of_lt_of_le hb h.nx)]; exact h.ag b hb, Nat.le_trans h.nx q3.nx⟩
/-- a step of code -/
theorem Way.step {r : Rec} {n : Nat} {c : Code} {Ψ : Ren} {fr fr' : AF} {s s' : S} {a : Act} {w : World} {x : Ex} {Q : Exit → Act → World → Prop} (hC : CodeOK P r n) (h : Way P Φ0 s0 w0 z F L N nx Ψ fr s a w)
    (hx : r.cd c fr s = some (x, fr', s')) (hQ : ∀ Ψ' a' w', Way P Φ0 s0 w0 z F L N nx Ψ' fr' s' a' w' → Q x.to a' w') : c.wp P Q a w :=
  (hC c fr s x fr' s' hx Ψ a w h.fr h.rel).1 _ fun Ψ' w' a' q1 q2 q3 => hQ Ψ' a' w' (h.next q1 q2 q3)
theorem covH_app {p : CP} {ps : List (Nat × Nat × Nat)} {h : Tr AB} : ∀ {l : List (Nat × AB)}, covH p ps h l = true → ∀ q ∈ l, covB1 p ps h q = true := by
  intro l
  induction l with
  | nil => intro _ q hq; cases hq
  | cons x l ih =>
    intro hh q hq
    have h' : band (covB1 p ps h x) (covH p ps h l) = true := hh
    rw [band_eq, Bool.and_eq_true] at h'
    rcases List.mem_cons.1 hq with rfl | hq
    · exact h'.1
    · exact ih h'.2 q hq
/-- the end -/
theorem last_sound {E : Env} {fn : Func} {K : Fk} {post : List (Nat × AB)} {x : Ex} {fr : AF} {s : S} {Ψ : Ren} {a : Act} {w : World} {R : Ending → World → Prop} (hE : EOK P E) (h200 : N ≤ 200)
    (hnx : K.nx = nx) (h : lastB E fn K post N x fr s = true) (hw : Way P Φ0 s0 w0 z F L N nx Ψ fr s a w) (hs0 : s0.nx = nx) (hn0 : nx ≤ K.nx')
    (hR : ∀ v' w', (∃ Φ', VR Φ' K.v v' ∧ Rel Φ' ⟨ofList post, K.nx'⟩ w' ∧ Ext Φ0 s0 w0 Φ' ⟨ofList post, K.nx'⟩ w') → R (.returned v') w') : bodyPostD P fn R x.to a w := by
  unfold lastB at h
  rw [band_eq, Bool.and_eq_true, band_eq, Bool.and_eq_true] at h
  obtain ⟨⟨h1, h2⟩, h3⟩ := h
  have hx := isRet_eq h1
  subst hx
  cases hm : mapO (resV1 E fr.tm s) fn.results.toList with
  | none => simp only [hm] at h3; cases h3
  | some vs =>
    simp only [hm] at h3
    rw [band_eq, Bool.and_eq_true, band_eq, Bool.and_eq_true] at h3
    obtain ⟨h4, h5, h6⟩ := h3
    have hdf : a.defers = [] := by
      have := hw.fr.df
      rw [noDf_eq h2] at this
      exact this.nil_inv
    obtain ⟨v', g1, g2⟩ := results_sound hE hw.rel.toHRel hw.fr.tm hm
    have hp := cpN_ok hw.nums h200
    obtain ⟨q1, q2⟩ := cov_rel hp hw.rel h5 h6
    have q3 := covV_sound (ps := pcs K N) hp _ _ _ _ h4 g1
    show Leaves P fn a.tmps R a.defers .returning w
    rw [hdf]
    have hx' := hw.ex.cov (Ψ' := covR (pcs K N) Ψ z F L N) (s' := ⟨ofList post, K.nx'⟩) q2
    refine ⟨v', g2, hR v' w ⟨_, q3, q1, ?_, fun b hb => ?_, hx'.size, hx'.frame, hx'.im, hx'.tape, hx'.os, hx'.output⟩⟩
    · show s0.nx ≤ K.nx'; omega
    · have hb' : b < K.nx := by omega
      show covR ((64, K.nx, 64) :: K.ps N) Ψ z F L N b = Φ0 b
      rw [covR_keep hw.nums hb']
      exact hw.ag b (by omega)
theorem exit_sound {E : Env} {r : Rec} {n : Nat} {fn : Func} {K : Fk} {post : List (Nat × AB)} {id : Nat} {c B : Code} {fr : AF} {s : S} {Ψ : Ren} {a : Act} {w : World} {R : Ending → World → Prop} (hE : EOK P E) (hC : CodeOK P r n) (h200 : N ≤ 200)
    (hnx : K.nx = nx) (h64 : 64 ≤ nx) (h : exitB E r fn K post id c B N fr s = true) (hw : Way P Φ0 s0 w0 z F L N nx Ψ fr s a w) (hdf : fr.df = []) (hs0 : s0.nx = nx) (hn0 : nx ≤ K.nx')
    (hR : ∀ v' w', (∃ Φ', VR Φ' K.v v' ∧ Rel Φ' ⟨ofList post, K.nx'⟩ w' ∧ Ext Φ0 s0 w0 Φ' ⟨ofList post, K.nx'⟩ w') → R (.returned v') w') :
    Code.rounds P c (Exit.inBlock id (Exit.then (B.wp P (bodyPostD P fn R)) (bodyPostD P fn R))) n a w := by
  unfold exitB at h
  rw [band_eq, Bool.and_eq_true, band_eq, Bool.and_eq_true] at h
  obtain ⟨⟨h1, h2⟩, h3⟩ := h
  have hp := cpN_ok hw.nums h200
  have hle : 64 ≤ s.nx := Nat.le_trans h64 hw.nx
  obtain ⟨q1, q2⟩ := cov_rel hp hw.rel (idP_rises hle) h2
  have hwN : Way P Φ0 s0 w0 z F L N nx (covR (idP s.nx) Ψ z F L N) ⟨ofList (mapF N fr.tm K.tl), fr.nt, []⟩ ⟨ofList (subL N (pickH s.h (K.ids ++ idsF (mapF N fr.tm K.tl)))), s.nx⟩ a w := by
    refine ⟨⟨covFr_sound hp q1.gl hw.fr.tm h1, hw.fr.nt, ?_⟩, q1, ⟨covR_63, covR_62, covR_61, covR_60⟩, hw.ex.cov q2, fun b hb => ?_, hw.nx⟩
    · have := hw.fr.df
      rw [hdf] at this
      have hd : a.defers = [] := this.nil_inv
      rw [hd]
      exact .nil
    · show covR ((64, s.nx, 64) :: []) Ψ z F L N b = Φ0 b
      rw [covR_keep hw.nums (Nat.lt_of_lt_of_le hb hw.nx)]
      exact hw.ag b hb
  cases hx : r.cd (.loop c) ⟨ofList (mapF N fr.tm K.tl), fr.nt, []⟩ ⟨ofList (subL N (pickH s.h (K.ids ++ idsF (mapF N fr.tm K.tl)))), s.nx⟩ with
  | none => simp only [hx] at h3; cases h3
  | some y =>
    obtain ⟨x, fr1, s1⟩ := y
    simp only [hx] at h3
    have h4 : band (isExitX id x) (Option.casesOn (motive := fun _ => Bool) (r.cd B fr1 s1) false (pr fun x2 p2 => pr (lastB E fn K post N x2) p2)) = true := h3
    rw [band_eq, Bool.and_eq_true] at h4
    obtain ⟨h5, h6⟩ := h4
    have ex := isExitX_eq h5
    subst ex
    refine ((hC (.loop c) _ _ _ fr1 s1 hx _ a w hwN.fr hwN.rel).2 c rfl) _ fun Ψ' w' a' p1 p2 p3 => ?_
    have hw1 := hwN.next p1 p2 p3
    show Exit.inBlock id _ (.exit id) a' w'
    simp only [Exit.inBlock, if_true]
    show B.wp P (bodyPostD P fn R) a' w'
    cases hy : r.cd B fr1 s1 with
    | none => simp only [hy] at h6; cases h6
    | some y =>
      obtain ⟨x2, fr2, s2⟩ := y
      simp only [hy] at h6
      exact hw1.step hC hy fun Ψ2 a2 w2 hw2 => last_sound hE h200 hnx h6 hw2 hs0 hn0 hR
theorem exits_get {E : Env} {r : Rec} {fn : Func} {K : Fk} {post : List (Nat × AB)} {id : Nat} {c B : Code} {fr : AF} {s : S} : ∀ {d : Nat}, exitsB E r fn K post id c B fr s d = true → ∀ k, k < d → exitB E r fn K post id c B (K.lo + k) fr s = true := by
  intro d
  induction d with
  | zero => intro _ k hk; omega
  | succ d ih =>
    intro h k hk
    have h' : band (exitB E r fn K post id c B (K.lo + d) fr s) (exitsB E r fn K post id c B fr s d) = true := h
    rw [band_eq, Bool.and_eq_true] at h'
    by_cases e : k = d
    · subst e; exact h'.1
    · exact ih h'.2 k (by omega)
theorem rnds_sound {E : Env} {r : Rec} {n : Nat} {fn : Func} {K : Fk} {post : List (Nat × AB)} {id : Nat} {c B : Code} {R : Ending → World → Prop} (hE : EOK P E) (hC : CodeOK P r n) (h200 : N ≤ 200)
    (hnx : K.nx = nx) (h64 : 64 ≤ nx) (hlo : K.lo ≤ N) (hhi : N ≤ K.hi) (hs0 : s0.nx = nx) (hn0 : nx ≤ K.nx')
    (hR : ∀ v' w', (∃ Φ', VR Φ' K.v v' ∧ Rel Φ' ⟨ofList post, K.nx'⟩ w' ∧ Ext Φ0 s0 w0 Φ' ⟨ofList post, K.nx'⟩ w') → R (.returned v') w') :
    ∀ (k : Nat) (fr : AF) (s : S) (Ψ : Ren) (a : Act) (w : World), rndsB E r fn K post id c B k fr s = true → Way P Φ0 s0 w0 z F L N nx Ψ fr s a w → fr.df = [] →
      Code.rounds P c (Exit.inBlock id (Exit.then (B.wp P (bodyPostD P fn R)) (bodyPostD P fn R))) (k + n) a w := by
  intro k
  induction k with
  | zero =>
    intro fr s Ψ a w h hw hdf
    have h' : exitsB E r fn K post id c B fr s (K.hi + 1 - K.lo) = true := h
    have h1 := exits_get h' (N - K.lo) (by omega)
    have e : K.lo + (N - K.lo) = N := by omega
    rw [e] at h1
    rw [Nat.zero_add]
    exact exit_sound hE hC h200 hnx h64 h1 hw hdf hs0 hn0 hR
  | succ k ih =>
    intro fr s Ψ a w h hw hdf
    have h' : Option.casesOn (motive := fun _ => Bool) (r.cd c fr s) false (pr fun x p => pr (fun fr' s' => band (isNormX x) (band (noDf fr') (rndsB E r fn K post id c B k fr' s'))) p) = true := h
    rw [show k + 1 + n = (k + n) + 1 by omega]
    show c.wp P (Exit.then (Code.rounds P c _ (k + n)) _) a w
    cases hx : r.cd c fr s with
    | none => simp only [hx] at h'; cases h'
    | some y =>
      obtain ⟨x, fr', s'⟩ := y
      simp only [hx] at h'
      have h2 : band (isNormX x) (band (noDf fr') (rndsB E r fn K post id c B k fr' s')) = true := h'
      rw [band_eq, Bool.and_eq_true, band_eq, Bool.and_eq_true] at h2
      have ex := isNormX_eq h2.1
      subst ex
      exact hw.step hC hx fun Ψ' a' w' hw' => ih fr' s' Ψ' a' w' h2.2.2 hw' (noDf_eq h2.2.1)
theorem wholes_get {E : Env} {r : Rec} {fn : Func} {K : Fk} {post : List (Nat × AB)} {code : Code} {fr : AF} {s : S} : ∀ {d : Nat}, wholesB E r fn K post code fr s d = true → ∀ k, k < d → wholeB E r fn K post code (K.lo + k) fr s = true := by
  intro d
  induction d with
  | zero => intro _ k hk; omega
  | succ d ih =>
    intro h k hk
    have h' : band (wholeB E r fn K post code (K.lo + d) fr s) (wholesB E r fn K post code fr s d) = true := h
    rw [band_eq, Bool.and_eq_true] at h'
    by_cases e : k = d
    · subst e; exact h'.1
    · exact ih h'.2 k (by omega)
theorem whole_sound {E : Env} {r : Rec} {n : Nat} {fn : Func} {K : Fk} {post : List (Nat × AB)} {code : Code} {fr : AF} {s : S} {Ψ : Ren} {a : Act} {w : World} {R : Ending → World → Prop} (hE : EOK P E) (hC : CodeOK P r n) (h200 : N ≤ 200)
    (hnx : K.nx = nx) (h64 : 64 ≤ nx) (h : wholeB E r fn K post code N fr s = true) (hw : Way P Φ0 s0 w0 z F L N nx Ψ fr s a w) (hdf : fr.df = []) (hs0 : s0.nx = nx) (hn0 : nx ≤ K.nx')
    (hR : ∀ v' w', (∃ Φ', VR Φ' K.v v' ∧ Rel Φ' ⟨ofList post, K.nx'⟩ w' ∧ Ext Φ0 s0 w0 Φ' ⟨ofList post, K.nx'⟩ w') → R (.returned v') w') :
    code.wp P (bodyPostD P fn R) a w := by
  unfold wholeB at h
  rw [band_eq, Bool.and_eq_true, band_eq, Bool.and_eq_true] at h
  obtain ⟨⟨h1, h2⟩, h3⟩ := h
  have hp := cpN_ok hw.nums h200
  have hle : 64 ≤ s.nx := Nat.le_trans h64 hw.nx
  obtain ⟨q1, q2⟩ := cov_rel hp hw.rel (idP_rises hle) h2
  have hwN : Way P Φ0 s0 w0 z F L N nx (covR (idP s.nx) Ψ z F L N) ⟨ofList (mapF N fr.tm K.tl), fr.nt, []⟩ ⟨ofList (subL N (pickH s.h (K.ids ++ idsF (mapF N fr.tm K.tl)))), s.nx⟩ a w := by
    refine ⟨⟨covFr_sound hp q1.gl hw.fr.tm h1, hw.fr.nt, ?_⟩, q1, ⟨covR_63, covR_62, covR_61, covR_60⟩, hw.ex.cov q2, fun b hb => ?_, hw.nx⟩
    · have := hw.fr.df
      rw [hdf] at this
      have hd : a.defers = [] := this.nil_inv
      rw [hd]
      exact .nil
    · show covR ((64, s.nx, 64) :: []) Ψ z F L N b = Φ0 b
      rw [covR_keep hw.nums (Nat.lt_of_lt_of_le hb hw.nx)]
      exact hw.ag b hb
  cases hx : r.cd code ⟨ofList (mapF N fr.tm K.tl), fr.nt, []⟩ ⟨ofList (subL N (pickH s.h (K.ids ++ idsF (mapF N fr.tm K.tl)))), s.nx⟩ with
  | none => simp only [hx] at h3; cases h3
  | some y =>
    obtain ⟨x, fr1, s1⟩ := y
    simp only [hx] at h3
    exact hwN.step hC hx fun Ψ2 a2 w2 hw2 => last_sound hE h200 hnx h3 hw2 hs0 hn0 hR
theorem leaf_sound {E : Env} {r : Rec} {n : Nat} {fn : Func} {K : Fk} {post : List (Nat × AB)} {code : Code} {R : Ending → World → Prop} (hE : EOK P E) (hC : CodeOK P r n) (h200 : N ≤ 200)
    (hnx : K.nx = nx) (h64 : 64 ≤ nx) (hlo : K.lo ≤ N) (hhi : N ≤ K.hi) (hs0 : s0.nx = nx) (hn0 : nx ≤ K.nx')
    (hR : ∀ v' w', (∃ Φ', VR Φ' K.v v' ∧ Rel Φ' ⟨ofList post, K.nx'⟩ w' ∧ Ext Φ0 s0 w0 Φ' ⟨ofList post, K.nx'⟩ w') → R (.returned v') w')
    {fr : AF} {s : S} {Ψ : Ren} {a : Act} {w : World} (h : leafB E r fn K post code fr s = true) (hw : Way P Φ0 s0 w0 z F L N nx Ψ fr s a w) : code.wp P (bodyPostD P fn R) a w := by
  unfold leafB at h
  split at h
  · rename_i X id c B
    cases hx : r.cd X fr s with
    | none => simp only [hx] at h; cases h
    | some y =>
      obtain ⟨x, fr', s'⟩ := y
      simp only [hx] at h
      have h2 : band (isNormX x) (band (noDf fr') (rndsB E r fn K post id c B K.k fr' s')) = true := h
      rw [band_eq, Bool.and_eq_true, band_eq, Bool.and_eq_true] at h2
      have ex := isNormX_eq h2.1
      subst ex
      refine wp_seq (wp_seq (hw.step hC hx fun Ψ' a' w' hw' => ?_))
      show (Code.block id (.loop c)).wp P _ a' w'
      exact wp_block (wp_loop_rounds _ (rnds_sound hE hC h200 hnx h64 hlo hhi hs0 hn0 hR K.k fr' s' Ψ' a' w' h2.2.2 hw' (noDf_eq h2.2.1)))
  · rw [band_eq, Bool.and_eq_true] at h
    have h1 := wholes_get h.2 (N - K.lo) (by omega)
    have e : K.lo + (N - K.lo) = N := by omega
    rw [e] at h1
    exact whole_sound hE hC h200 hnx h64 h1 hw (noDf_eq h.1) hs0 hn0 hR
theorem spine_sound {E : Env} {r : Rec} {n : Nat} {fn : Func} {K : Fk} {post : List (Nat × AB)} {R : Ending → World → Prop} (hE : EOK P E) (hC : CodeOK P r n) (h200 : N ≤ 200)
    (hnx : K.nx = nx) (h64 : 64 ≤ nx) (hlo : K.lo ≤ N) (hhi : N ≤ K.hi) (hs0 : s0.nx = nx) (hn0 : nx ≤ K.nx')
    (hR : ∀ v' w', (∃ Φ', VR Φ' K.v v' ∧ Rel Φ' ⟨ofList post, K.nx'⟩ w' ∧ Ext Φ0 s0 w0 Φ' ⟨ofList post, K.nx'⟩ w') → R (.returned v') w') :
    ∀ (m : Nat) (code : Code) (fr : AF) (s : S) (Ψ : Ren) (a : Act) (w : World), spineB E r fn K post m code fr s = true → Way P Φ0 s0 w0 z F L N nx Ψ fr s a w → code.wp P (bodyPostD P fn R) a w := by
  intro m
  induction m with
  | zero => intro code fr s Ψ a w h hw; exact leaf_sound hE hC h200 hnx h64 hlo hhi hs0 hn0 hR h hw
  | succ m ih =>
    intro code fr s Ψ a w h hw
    cases code with
    | seq X rest =>
      have h' : Option.casesOn (motive := fun _ => Bool) (r.cd X fr s) false (pr fun x p => pr (fun fr' s' => band (isNormX x) (spineB E r fn K post m rest fr' s')) p) = true := h
      cases hx : r.cd X fr s with
      | none => simp only [hx] at h'; cases h'
      | some y =>
        obtain ⟨x, fr', s'⟩ := y
        simp only [hx] at h'
        have h2 : band (isNormX x) (spineB E r fn K post m rest fr' s') = true := h'
        rw [band_eq, Bool.and_eq_true] at h2
        have ex := isNormX_eq h2.1
        subst ex
        exact wp_seq (hw.step hC hx fun Ψ' a' w' hw' => ih rest fr' s' Ψ' a' w' h2.2 hw')
    | _ => cases h
/-- THE CALL -/
theorem fork_sound {E : Env} {r : Rec} {n : Nat} {f : FuncId} {fn : Func} {code : Code} {K : Fk} {args : List Value} {pre : List (Nat × AB)} (hE : EOK P E) (hC : CodeOK P r n) (hf : P.funcs[f]? = some fn) (hn : fn.name ≠ "runtime.NumGoroutine") (hb : fn.body = some code)
    (hnx : K.nx ≤ K.nx') (h : forkB E r fn code K args pre = true) : MemRun P f ⟨args, K.nx, pre, K.v, K.nx', clrL pre ++ K.new⟩ := by
  intro args' Φ w hr ha
  unfold forkB at h
  simp only [band_eq, Bool.and_eq_true, ble_nat] at h
  obtain ⟨⟨h1, h64, h2⟩, h3⟩ := h
  obtain ⟨z, F, L, N, hnum⟩ := Nums.of hr.gl
  obtain ⟨hlo, hhi, h200⟩ : K.lo ≤ N ∧ N ≤ K.hi ∧ N ≤ 200 := by
    unfold witOK at h1
    cases hw : K.wit with
    | none =>
      simp only [hw] at h1
      cases args with
      | nil => cases h1
      | cons v l =>
        obtain ⟨v', l', _, hv, _⟩ := ha.cons_inv
        exact witV_ok hnum h1 hv
    | some p =>
      simp only [hw] at h1
      cases hg : (ofList pre).get p.1 with
      | none => simp only [hg] at h1; cases h1
      | some B =>
        simp only [hg] at h1
        cases hc : (bCells B fun k => nth k.c p.2) with
        | none => simp only [hc] at h1; cases h1
        | some v =>
          simp only [hc] at h1
          obtain ⟨l, q1, q2⟩ := hr.live p.1 B hg
          cases B with
          | cells k =>
            have hc' : nth k.c p.2 = some v := hc
            rw [nth_eq] at hc'
            obtain ⟨cc, ee, ff, q3, q4, q5, q6⟩ := q2
            obtain ⟨v', q7, q8⟩ := q5 p.2 v hc'
            exact witV_ok hnum h1 q8
          | _ => cases hc
  refine answers_of_body hf hn hb fun R hR => ?_
  refine spine_sound (K := K) (s0 := ⟨ofList pre, K.nx⟩) (Φ0 := Φ) (w0 := w) hE hC h200 rfl h64 hlo hhi rfl hnx ?_ K.sp code _ _ Φ _ w h3 ⟨init_frame hr ha, hr, hnum, Ex0.refl, fun _ _ => rfl, Nat.le_refl _⟩
  rintro v' w' ⟨Φ', g1, g2, g3⟩
  exact hR v' w' ⟨Φ', _, g1, g2, g3, rfl, h2⟩
theorem OvF.fork {E : Env} {r : Rec} {n : Nat} {f : FuncId} {fn : Func} {code : Code} {K : Fk} {g : List Value → S → Option (Value × S)} (hE : EOK P E) (hC : CodeOK P r n) (hf : P.funcs[f]? = some fn) (hn : fn.name ≠ "runtime.NumGoroutine") (hb : fn.body = some code)
    (hnx : K.nx ≤ K.nx') (hg : OvF P f g) : OvF P f (ovFork E r fn code K g) := by
  intro args args' s v s' Φ w hx hr ha
  rcases orE_eq hx with hx | hx
  · obtain ⟨h1, h2⟩ := gd_eq hx
    rw [band_eq, Bool.and_eq_true, band_eq, Bool.and_eq_true] at h1
    exact mem_sound' h1.2.1 (fork_sound hE hC hf hn hb hnx h1.2.2) h2 hr ha
  · exact hg args args' s v s' Φ w hx hr ha
end
end Go.Ev

/-! A call with a number behind its other arguments, that leaves all as it is: told once for all states that hold some objects, and for all numbers from 1 to W. -/
namespace Go.Ev
open Go Go.Lib
set_option linter.unusedSimpArgs false
set_option linter.unusedVariables false
structure Gk where
  lo : Nat
  hi : Nat
  nx : Nat
  pre : List (Nat × AB)
  wit : Nat × Nat
  a0 : Value
  a1 : Value
  W : Nat
  v : Value
noncomputable section
def cpG (K : Gk) : CP := ⟨K.lo, K.hi, true, 0, 0, 3, 0⟩
def witG (K : Gk) : Bool := Option.casesOn (motive := fun _ => Bool) ((ofList K.pre).get K.wit.1) false (fun B =>
    Option.casesOn (motive := fun _ => Bool) (bCells B fun k => nth k.c K.wit.2) false (fun v => witV v K.lo K.hi))
def inG (nx : Nat) (l : List (Nat × AB)) : Bool := List.rec (motive := fun _ => Bool) true (fun p _ ih => band (band (band (Nat.ble 64 p.1) (Nat.blt p.1 nx)) (fresh p.2)) ih) l
def runG (r : Rec) (f : FuncId) (K : Gk) (j : Nat) : Bool :=
  Option.casesOn (motive := fun _ => Bool) (r.cl f [K.a0, K.a1, .int .i64 (Int.ofNat j)] ⟨ofList (clrL K.pre), K.nx⟩) false (pr fun v s => band (covV (cpG K) (idP K.nx) 20 K.v v) (covH (cpG K) (idP K.nx) s.h (clrL K.pre)))
def runsG (r : Rec) (f : FuncId) (K : Gk) (n : Nat) : Bool := Nat.rec (motive := fun _ => Bool) true (fun j ih => band (runG r f K (Nat.succ j)) ih) n
def gOK (r : Rec) (f : FuncId) (K : Gk) : Bool :=
  band (band (witG K) (band (Nat.ble 64 K.nx) (inG K.nx K.pre))) (band (band (covH (cpG K) (idP K.nx) (ofList K.pre) (clrL K.pre)) (hasAll (ofList K.pre) K.pre)) (band (band (covV (cpG K) (idP K.nx) 20 K.a0 K.a0) (covV (cpG K) (idP K.nx) 20 K.a1 K.a1)) (runsG r f K K.W)))
def goneL (h : Tr AB) (l : List Nat) : Bool := List.rec (motive := fun _ => Bool) true (fun a _ ih => band (Option.casesOn (motive := fun _ => Bool) (h.get a) true (fun _ => false)) ih) l
def goneP (h : Tr AB) (l : List (Nat × AB)) : Bool := List.rec (motive := fun _ => Bool) true (fun p _ ih => band (goneL h p.2.pa) ih) l
def ovG (K : Gk) (args : List Value) (s : S) : Option (Value × S) := match args with
  | [a, b, .int .i64 n] => gd (band (band (vEqN 20 K.a0 a) (vEqN 20 K.a1 b)) (band (bnot (iLt n 1)) (band (bnot (iLt (Int.ofNat K.W) n)) (band (Nat.ble K.nx s.nx) (band (hasAll s.h K.pre) (goneP s.h K.pre)))))) (some (K.v, s))
  | _ => none
end
theorem inG_mem {nx : Nat} : ∀ {l : List (Nat × AB)}, inG nx l = true → ∀ p ∈ l, 64 ≤ p.1 ∧ p.1 < nx ∧ fresh p.2 = true := by
  intro l
  induction l with
  | nil => intro _ p hp; cases hp
  | cons q l ih =>
    intro h p hp
    have h' : band (band (band (Nat.ble 64 q.1) (Nat.blt q.1 nx)) (fresh q.2)) (inG nx l) = true := h
    simp only [band_eq, Bool.and_eq_true, ble_nat, blt_nat] at h'
    rcases List.mem_cons.1 hp with rfl | hp
    · exact ⟨h'.1.1.1, h'.1.1.2, h'.1.2⟩
    · exact ih h'.2 p hp
theorem runsG_get {r : Rec} {f : FuncId} {K : Gk} : ∀ {n : Nat}, runsG r f K n = true → ∀ j, 1 ≤ j → j ≤ n → runG r f K j = true := by
  intro n
  induction n with
  | zero => intro _ j h1 h2; omega
  | succ n ih =>
    intro h j h1 h2
    have h' : band (runG r f K (n + 1)) (runsG r f K n) = true := h
    rw [band_eq, Bool.and_eq_true] at h'
    by_cases e : j = n + 1
    · subst e; exact h'.1
    · exact ih h'.2 j h1 (by omega)
theorem goneL_mem {h : Tr AB} : ∀ {l : List Nat}, goneL h l = true → ∀ a ∈ l, h.get a = none := by
  intro l
  induction l with
  | nil => intro _ a ha; cases ha
  | cons b l ih =>
    intro hh a ha
    have h' : band (Option.casesOn (motive := fun _ => Bool) (h.get b) true (fun _ => false)) (goneL h l) = true := hh
    rw [band_eq, Bool.and_eq_true] at h'
    rcases List.mem_cons.1 ha with rfl | ha
    · cases hg : h.get a with
      | none => rfl
      | some B => have h1 := h'.1; simp only [hg] at h1; cases h1
    · exact ih h'.2 a ha
theorem goneP_mem {h : Tr AB} : ∀ {l : List (Nat × AB)}, goneP h l = true → ∀ p ∈ l, ∀ a ∈ p.2.pa, h.get a = none := by
  intro l
  induction l with
  | nil => intro _ p hp; cases hp
  | cons q l ih =>
    intro hh p hp
    have h' : band (goneL h q.2.pa) (goneP h l) = true := hh
    rw [band_eq, Bool.and_eq_true] at h'
    rcases List.mem_cons.1 hp with rfl | hp
    · exact goneL_mem h'.1
    · exact ih h'.2 p hp
theorem mem_clrL {l : List (Nat × AB)} {p : Nat × AB} (h : p ∈ clrL l) : ∃ q ∈ l, p = (q.1, clrB q.2) := by
  induction l with
  | nil => cases h
  | cons q l ih =>
    have h' : p ∈ (q.1, clrB q.2) :: clrL l := h
    rcases List.mem_cons.1 h' with rfl | h'
    · exact ⟨q, List.mem_cons_self, rfl⟩
    · obtain ⟨x, h1, h2⟩ := ih h'
      exact ⟨x, List.mem_cons_of_mem _ h1, h2⟩
theorem clrB_BR {B : AB} {Φ : Ren} {l : Loc} {o : Option Obj} : BR Φ (clrB B) l o ↔ BR Φ B l o := by
  cases B <;> exact Iff.rfl
theorem covR_idP {Φ Ψ : Ren} {z F L N n : Nat} (hn : Nums Φ z F L N) (h64 : 64 ≤ n) (hag : ∀ a, a < n → Φ a = Ψ a) : Ren.le (covR (idP n) Φ z F L N) Ψ := by
  intro a l h
  by_cases ha : a < n
  · rw [show covR (idP n) Φ z F L N a = Φ a from covR_keep hn ha] at h
    rw [← hag a ha]; exact h
  · exfalso
    unfold covR at h
    rw [if_neg (by omega), if_neg (by omega)] at h
    have e : rhoP (idP n) a = none := by
      unfold idP
      rw [rhoP_cons, if_neg (by simp only; omega), rhoP_nil]
    rw [e] at h
    cases h
section
variable {P : Program}
theorem covH_same {p : CP} {n : Nat} {h h' : Tr AB} : ∀ {l : List (Nat × AB)}, (∀ q ∈ l, 64 ≤ q.1 ∧ q.1 < n ∧ h'.get q.1 = h.get q.1) → covH p (idP n) h l = true → covH p (idP n) h' l = true := by
  intro l
  induction l with
  | nil => intro _ _; rfl
  | cons q l ih =>
    intro hq hh
    have h1 : band (covB1 p (idP n) h q) (covH p (idP n) h l) = true := hh
    rw [band_eq, Bool.and_eq_true] at h1
    show band (covB1 p (idP n) h' q) (covH p (idP n) h' l) = true
    rw [band_eq, Bool.and_eq_true]
    refine ⟨?_, ih (fun x hx => hq x (List.mem_cons_of_mem _ hx)) h1.2⟩
    obtain ⟨g1, g2, g3⟩ := hq q List.mem_cons_self
    have hr : rho (idP n) q.1 = some q.1 := by
      have e : rhoP (idP n) q.1 = some q.1 := by
        unfold idP
        rw [rhoP_cons, if_pos ⟨g1, g2⟩]
        congr 1
        simp only
        omega
      unfold rho
      rw [bi_eq, if_neg (by rw [blt_nat]; omega), e]
      have : Nat.ble 64 q.1 = true := ble_nat.2 g1
      rw [this]; rfl
    have h2 := h1.1
    unfold covB1 at h2 ⊢
    rw [hr] at h2 ⊢
    simp only at h2 ⊢
    rw [g3]
    exact h2
theorem qg_sound {E : Env} {n : Nat} {f : FuncId} {K : Gk} (hE : EOK P E) (hO : OvOK P E) (hok : gOK (lvl E n) f K = true) : OvF P f (ovG K) := by
  intro args args' s v s' Φ w h hr ha
  unfold ovG at h
  split at h
  next a b m =>
    obtain ⟨h1, h2⟩ := gd_eq h
    cases h2
    simp only [band_eq, Bool.and_eq_true, bnot_eq, Bool.not_eq_true', iLt_eq, decide_eq_false_iff_not, ble_nat] at h1
    obtain ⟨⟨ea, eb⟩, e1, e2, e3, e4, e5⟩ := h1
    have ea := vEqN_eq _ _ _ ea
    have eb := vEqN_eq _ _ _ eb
    subst ea eb
    obtain ⟨j, rfl⟩ : ∃ j : Nat, m = (j : Int) := ⟨m.toNat, by omega⟩
    have hj1 : 1 ≤ j := by omega
    have hj2 : j ≤ K.W := by
      have : ¬ ((K.W : Int) < (j : Int)) := e2
      omega
    unfold gOK at hok
    simp only [band_eq, Bool.and_eq_true, ble_nat] at hok
    obtain ⟨⟨ow, h64, oin⟩, ⟨ocov, oall⟩, ⟨oa0, oa1⟩, oruns⟩ := hok
    have orun := runsG_get oruns j hj1 hj2
    have hin := inG_mem oin
    have hpre := hasAll_mem e4
    have hpre0 := hasAll_mem oall
    obtain ⟨z, F, L, N, hnum⟩ := Nums.of hr.gl
    obtain ⟨hlo, hhi, h200⟩ : K.lo ≤ N ∧ N ≤ K.hi ∧ N ≤ 200 := by
      unfold witG at ow
      cases hg : (ofList K.pre).get K.wit.1 with
      | none => simp only [hg] at ow; cases ow
      | some B =>
        simp only [hg] at ow
        cases hc : (bCells B fun k => nth k.c K.wit.2) with
        | none => simp only [hc] at ow; cases ow
        | some u =>
          simp only [hc] at ow
          have hm := get_ofList _ _ _ hg
          obtain ⟨l, q1, q2⟩ := hr.live _ _ (hpre _ hm)
          cases B with
          | cells k =>
            have hc' : nth k.c K.wit.2 = some u := hc
            rw [nth_eq] at hc'
            obtain ⟨cc, ff, q3, q4, q4', q5, q6⟩ := q2
            obtain ⟨v', q7, q8⟩ := q5 K.wit.2 u hc'
            exact witV_ok hnum ow q8
          | _ => cases hc
    have hp : ∀ {Ψ : Ren}, Nums Ψ z F L N → CPok (cpG K) Ψ z F L N := by
      intro Ψ hn
      refine ⟨hlo, hhi, h200, ?_, fun e => ?_, fun e => ?_, fun e => ?_, fun e => ?_, fun e => ?_, fun e => ?_, fun e => ?_, fun e => ?_, (fun e => by cases e), (fun e => by cases e), ?_⟩
      · intro l hl; rw [hn.n] at hl; cases hl; rfl
      all_goals first
        | (exact absurd e (by show ¬ (3 < 3); omega))
        | skip
      intro _ l hl; rw [hn.f] at hl; cases hl; rfl
    -- the state from which it was told
    have hcov : covH (cpG K) (idP K.nx) s.h (clrL K.pre) = true := by
      refine covH_same (fun q hq => ?_) ocov
      obtain ⟨x, hx, rfl⟩ := mem_clrL hq
      obtain ⟨g1, g2, _⟩ := hin _ hx
      exact ⟨g1, g2, (hpre _ hx).trans (hpre0 _ hx).symm⟩
    obtain ⟨hr0, him0⟩ := cov_rel (hp hnum) hr (idP_rises h64) hcov
    have hag0 : ∀ a, a < K.nx → covR (idP K.nx) Φ z F L N a = Φ a := fun a h => covR_keep hnum h
    obtain ⟨a', l1, ha1, hv0, hl1⟩ := ha.cons_inv
    obtain ⟨b', l2, ha2, hv1, hl2⟩ := hl1.cons_inv
    obtain ⟨c', l3, ha3, hv2, hl3⟩ := hl2.cons_inv
    have hl3' := hl3.nil_inv
    subst hl3' ha3 ha2
    have hva : VRs (covR (idP K.nx) Φ z F L N) [K.a0, K.a1, .int .i64 (Int.ofNat j)] args'.toList := by
      rw [ha1]
      refine .cons _ _ _ _ (covV_sound (hp hnum) _ _ _ _ oa0 hv0) (.cons _ _ _ _ (covV_sound (hp hnum) _ _ _ _ oa1 hv1) (.cons _ _ _ _ ?_ .nil))
      cases hv2
      exact .int _ _
    unfold runG at orun
    cases hx : (lvl E n).cl f [K.a0, K.a1, .int .i64 (Int.ofNat j)] ⟨ofList (clrL K.pre), K.nx⟩ with
    | none => simp only [hx] at orun; cases orun
    | some y =>
      obtain ⟨v1, s1⟩ := y
      simp only [hx] at orun
      have orun' : band (covV (cpG K) (idP K.nx) 20 K.v v1) (covH (cpG K) (idP K.nx) s1.h (clrL K.pre)) = true := orun
      rw [band_eq, Bool.and_eq_true] at orun'
      obtain ⟨r1, r2⟩ := orun'
      refine (lvl_ok hE hO n f _ args' _ v1 s1 _ w hx hr0 hva).mono fun v' w' => ?_
      rintro ⟨Φ', g1, g2, g3⟩
      have hnum0 : Nums (covR (idP K.nx) Φ z F L N) z F L N := ⟨covR_63, covR_62, covR_61, covR_60⟩
      have hnum' : Nums Φ' z F L N := hnum0.ext hr0.dom g3
      have hag' : ∀ a, a < K.nx → Φ' a = Φ a := fun a h => by rw [g3.ag a h]; exact hag0 a h
      obtain ⟨hr2, him2⟩ := cov_rel (hp hnum') g2 (idP_rises h64) r2
      have hle : Ren.le (covR (idP K.nx) Φ' z F L N) Φ := covR_idP hnum' h64 hag'
      have hle0 : Ren.le (covR (idP K.nx) Φ z F L N) Φ := covR_idP hnum h64 (fun _ _ => rfl)
      have hvv := (covV_sound (ps := idP K.nx) (hp hnum') _ _ _ _ r1 g1).mono hle
      have hgetc : ∀ x ∈ K.pre, (ofList (clrL K.pre)).get x.1 = some (clrB x.2) → True := fun _ _ _ => trivial
      have hmemc : ∀ a B, (ofList (clrL K.pre)).get a = some B → ∃ A, (a, A) ∈ K.pre ∧ B = clrB A := by
        intro a B hg
        obtain ⟨q, h1, h2⟩ := mem_clrL (get_ofList _ _ _ hg)
        cases h2
        exact ⟨q.2, h1, rfl⟩
      have hhas : ∀ a A, (a, A) ∈ K.pre → ∃ B, (ofList (clrL K.pre)).get a = some B := by
        intro a A hm
        have key : ∀ {l : List (Nat × AB)}, (a, A) ∈ l → ∃ B, (ofList (clrL l)).get a = some B := by
          intro l
          induction l with
          | nil => intro h; cases h
          | cons q l ih =>
            intro h
            have e : ofList (clrL (q :: l)) = (ofList (clrL l)).set q.1 (some (clrB q.2)) := rfl
            rw [e]
            by_cases ea : a = q.1
            · exact ⟨clrB q.2, by rw [get_set, if_pos ea]⟩
            · rcases List.mem_cons.1 h with h | h
              · cases h; exact absurd rfl ea
              · obtain ⟨B, hB⟩ := ih h
                exact ⟨B, by rw [get_set, if_neg ea]; exact hB⟩
        exact key hm
      refine ⟨Φ, hvv, ⟨⟨fun a B hB => ?_, hr.apart, hr.heir, hr.ends⟩, hr.dom, hr.pas, hr.gl⟩, Nat.le_refl _, fun _ _ => rfl, g3.size, fun β hβ hi => ?_, fun β hi => .inl hi, g3.tape, g3.os, g3.output⟩
      · obtain ⟨l, q1, q2⟩ := hr.live a B hB
        refine ⟨l, q1, ?_⟩
        by_cases hi : Im (covR (idP K.nx) Φ z F L N) (ofList (clrL K.pre)) l.b
        · obtain ⟨b, Bb, lb, p1, p2, p3⟩ := hi
          obtain ⟨A, hm, rfl⟩ := hmemc b Bb p1
          obtain ⟨_, hlt, hfr⟩ := hin _ hm
          have p2' : Φ b = some lb := hle0 _ _ p2
          by_cases hab : a = b
          · subst hab
            have hBe : some B = some A := hB.symm.trans (hpre _ hm)
            cases hBe
            obtain ⟨Bx, hBx⟩ := hhas a B hm
            obtain ⟨l', t1, t2⟩ := hr2.live a Bx hBx
            obtain ⟨A2, hm2, rfl⟩ := hmemc a Bx hBx
            have hA2 : some A2 = some B := (hpre _ hm2).symm.trans (hpre _ hm)
            cases hA2
            have := hle _ _ t1
            rw [q1] at this
            cases this
            exact clrB_BR.1 (t2.mono hle)
          · rcases hr.apart a b B A l lb hB (hpre _ hm) hab q1 p2' p3.symm with h | h
            · exact absurd (hr.heir a B b A hB h (hpre _ hm)) (fresh_not hfr)
            · have := goneP_mem e5 _ hm a h
              rw [hB] at this; cases this
        · rw [g3.frame l.b (Im.lt hr.toHRel ⟨a, B, l, hB, q1, rfl⟩) hi]
          exact q2
      · refine g3.frame β hβ fun hh => hi ?_
        exact him0 β hh
  next => cases h
end
end Go.Ev

/-! A call that leaves all as it is, told once for all states: it reads tables alone. -/
namespace Go.Ev
open Go
set_option linter.unusedSimpArgs false
set_option linter.unusedVariables false
/-- its arguments, the tables, its answer -/
structure Qm where
  args : List Value
  pre : List (Nat × AB)
  v : Value
noncomputable section
def idFree (v : Value) : Bool := match v with
  | .bool _ => true
  | .int _ _ => true
  | .string _ => true
  | _ => false
def idFrees (l : List Value) : Bool := List.rec (motive := fun _ => Bool) true (fun v _ ih => band (idFree v) ih) l
def noPa (l : List Nat) : Bool := List.casesOn (motive := fun _ => Bool) l true (fun _ _ => false)
def fzT (f : Option (Nat × Nat)) : Bool := match f with
  | none => true
  | some (q, r) => band (Nat.beq r 0) (band (Nat.blt 0 q) (Nat.blt (q + 1) 64))
def tabOK (B : AB) : Bool := match B with
  | .cells k => band (allInt k.c) (band (band (bnot k.st) (noPa k.pa)) (fzT k.fz))
  | _ => false
def tabsOK (l : List (Nat × AB)) : Bool := List.rec (motive := fun _ => Bool) true (fun p _ ih => band (band (Nat.blt p.1 64) (tabOK p.2)) ih) l
def qmOK (m : Qm) : Bool := band (idFrees m.args) (band (idFree m.v) (tabsOK m.pre))
def qF (m : Qm) (g : List Value → S → Option (Value × S)) (args : List Value) (s : S) : Option (Value × S) :=
  orE (gd (band (vsEq (vEqN 20) m.args args) (hasAll s.h m.pre)) (some (m.v, s))) (g args s)
def qRuns (E : Env) (n : Nat) (f : FuncId) (m : Qm) : Bool :=
  Option.rec (motive := fun _ => Bool) false (fun p => Prod.rec (motive := fun _ => Bool) (fun v s => band (vEqN 20 v m.v) (hasAll s.h m.pre)) p) ((lvl E n).cl f m.args ⟨ofList m.pre, 64⟩)
end
theorem idFree_VR {v v' : Value} {Φ Ψ : Ren} (h : idFree v = true) (hv : VR Φ v v') : VR Ψ v v' := by
  cases v <;> first | (cases hv; first | exact .bool _ | exact .int _ _ | exact .str _) | cases h
theorem idFrees_VRs {Φ Ψ : Ren} : ∀ {l l' : List Value}, idFrees l = true → VRs Φ l l' → VRs Ψ l l'
  | _, _, _, .nil => .nil
  | v :: l, v' :: l', h, .cons _ _ _ _ hv hl => by
    have h' : band (idFree v) (idFrees l) = true := h
    rw [band_eq, Bool.and_eq_true] at h'
    exact .cons _ _ _ _ (idFree_VR h'.1 hv) (idFrees_VRs h'.2 hl)
theorem tabsOK_mem : ∀ {l : List (Nat × AB)}, tabsOK l = true → ∀ p ∈ l, p.1 < 64 ∧ tabOK p.2 = true := by
  intro l
  induction l with
  | nil => intro _ p hp; cases hp
  | cons q l ih =>
    intro h p hp
    have h' : band (band (Nat.blt q.1 64) (tabOK q.2)) (tabsOK l) = true := h
    rw [band_eq, Bool.and_eq_true, band_eq, Bool.and_eq_true, blt_nat] at h'
    rcases List.mem_cons.1 hp with rfl | hp
    · exact h'.1
    · exact ih h'.2 p hp
theorem tab_BR {B : AB} {Φ Ψ : Ren} {l : Loc} {o : Option Obj} (h : tabOK B = true) (ha : ∀ a, a < 64 → Ψ a = Φ a) (hb : BR Φ B l o) : BR Ψ B l o := by
  cases B with
  | cells k =>
    have h' : band (allInt k.c) (band (band (bnot k.st) (noPa k.pa)) (fzT k.fz)) = true := h
    simp only [band_eq, Bool.and_eq_true] at h'
    obtain ⟨h1, _, h2⟩ := h'
    obtain ⟨c, f, e1, e2, e3, e4, e5, e6⟩ := hb
    refine ⟨c, f, e1, e2, e3, fun i v hv => ?_, ?_, e6⟩
    · obtain ⟨v', q1, q2⟩ := e4 i v hv
      have := VR.ofInt (allInt_get h1 v (List.mem_of_getElem? hv)) q2
      subst this
      exact ⟨_, q1, VR.int_self (allInt_get h1 _ (List.mem_of_getElem? hv))⟩
    · cases hk : k.fz with
      | none => rw [hk] at e5; exact e5
      | some p =>
        rw [hk] at e5 h2
        obtain ⟨q, r⟩ := p
        have h3 : band (Nat.beq r 0) (band (Nat.blt 0 q) (Nat.blt (q + 1) 64)) = true := h2
        simp only [band_eq, Bool.and_eq_true, beq_nat, blt_nat] at h3
        obtain ⟨rfl, h4, h5⟩ := h3
        simp only [FzR] at e5 ⊢
        rw [if_neg (by omega), if_pos h4] at e5 ⊢
        rw [ha q (by omega), ha (q + 1) h5]
        exact e5
  | _ => cases h
theorem tab_fresh {B : AB} (h : tabOK B = true) : ¬ B.isStale ∧ B.pa = [] := by
  cases B with
  | cells k =>
    have h' : band (allInt k.c) (band (band (bnot k.st) (noPa k.pa)) (fzT k.fz)) = true := h
    simp only [band_eq, Bool.and_eq_true] at h'
    obtain ⟨_, ⟨h2, h3⟩, _⟩ := h'
    refine ⟨fun hs => ?_, ?_⟩
    · have hs' : k.st = true := hs
      rw [hs'] at h2; cases h2
    · show k.pa = []
      cases hk : k.pa with
      | nil => rfl
      | cons a l => rw [hk] at h3; cases h3
  | _ => cases h
theorem qm_sound {P : Program} {E : Env} {n : Nat} {f : FuncId} {m : Qm} {g : List Value → S → Option (Value × S)} (hE : EOK P E) (hO : OvOK P E) (hok : qmOK m = true) (hrun : qRuns E n f m = true) (hg : OvF P f g) : OvF P f (qF m g) := by
  intro args args' s v s' Φ w h hr ha
  rcases (orE_eq h).symm with h | h
  · exact hg args args' s v s' Φ w h hr ha
  obtain ⟨h1, h2⟩ := gd_eq h
  cases h2
  rw [band_eq, Bool.and_eq_true] at h1
  have ha1 := vsEq_eq (vEqN_eq 20) h1.1
  subst ha1
  have hpre := hasAll_mem h1.2
  unfold qmOK at hok
  simp only [band_eq, Bool.and_eq_true] at hok
  obtain ⟨o1, o2, o3⟩ := hok
  have htab := tabsOK_mem o3
  let Ψ : Ren := fun a => if a < 64 then Φ a else none
  have hΨ : ∀ a, a < 64 → Ψ a = Φ a := fun a h => if_pos h
  have hΨle : Ψ.le Φ := fun a l h => by
    by_cases h64 : a < 64
    · rw [hΨ a h64] at h; exact h
    · rw [show Ψ a = none from if_neg h64] at h; cases h
  have hget : ∀ a B, (ofList m.pre).get a = some B → (a, B) ∈ m.pre := fun a B h => get_ofList _ _ _ h
  have hr0 : Rel Ψ ⟨ofList m.pre, 64⟩ w := by
    refine ⟨⟨fun a B h => ?_, fun a b B B' l l' h h' hne hl hl' he => ?_, fun a B p Q h hp => ?_, fun a B p Q l l' h hp => ?_⟩, fun a ha => if_neg (Nat.not_lt.2 ha), fun a B p h hp => ?_, fun a ha => ?_⟩
    · have hm := hget a B h
      obtain ⟨l, q1, q2⟩ := hr.live a B (hpre _ hm)
      refine ⟨l, by rw [hΨ a (htab _ hm).1]; exact q1, tab_BR (htab _ hm).2 hΨ q2⟩
    · have hm := hget a B h
      have hm' := hget b B' h'
      rw [hΨ a (htab _ hm).1] at hl
      rw [hΨ b (htab _ hm').1] at hl'
      exact hr.apart a b B B' l l' (hpre _ hm) (hpre _ hm') hne hl hl' he
    · have hm := hget a B h
      rw [(tab_fresh (htab _ hm).2).2] at hp
      cases hp
    · have hm := hget a B h
      rw [(tab_fresh (htab _ hm).2).2] at hp
      cases hp
    · have hm := hget a B h
      rw [(tab_fresh (htab _ hm).2).2] at hp
      cases hp
    · obtain ⟨n, e⟩ := hr.gl a ha
      exact ⟨n, by rw [hΨ a ha]; exact e⟩
  unfold qRuns at hrun
  cases hx : (lvl E n).cl f m.args ⟨ofList m.pre, 64⟩ with
  | none => rw [hx] at hrun; cases hrun
  | some y =>
    obtain ⟨v1, s1⟩ := y
    rw [hx] at hrun
    have hrun' : band (vEqN 20 v1 m.v) (hasAll s1.h m.pre) = true := hrun
    rw [band_eq, Bool.and_eq_true] at hrun'
    obtain ⟨r1, r2⟩ := hrun'
    have ev := vEqN_eq _ _ _ r1
    subst ev
    have hpost := hasAll_mem r2
    refine (lvl_ok hE hO n f m.args args' _ m.v s1 Ψ w (by exact hx) hr0 (idFrees_VRs o1 ha)).mono fun v' w' => ?_
    rintro ⟨Φ', g1, g2, g3⟩
    have hag : ∀ a, a < 64 → Φ' a = Φ a := fun a h => by rw [g3.ag a h]; exact hΨ a h
    refine ⟨Φ, idFree_VR o2 g1, ⟨⟨fun a B hB => ?_, hr.apart, hr.heir, hr.ends⟩, hr.dom, hr.pas, hr.gl⟩, Nat.le_refl _, fun _ _ => rfl, g3.size, fun β hβ hi => ?_, fun β hi => .inl hi, g3.tape, g3.os, g3.output⟩
    · obtain ⟨l, q1, q2⟩ := hr.live a B hB
      refine ⟨l, q1, ?_⟩
      by_cases hi : Im Ψ (ofList m.pre) l.b
      · obtain ⟨b, Bb, lb, p1, p2, p3⟩ := hi
        have hm := hget b Bb p1
        have p2' : Φ b = some lb := hΨle _ _ p2
        have hab : a = b := by
          by_cases e : a = b
          · exact e
          · exfalso
            rcases hr.apart a b B Bb l lb hB (hpre _ hm) e q1 p2' p3.symm with h | h
            · exact (tab_fresh (htab _ hm).2).1 (hr.heir a B b Bb hB h (hpre _ hm))
            · rw [(tab_fresh (htab _ hm).2).2] at h; cases h
        subst hab
        have hBe : some B = some Bb := hB.symm.trans (hpre _ hm)
        cases hBe
        obtain ⟨l', t1, t2⟩ := g2.live a B (hpost _ hm)
        rw [hag a (htab _ hm).1, q1] at t1
        cases t1
        exact tab_BR (htab _ hm).2 (fun c hc => (hag c hc).symm) t2
      · rw [g3.frame l.b (Im.lt hr.toHRel ⟨a, B, l, hB, q1, rfl⟩) hi]
        exact q2
    · exact g3.frame β hβ fun ⟨b, Bb, lb, p1, p2, p3⟩ => hi ⟨b, Bb, lb, hpre _ (hget b Bb p1), hΨle _ _ p2, p3⟩
end Go.Ev

/-! A run that begins with two package-level tables of numbers, and with numbers that symbols stand for. -/
namespace Go.Ev
open Go
set_option linter.unusedSimpArgs false
set_option linter.unusedVariables false
/-- a table in the world -/
structure TabIn (w : World) (z : Nat → Nat) (g q : Nat) (el : TypeId) (c : Array Value) (fz : Nat × Nat) (cs : List Value) : Prop where
  hg : g < 60
  hq0 : 0 < q
  hq : q + 1 < 60
  hw : w.heap[g]? = some (.cells c el fz)
  hc : c.toList = cs
  hi : allInt cs = true
  z0 : z g = cs.length
  z1 : z q = fz.1
  z2 : z (q + 1) = fz.2
theorem TabIn.br {w : World} {z : Nat → Nat} {g q : Nat} {el : TypeId} {c : Array Value} {fz : Nat × Nat} {cs : List Value} (h : TabIn w z g q el c fz cs) :
    BR (Ren.globZ z) (tabB q el cs) ⟨g, 0, z g⟩ w.heap[g]? := by
  have hsz : c.size = cs.length := by rw [← h.hc]; simp
  have hq0 := h.hq0
  have hq := h.hq
  refine ⟨c, fz, h.hw, ?_, ?_, fun i v hv => ?_, ?_, fun _ => ⟨rfl, hsz.symm⟩⟩
  · show c.size = z g
    rw [h.z0, hsz]
  · show 0 + cs.length ≤ c.size
    omega
  · have hv' : cs[i]? = some v := hv
    refine ⟨v, ?_, VR.int_self (allInt_get h.hi v (List.mem_of_getElem? hv'))⟩
    show c[0 + i]? = some v
    rw [Nat.zero_add, ← Array.getElem?_toList, h.hc]; exact hv'
  · show FzR _ (some (q, 0)) _ _ _
    simp only [FzR]
    rw [if_neg (by omega), if_pos hq0]
    refine ⟨_, _, if_pos (by omega), if_pos (by omega), ?_⟩
    show fz = (z q, z (q + 1))
    rw [h.z1, h.z2]
theorem Rel.start2 {w : World} {z : Nat → Nat} {g q g2 q2 : Nat} {el el2 : TypeId} {c c2 : Array Value} {fz fz2 : Nat × Nat} {cs cs2 : List Value} (h1 : TabIn w z g q el c fz cs) (h2 : TabIn w z g2 q2 el2 c2 fz2 cs2) :
    Rel (Ren.globZ z) ⟨ofList [(g, tabB q el cs), (g2, tabB q2 el2 cs2)], 64⟩ w := by
  have hget : ∀ a B, (ofList [(g, tabB q el cs), (g2, tabB q2 el2 cs2)]).get a = some B → a < 64 ∧ B.pa = [] ∧ BR (Ren.globZ z) B ⟨a, 0, z a⟩ w.heap[a]? := by
    intro a B h
    have := get_ofList _ _ _ h
    rcases List.mem_cons.1 this with e | e
    · cases e
      have := h1.hg
      exact ⟨by omega, rfl, h1.br⟩
    · rw [List.mem_singleton] at e
      cases e
      have := h2.hg
      exact ⟨by omega, rfl, h2.br⟩
  refine ⟨⟨fun a B h => ?_, fun a a' B B' m m' h h' hne hl hl' he => ?_, fun a B p P h hp => ?_, fun a B p P m m' h hp => ?_⟩, fun a ha => ?_, fun a B p h hp => ?_, fun a ha => ⟨_, if_pos ha⟩⟩
  · obtain ⟨ha, _, hb⟩ := hget a B h
    exact ⟨_, if_pos ha, hb⟩
  · exfalso
    obtain ⟨ha, _, _⟩ := hget a B h
    obtain ⟨ha', _, _⟩ := hget a' B' h'
    have e1 := (if_pos ha).symm.trans hl
    have e2 := (if_pos ha').symm.trans hl'
    cases e1
    cases e2
    exact hne he
  · rw [(hget a B h).2.1] at hp; cases hp
  · rw [(hget a B h).2.1] at hp; cases hp
  · exact if_neg (Nat.not_lt.2 ha)
  · rw [(hget a B h).2.1] at hp; cases hp
theorem TabIn.same {w w' : World} {z : Nat → Nat} {g q : Nat} {el : TypeId} {c : Array Value} {fz : Nat × Nat} {cs : List Value} (h : TabIn w z g q el c fz cs) {Φ' : Ren} {s' : S}
    (hr : Rel Φ' s' w') (hag : ∀ a, a < 64 → Φ' a = Ren.globZ z a) (hat : s'.h.get g = some (tabB q el cs)) : w'.heap[g]? = w.heap[g]? := by
  have hg := h.hg
  have hq := h.hq
  have hq0 := h.hq0
  obtain ⟨l, e1, c', f', e2, e3, e4, e5, e6, e7⟩ := hr.live _ _ hat
  have e1' := e1
  rw [hag _ (by omega)] at e1'
  have e1'' := (if_pos (show g < 64 by omega)).symm.trans e1'
  cases e1''
  have e2' : w'.heap[g]? = some (.cells c' el f') := e2
  rw [e2', h.hw]
  have hsz' : c'.size = cs.length := by
    have : c'.size = z g := e3
    rw [h.z0] at this
    exact this
  have hcc : c' = c := by
    apply Array.toList_inj.1
    rw [h.hc]
    apply List.ext_getElem?
    intro i
    rw [Array.getElem?_toList]
    rcases Nat.lt_or_ge i cs.length with hlt | hge
    · have hv : cs[i]? = some cs[i] := List.getElem?_eq_getElem hlt
      obtain ⟨v', q1, q2⟩ := e5 i cs[i] hv
      have q3 := VR.ofInt (allInt_get h.hi _ (List.getElem_mem hlt)) q2
      rw [hv, ← q3]
      have q1' : c'[0 + i]? = some v' := q1
      rw [Nat.zero_add] at q1'; exact q1'
    · rw [List.getElem?_eq_none hge, Array.getElem?_eq_none (by omega)]
  have hff : f' = fz := by
    have e6' : FzR Φ' (some (q, 0)) 0 c'.size f' := e6
    simp only [FzR] at e6'
    rw [if_neg (by omega), if_pos hq0] at e6'
    obtain ⟨l1, l2, q1, q2, q3⟩ := e6'
    rw [hag q (by omega)] at q1
    rw [hag (q + 1) (by omega)] at q2
    have q1' := (if_pos (show q < 64 by omega)).symm.trans q1
    have q2' := (if_pos (show q + 1 < 64 by omega)).symm.trans q2
    cases q1'
    cases q2'
    rw [q3]
    show (z q, z (q + 1)) = fz
    rw [h.z1, h.z2]
  rw [hcc, hff]
/-- A RUN THAT ANSWERS true, from two tables -/
theorem run_true2 {P : Program} {E : Env} {n : Nat} {f : FuncId} {fn : Func} {args : List Value} {args' : Array Value} {w : World} {z : Nat → Nat} {g q g2 q2 : Nat} {el el2 : TypeId} {c c2 : Array Value} {fz fz2 : Nat × Nat} {cs cs2 : List Value}
    (hE : EOK P E) (hO : OvOK P E) (h1 : TabIn w z g q el c fz cs) (h2 : TabIn w z g2 q2 el2 c2 fz2 cs2)
    (h : isTG [(g, tabB q el cs), (g2, tabB q2 el2 cs2)] ((lvl E n).cl f args ⟨ofList [(g, tabB q el cs), (g2, tabB q2 el2 cs2)], 64⟩) = true)
    (hf : P.funcs[f]? = some fn) (hn : (fn.name == "runtime.NumGoroutine") = false) (hb : fn.body.isSome = true) (ha : VRs (Ren.globZ z) args args'.toList) :
    Calls P f args' w fun e w' => e = .returned (.bool true) ∧ Kept0 w w' := by
  obtain ⟨s', hs, hall⟩ := isTG_eq h
  obtain ⟨cd, hcd⟩ := Option.isSome_iff_exists.1 hb
  have hrun := callFunc_body (P := P) (w := w) (args := args') hf hcd (fun e => by rw [e] at hn; cases hn)
  rcases lvl_ok hE hO n f args args' _ (.bool true) s' _ w hs (Rel.start2 h1 h2) ha with ⟨_, g2', _⟩ | ⟨v', g1', _⟩
  · refine g2'.mono fun e w' => ?_
    rintro ⟨v', rfl, Φ', g3, g4, g5⟩
    cases g3
    have hΦ : ∀ a, a < 64 → Φ' a = Ren.globZ z a := fun a ha => g5.ag a ha
    refine ⟨rfl, fun β hβ => ?_, g5.size, g5.tape, g5.os, g5.output⟩
    by_cases hβ1 : β = g
    · subst hβ1
      exact h1.same g4 hΦ (hasAll_mem hall _ List.mem_cons_self)
    · by_cases hβ2 : β = g2
      · subst hβ2
        exact h2.same g4 hΦ (hasAll_mem hall _ (List.mem_cons_of_mem _ List.mem_cons_self))
      · refine g5.frame β hβ ?_
        rintro ⟨a, B, l, k1, k2, k3⟩
        have := get_ofList [(g, tabB q el cs), (g2, tabB q2 el2 cs2)] a B k1
        have h60 := h1.hg
        have h60' := h2.hg
        rcases List.mem_cons.1 this with e | e
        · cases e
          have k2' := (if_pos (show g < 64 by omega)).symm.trans k2
          cases k2'
          exact hβ1 k3.symm
        · rw [List.mem_singleton] at e
          cases e
          have k2' := (if_pos (show g2 < 64 by omega)).symm.trans k2
          cases k2'
          exact hβ2 k3.symm
  · rw [hrun] at g1'; cases g1'
end Go.Ev

