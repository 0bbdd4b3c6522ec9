/- Zone: what right zones are; taking and giving keep them right. No program in sight. -/
import Derived.Test.YtcifhjkodbaghaaB16
set_option linter.unusedSimpArgs false
set_option linter.unusedVariables false
namespace Go.Proofs.Ytcifhjkodbaghaa
open Go Go.Sk Go.RowKit

structure FreeOk (lo hi : Int) (l : List Int) : Prop where
  asc : l.Pairwise (· < ·)
  inn : ∀ x ∈ l, lo ≤ x ∧ x < hi
theorem ascN_iff (lo hi : Int) (l : List Int) : ascN lo hi l l.length = true ↔ FreeOk lo hi l := by
  constructor
  · intro h
    refine ⟨ascN_pair lo hi l h, fun x hx => ?_⟩
    obtain ⟨i, hi', rfl⟩ := List.getElem_of_mem hx
    have := ascN_mono lo hi l l.length i hi' h
    simp only [freeBad, Bool.or_eq_false_iff, decide_eq_false_iff_not] at this
    rw [getI l i hi']
    omega
  · intro h
    have : ∀ n, n ≤ l.length → ascN lo hi l n = true := by
      intro n
      induction n with
      | zero => intro _; rfl
      | succ n ih =>
        intro hn
        have hlt : n < l.length := by omega
        simp only [ascN, Bool.and_eq_true, Bool.not_eq_true', ih (by omega), true_and]
        have hin := h.inn l[n] (List.getElem_mem hlt)
        rw [getI l n hlt] at hin
        have h3 : (decide (0 < (n : Int)) && decide (l.getD n 0 ≤ l.getD (n - 1) 0)) = false := by
          by_cases e : n = 0
          · simp [e]
          · have := pair_mono h.asc (n - 1) n (by omega) hlt
            rw [show decide (l.getD n 0 ≤ l.getD (n - 1) 0) = false from by simp only [decide_eq_false_iff_not]; omega, Bool.and_false]
        simp only [freeBad, Bool.or_eq_false_iff, decide_eq_false_iff_not, h3, and_true]
        omega
    exact this _ (Nat.le_refl _)
theorem FreeOk.len : ∀ {l : List Int} {lo hi : Int}, FreeOk lo hi l → lo ≤ hi → (l.length : Int) ≤ hi - lo
  | [], _, _, _, h => by simp; omega
  | x :: r, lo, hi, h, _ => by
    have hx := h.inn x (by simp)
    have hp := List.pairwise_cons.1 h.asc
    have := FreeOk.len (l := r) (lo := x + 1) (hi := hi) ⟨hp.2, fun y hy => ⟨by have := hp.1 y hy; omega, (h.inn y (by simp [hy])).2⟩⟩ (by omega)
    simp only [List.length_cons]
    omega
theorem FreeOk.drop {lo hi : Int} {l : List Int} (h : FreeOk lo hi l) (n : Nat) : FreeOk lo hi (l.drop n) :=
  ⟨h.asc.sublist (List.drop_sublist n l), fun x hx => h.inn x (List.mem_of_mem_drop hx)⟩
theorem mem_insI {l : List Int} {i : Nat} {x y : Int} : y ∈ insI l i x ↔ y = x ∨ y ∈ l := by
  rw [insI, List.mem_append, List.mem_cons]
  constructor
  · rintro (h | h | h)
    · exact .inr (List.mem_of_mem_take h)
    · exact .inl h
    · exact .inr (List.mem_of_mem_drop h)
  · rintro (h | h)
    · exact .inr (.inl h)
    · rw [← List.take_append_drop i l, List.mem_append] at h
      rcases h with h | h
      · exact .inl h
      · exact .inr (.inr h)
theorem hit_iff {l : List Int} (hs : l.Pairwise (· < ·)) (x : Int) : hitI l x = true ↔ x ∈ l := by
  constructor
  · intro h
    rw [hitI] at h
    by_cases e : atI l x < l.length
    · rw [show decide (atI l x < l.length) = true by simpa using e, cond_true] at h
      have : l.getD (atI l x) 0 = x := by simpa using h
      rw [← this, ← getI l _ e]
      exact List.getElem_mem e
    · rw [show decide (atI l x < l.length) = false by simpa using e] at h; cases h
  · intro h
    obtain ⟨i, hi, rfl⟩ := List.getElem_of_mem h
    exact hit_of hs hi (getI l i hi).symm
theorem FreeOk.ins {lo hi : Int} {l : List Int} (h : FreeOk lo hi l) {f : Int} (hf : lo ≤ f ∧ f < hi) (hn : f ∉ l) : FreeOk lo hi (insI l (atI l f) f) := by
  refine ⟨?_, fun x hx => ?_⟩
  · have hle := atI_le l f
    rw [insI, List.pairwise_append]
    refine ⟨h.asc.sublist (List.take_sublist _ l), List.pairwise_cons.2 ⟨fun y hy => ?_, h.asc.sublist (List.drop_sublist _ l)⟩, fun a ha b hb => ?_⟩
    · obtain ⟨j, hj, rfl⟩ := List.getElem_of_mem hy
      rw [List.length_drop] at hj
      rw [List.getElem_drop, getI l _ (by omega)]
      have hlt : atI l f < l.length := by omega
      have h1 := atI_ge l f hlt
      have h2 : l.getD (atI l f + j) 0 ≠ f := fun e => hn (by rw [← e, ← getI l _ (by omega)]; exact List.getElem_mem _)
      by_cases e : j = 0
      · subst e; rw [Nat.add_zero] at h2 ⊢; omega
      · have := pair_mono h.asc (atI l f) (atI l f + j) (by omega) (by omega); omega
    · obtain ⟨j, hj, rfl⟩ := List.getElem_of_mem ha
      rw [List.length_take] at hj
      have hlt : l[j]'(by omega) < f := by rw [getI l j (by omega)]; exact atI_lt l f j (by omega)
      rw [List.getElem_take]
      rcases List.mem_cons.1 hb with rfl | hb
      · exact hlt
      · obtain ⟨k, hk, rfl⟩ := List.getElem_of_mem hb
        rw [List.length_drop] at hk
        rw [List.getElem_drop, getI l j (by omega), getI l _ (by omega)]
        exact pair_mono h.asc _ _ (by omega) (by omega)
  · rcases mem_insI.1 hx with rfl | hx
    · exact hf
    · exact h.inn x hx

structure RZ (f : Int) (z : Zn) : Prop where
  first : z.first = f
  size : 1 ≤ z.size ∧ z.size ≤ 64
  stop : f + z.size ≤ 65
  marks : 0 ≤ z.min ∧ z.min ≤ z.low ∧ z.low ≤ z.high ∧ z.high ≤ z.size
  free : FreeOk f (f + z.size) z.free
theorem right_iff {z : Zn} {f : Int} (hf : 1 ≤ f ∧ f ≤ 65) : rightZ z f = true ↔ RZ f z := by
  constructor
  · intro h
    obtain ⟨g, h1, h2⟩ := right_good hf h
    have g2 := g.stop
    rw [h1] at g2
    refine ⟨h1, g.size, g2, g.marks, ?_⟩
    have := (ascN_iff _ _ _).1 g.asc
    rwa [h1] at this
  · intro h
    have h1 := h.first
    have h2 := h.size
    have h3 := h.stop
    have h4 := h.marks
    have he : endZ z = f + z.size := by rw [endZ, wrapI (by omega) (by omega)]; omega
    have a1 : headBad z f = false := by
      simp only [headBad, Bool.or_eq_false_iff, decide_eq_false_iff_not, bne_eq_false_iff_eq]; omega
    have a2 : markBad z = false := by
      simp only [markBad, Bool.or_eq_false_iff, decide_eq_false_iff_not]; omega
    rw [rightZ, a1, a2, cond_false, cond_false, he, h1]
    exact (ascN_iff _ _ _).2 h.free
def ChZ : Int → List Zn → Prop
  | _, [] => True
  | f, z :: r => RZ f z ∧ ChZ (f + z.size) r
theorem chk_iff : ∀ (l : List Zn) (f : Int), 1 ≤ f ∧ f ≤ 65 → (chkF f l = true ↔ ChZ f l)
  | [], _, _ => by simp [chkF, ChZ]
  | z :: r, f, hf => by
    simp only [chkF, ChZ, Bool.and_eq_true]
    rw [right_iff hf]
    constructor
    · rintro ⟨h1, h2⟩
      have e := (right_good hf ((right_iff hf).2 h1)).2.2
      have := h1.size; have := h1.stop
      rw [e] at h2
      exact ⟨h1, (chk_iff r _ (by omega)).1 h2⟩
    · rintro ⟨h1, h2⟩
      have e := (right_good hf ((right_iff hf).2 h1)).2.2
      have := h1.size; have := h1.stop
      rw [e]
      exact ⟨h1, (chk_iff r _ (by omega)).2 h2⟩
theorem check_iff (l : List Zn) : checkZ l = true ↔ ChZ 1 l ∧ l ≠ [] := by
  rw [checkZ, Bool.and_eq_true, chk_iff l 1 (by decide)]
  refine and_congr Iff.rfl ?_
  cases l <;> simp
theorem ChZ.len : ∀ {l : List Zn} {f : Int}, ChZ f l → f ≤ 65 → f + l.length ≤ 65
  | [], f, _, h => by simpa using h
  | z :: r, f, h, _ => by
    have := h.1.size; have := h.1.stop
    have := ChZ.len h.2 (by omega)
    simp only [List.length_cons]; omega
theorem ChZ.get : ∀ {l : List Zn} {f : Int}, ChZ f l → ∀ (i : Nat) (h : i < l.length), RZ l[i].first l[i] ∧ f ≤ l[i].first
  | z :: r, f, h, 0, _ => by simp only [List.getElem_cons_zero]; rw [h.1.first]; exact ⟨h.1, Int.le_refl _⟩
  | z :: r, f, h, i + 1, hi => by
    have a1 := ChZ.get h.2 i (by simpa using hi)
    have a2 := h.1.size
    simp only [List.getElem_cons_succ]
    exact ⟨a1.1, by omega⟩
theorem ChZ.set : ∀ {l : List Zn} {f : Int}, ChZ f l → ∀ (i : Nat) (h : i < l.length) (z : Zn), RZ l[i].first z → z.size = l[i].size → ChZ f (l.set i z)
  | y :: r, f, h, 0, _, z, hz, hs => by
    simp only [List.getElem_cons_zero] at hz hs
    rw [h.1.first] at hz
    simp only [List.set_cons_zero, ChZ]
    rw [hs]
    exact ⟨hz, h.2⟩
  | y :: r, f, h, i + 1, hi, z, hz, hs => by
    simp only [List.getElem_cons_succ] at hz hs
    simp only [List.set_cons_succ, ChZ]
    exact ⟨h.1, ChZ.set h.2 i (by simpa using hi) z hz hs⟩
theorem check_small {l : List Zn} (h : checkZ l = true) : SmallZ l := by
  have hc := (check_iff l).1 h
  refine ⟨by have := hc.1.len (by decide); omega, fun z hz => ?_⟩
  obtain ⟨i, hi, rfl⟩ := List.getElem_of_mem hz
  obtain ⟨g, -⟩ := hc.1.get i hi
  have := g.free.len (by have := g.size; omega)
  have := g.size
  omega
theorem check_len {l : List Zn} (h : checkZ l = true) : 1 ≤ l.length ∧ l.length ≤ 64 := by
  have hc := (check_iff l).1 h
  have := hc.1.len (by decide)
  have := List.length_pos_iff.2 hc.2
  omega
/-! 'ex' does not matter. -/
theorem RZ.ex {f : Int} {z : Zn} : RZ f (exZ z) ↔ RZ f z := ⟨fun h => ⟨h.1, h.2, h.3, h.4, h.5⟩, fun h => ⟨h.1, h.2, h.3, h.4, h.5⟩⟩
theorem ChZ.ex : ∀ {l : List Zn} {f : Int}, ChZ f (l.map exZ) ↔ ChZ f l
  | [], _ => Iff.rfl
  | z :: r, f => and_congr RZ.ex (ChZ.ex (l := r))
theorem check_ex (l : List Zn) : checkZ (l.map exZ) = checkZ l := by
  rw [Bool.eq_iff_iff, check_iff, check_iff, ChZ.ex]
  simp
def SimZ (a b : List Zn) : Prop := a.map exZ = b.map exZ
theorem SimZ.refl (a : List Zn) : SimZ a a := rfl
theorem exZ_exZ (z : Zn) : exZ (exZ z) = exZ z := rfl
theorem SimZ.ex (a : List Zn) : SimZ (a.map exZ) a := by rw [SimZ, List.map_map]; rfl
theorem SimZ.symm {a b : List Zn} (h : SimZ a b) : SimZ b a := Eq.symm h
theorem SimZ.trans {a b c : List Zn} (h : SimZ a b) (k : SimZ b c) : SimZ a c := Eq.trans h k
theorem SimZ.len {a b : List Zn} (h : SimZ a b) : a.length = b.length := by have := congrArg List.length h; simpa using this
theorem SimZ.check {a b : List Zn} (h : SimZ a b) : checkZ a = checkZ b := by rw [← check_ex a, ← check_ex b, show a.map exZ = b.map exZ from h]
theorem SimZ.get {a b : List Zn} (h : SimZ a b) (i : Nat) (hi : i < a.length) : exZ a[i] = exZ (b[i]'(by rw [← h.len]; exact hi)) := by
  have h1 : (a.map exZ)[i]? = (b.map exZ)[i]? := by rw [show a.map exZ = b.map exZ from h]
  have hb : i < b.length := by rw [← h.len]; exact hi
  rw [List.getElem?_map, List.getElem?_map, List.getElem?_eq_getElem hi, List.getElem?_eq_getElem hb] at h1
  simpa using h1
theorem SimZ.set {a b : List Zn} (h : SimZ a b) (i : Nat) {x y : Zn} (e : exZ x = exZ y) : SimZ (a.set i x) (b.set i y) := by
  rw [SimZ, List.map_set, List.map_set, e, show a.map exZ = b.map exZ from h]
theorem eqZ_ex (x y : Zn) : eqZ x y = true ↔ exZ x = exZ y := by
  rw [eqZ_iff]
  obtain ⟨a1, a2, a3, a4, a5, a6, a7⟩ := x
  obtain ⟨b1, b2, b3, b4, b5, b6, b7⟩ := y
  simp [exZ]
theorem sameR_sim {a b : List Zn} (h : SimZ a b) : sameR a b = true := by
  rw [sameR_iff]
  exact ⟨h.len, fun i h1 h2 => (eqZ_ex _ _).2 (h.get i h1)⟩
/-! Taking, giving, making. -/
theorem takeAt_some {l : List Zn} {u : Bool} : ∀ {n i : Nat}, takeAt l u n = some i → i < n ∧ hasZ u (l.getD i zeroZ) = true ∧ ∀ j, i < j → j < n → hasZ u (l.getD j zeroZ) = false
  | 0, i, h => by cases h
  | n + 1, i, h => by
    simp only [takeAt] at h
    cases hz : hasZ u (l.getD n zeroZ) with
    | true =>
      rw [hz] at h
      obtain rfl : n = i := Option.some.inj h
      exact ⟨by omega, hz, fun j h1 h2 => by omega⟩
    | false =>
      rw [hz] at h
      obtain ⟨h1, h2, h3⟩ := takeAt_some (n := n) h
      refine ⟨by omega, h2, fun j hj hj' => ?_⟩
      by_cases e : j = n
      · rw [e]; exact hz
      · exact h3 j hj (by omega)
theorem takeAt_none {l : List Zn} {u : Bool} : ∀ {n : Nat}, takeAt l u n = none → ∀ j, j < n → hasZ u (l.getD j zeroZ) = false
  | 0, _, j, hj => by omega
  | n + 1, h, j, hj => by
    simp only [takeAt] at h
    cases hz : hasZ u (l.getD n zeroZ) with
    | true => rw [hz] at h; cases h
    | false =>
      rw [hz] at h
      by_cases e : j = n
      · rw [e]; exact hz
      · exact takeAt_none (n := n) h j (by omega)
theorem RZ.taken {f : Int} {z : Zn} (h : RZ f z) : RZ f (takenZ z) := ⟨h.first, h.size, h.stop, h.marks, h.free.drop 1⟩
theorem RZ.gave {f : Int} {z : Zn} (h : RZ f z) {x : Int} (hx : f ≤ x ∧ x < f + z.size) (hn : x ∉ z.free) : RZ f (gaveZ z x) := ⟨h.first, h.size, h.stop, h.marks, h.free.ins hx hn⟩
/-- What Take answers at right zones. -/
inductive TakeR (base l : List Zn) (p : Int) (u : Bool) : List Zn × Int × Int → Prop
  | range (h : p < 0 ∨ (l.length : Int) ≤ p) : TakeR base l p u (base, 0, 2)
  | full (h0 : 0 ≤ p) (h1 : p < l.length) (h : ∀ j : Nat, (j : Int) ≤ p → hasZ u (l.getD j zeroZ) = false) : TakeR base l p u (base, 0, 3)
  | ok (h0 : 0 ≤ p) (h1 : p < l.length) (i : Nat) (hi : i < l.length) (hp : (i : Int) ≤ p) (hz : hasZ u l[i] = true) (hn : ∀ j : Nat, i < j → (j : Int) ≤ p → hasZ u (l.getD j zeroZ) = false) :
      TakeR base l p u (base.set i (takenZ l[i]), l[i].free.getD 0 0, 0)
theorem takeG_R {base l : List Zn} {p : Int} {u : Bool} (h : checkZ l = true) : TakeR base l p u (takeG base l p u) := by
  rw [takeG, h, Bool.not_true, cond_false]
  by_cases hr : p < 0 ∨ (l.length : Int) ≤ p
  · rw [show (decide (p < 0) || decide ((l.length : Int) ≤ p)) = true by simpa using hr, cond_true]
    exact .range hr
  · rw [show (decide (p < 0) || decide ((l.length : Int) ≤ p)) = false by simpa using hr, cond_false]
    cases ht : takeAt l u (p + 1).toNat with
    | none => exact .full (by omega) (by omega) fun j hj => takeAt_none ht j (by omega)
    | some i =>
      obtain ⟨h1, h2, h3⟩ := takeAt_some ht
      have hi : i < l.length := by omega
      rw [getZ l i hi] at h2
      simp only [getZ l i hi]
      exact .ok (by omega) (by omega) i hi (by omega) h2 fun j h4 h5 => h3 j h4 (by omega)
theorem SimZ.set_check {base l : List Zn} (hs : SimZ base l) (h : checkZ l = true) (i : Nat) (hi : i < l.length) {z : Zn} (hz : RZ l[i].first z) (hsz : z.size = l[i].size) : checkZ (base.set i z) = true := by
  rw [(hs.set i (x := z) (y := z) rfl).check, check_iff]
  have hc := (check_iff l).1 h
  exact ⟨hc.1.set i hi z hz hsz, by have := check_len h; intro e; have := congrArg List.length e; simp at this; exact hc.2 this⟩
theorem takeG_check {base l : List Zn} {p : Int} {u : Bool} (hs : SimZ base l) (h : checkZ l = true) : checkZ (takeG base l p u).1 = true := by
  have hc := (check_iff l).1 h
  have key := takeG_R (base := base) (p := p) (u := u) h
  generalize takeG base l p u = q at key
  cases key with
  | range _ => rw [hs.check]; exact h
  | full _ _ _ => rw [hs.check]; exact h
  | ok _ _ i hi _ _ _ => exact hs.set_check h i hi (hc.1.get i hi).1.taken rfl
theorem takeG_len {base l : List Zn} {p : Int} {u : Bool} : (takeG base l p u).1.length = base.length := by
  rw [takeG]
  repeat (first | (cases (checkZ l) <;> simp only [Bool.not_true, Bool.not_false, cond_true, cond_false]) | (cases (decide (p < 0) || decide ((l.length : Int) ≤ p)) <;> simp only [cond_true, cond_false]) | rfl)
  cases takeAt l u (p + 1).toNat <;> simp
theorem takeG_sim {base base' l : List Zn} {p : Int} {u : Bool} (hs : SimZ base base') : SimZ (takeG base l p u).1 (takeG base' l p u).1 ∧ (takeG base l p u).2 = (takeG base' l p u).2 := by
  rw [takeG, takeG]
  cases checkZ l with
  | false => exact ⟨hs, rfl⟩
  | true =>
    cases decide (p < 0) || decide ((l.length : Int) ≤ p) with
    | true => exact ⟨hs, rfl⟩
    | false =>
      cases ht : takeAt l u (p + 1).toNat with
      | none => exact ⟨hs, rfl⟩
      | some i => exact ⟨hs.set i rfl, rfl⟩
theorem giveG_sim {base base' l : List Zn} {f : Int} (hs : SimZ base base') : SimZ (giveG base l f).1 (giveG base' l f).1 ∧ (giveG base l f).2 = (giveG base' l f).2 := by
  rw [giveG, giveG]
  cases checkZ l with
  | false => exact ⟨hs, rfl⟩
  | true =>
    cases decide (idxF (inG f) l < 0) with
    | true => exact ⟨hs, rfl⟩
    | false =>
      cases hitI (l.getD (idxF (inG f) l).toNat zeroZ).free f with
      | true => exact ⟨hs, rfl⟩
      | false => exact ⟨hs.set _ rfl, rfl⟩
/-- What Give answers at right zones. -/
inductive GiveR (base l : List Zn) (f : Int) : List Zn × Int → Prop
  | range (h : ∀ z ∈ l, ¬ (z.first ≤ f ∧ f < z.first + z.size)) : GiveR base l f (base, 2)
  | free (i : Nat) (hi : i < l.length) (hf : l[i].first ≤ f ∧ f < l[i].first + l[i].size) (hm : f ∈ l[i].free) : GiveR base l f (base, 5)
  | ok (i : Nat) (hi : i < l.length) (hf : l[i].first ≤ f ∧ f < l[i].first + l[i].size) (hm : f ∉ l[i].free) : GiveR base l f (base.set i (gaveZ l[i] f), 0)
theorem inG_iff {z : Zn} {f g : Int} (h : RZ g z) (hg : 1 ≤ g) : inG f z = true ↔ z.first ≤ f ∧ f < z.first + z.size := by
  have h1 := h.first; have h2 := h.stop; have h3 := h.size
  rw [inG, endZ, wrapI (by omega) (by omega)]
  by_cases e : z.first ≤ f
  · simp [e]
  · simp [e]
theorem giveG_R {base l : List Zn} {f : Int} (h : checkZ l = true) : GiveR base l f (giveG base l f) := by
  have hc := (check_iff l).1 h
  have hin : ∀ i (hi : i < l.length), inG f l[i] = true ↔ l[i].first ≤ f ∧ f < l[i].first + l[i].size := fun i hi => by
    obtain ⟨g1, g2⟩ := hc.1.get i hi
    exact inG_iff g1 g2
  rw [giveG, h, Bool.not_true, cond_false]
  by_cases hr : idxF (inG f) l < 0
  · rw [show decide (idxF (inG f) l < 0) = true by simpa using hr, cond_true]
    refine .range fun z hz => ?_
    obtain ⟨i, hi, rfl⟩ := List.getElem_of_mem hz
    rw [← hin i hi, (idxF_neg _ _).1 hr _ (List.getElem_mem hi)]
    simp
  · rw [show decide (idxF (inG f) l < 0) = false by simpa using hr, cond_false]
    obtain ⟨i, hi, e, h1, -⟩ := idxF_spec (inG f) l (by omega)
    rw [e, Int.toNat_natCast, getZ l i hi]
    obtain ⟨g1, g2⟩ := hc.1.get i hi
    cases hm : hitI l[i].free f with
    | true => exact .free i hi ((hin i hi).1 h1) ((hit_iff g1.free.asc f).1 hm)
    | false =>
      refine .ok i hi ((hin i hi).1 h1) fun hx => ?_
      rw [(hit_iff g1.free.asc f).2 hx] at hm; cases hm
theorem giveG_check {base l : List Zn} {f : Int} (hs : SimZ base l) (h : checkZ l = true) : checkZ (giveG base l f).1 = true := by
  have hc := (check_iff l).1 h
  have key := giveG_R (base := base) (f := f) h
  generalize giveG base l f = q at key
  cases key with
  | range _ => rw [hs.check]; exact h
  | free _ _ _ _ => rw [hs.check]; exact h
  | ok i hi hf hm => exact hs.set_check h i hi ((hc.1.get i hi).1.gave hf hm) rfl
theorem seqI_ok (a b : Int) : FreeOk a b (seqI a b) := by
  refine ⟨?_, fun x hx => (mem_seqI a b x).1 hx⟩
  rw [seqI, List.pairwise_map]
  refine List.Pairwise.imp (fun h => ?_) List.pairwise_lt_range
  omega
theorem divW_in {n k : Int} (h0 : 0 ≤ n) (h1 : n ≤ 64) (hk : 1 ≤ k) : divW n k = n / k ∧ 0 ≤ divW n k ∧ divW n k ≤ n := by
  have e : n.tdiv k = n / k := Int.tdiv_eq_ediv_of_nonneg h0
  have a := Int.ediv_nonneg h0 (show 0 ≤ k by omega)
  have b := Int.ediv_le_self k h0
  rw [divW, e, wrapI (by omega) (by omega)]
  omega
theorem mkZ_right {f n : Int} (hf : 1 ≤ f ∧ f ≤ 65) (h : badN f n = false) : RZ f (mkZ f n) := by
  obtain ⟨a1, a2, a3, a4⟩ := badN_ok hf h
  have d8 := divW_in (n := n) (k := 8) (by omega) a2 (by decide)
  have d4 := divW_in (n := n) (k := 4) (by omega) a2 (by decide)
  have d2 := divW_in (n := n) (k := 2) (by omega) a2 (by decide)
  exact ⟨rfl, ⟨a1, a2⟩, a3, ⟨d8.2.1, by show divW n 8 ≤ divW n 4; rw [d8.1, d4.1]; omega, by show divW n 4 ≤ divW n 2; rw [d4.1, d2.1]; omega, d2.2.2⟩, seqI_ok _ _⟩
theorem newR_ch : ∀ (s : List Int) (f : Int) (l : List Zn), 1 ≤ f ∧ f ≤ 65 → newR f s = some l → ChZ f l ∧ l.length = s.length
  | [], f, l, _, h => by obtain rfl : [] = l := Option.some.inj h; exact ⟨trivial, rfl⟩
  | n :: r, f, l, hf, h => by
    rw [newR] at h
    cases hb : badN f n with
    | true => rw [hb] at h; cases h
    | false =>
      rw [hb, cond_false, Option.map_eq_some_iff] at h
      obtain ⟨l', h1, rfl⟩ := h
      have a := badN_ok hf hb
      obtain ⟨h2, h3⟩ := newR_ch r (f + n) l' (by omega) h1
      exact ⟨⟨mkZ_right hf hb, h2⟩, by simp [h3]⟩
theorem newF_ok {s : List Int} (h : (newF s).2 = 0) : checkZ (newF s).1 = true ∧ (newF s).1.length = s.length ∧ newR 1 s = some (newF s).1 := by
  rw [newF] at h ⊢
  cases hs : ((s.length : Int) == 0) with
  | true => rw [hs] at h; cases h
  | false =>
    rw [hs] at h
    cases hn : newR 1 s with
    | none => rw [hn] at h; cases h
    | some l =>
      obtain ⟨h1, h2⟩ := newR_ch s 1 l (by decide) hn
      refine ⟨(check_iff l).2 ⟨h1, ?_⟩, h2, rfl⟩
      rintro rfl
      simp only [List.length_nil] at h2
      simp [← h2] at hs
theorem newF_small (s : List Int) : SmallZ (newF s).1 := by
  by_cases h : (newF s).2 = 0
  · exact check_small (newF_ok h).1
  · have : (newF s).1 = [] := by
      rw [newF] at h ⊢
      cases hs : ((s.length : Int) == 0) with
      | true => rfl
      | false =>
        rw [hs] at h
        cases hn : newR 1 s with
        | none => rfl
        | some l => rw [hn] at h; exact absurd rfl h
    rw [this]
    exact ⟨by simp, fun z hz => by cases hz⟩
end Go.Proofs.Ytcifhjkodbaghaa
