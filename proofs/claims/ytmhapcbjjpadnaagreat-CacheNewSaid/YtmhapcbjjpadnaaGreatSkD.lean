/- Sk, part D: steps of memory: a new object, a store, an append. -/
import Derived.Test.YtmhapcbjjpadnaaGreatSkX
import Derived.Deep.AppendSrc
import Derived.Deep.Upon
import Derived.Laws.CopyRow
import Derived.Laws.MakeOwn
set_option linter.unusedSimpArgs false
set_option linter.unusedVariables false
set_option linter.unusedSectionVars false
namespace Go.Sk
open Go Go.RowKit
variable [Tab]

def oneV : V → Bool
  | .int _ _ => true | .bool _ => true | .str _ => true | .nil => true | .ptr _ _ _ => true | .rp _ _ _ => true | .sl _ _ _ => true | .slx _ _ _ => true | .slk _ _ _ _ => true | .lst _ _ _ => true | .fn _ _ => true | .mp _ => true
  | .val v => v.oneCell'
  | _ => false
def flatV : V → Bool
  | .int _ _ => true | .bool _ => true | .str _ => true | .nil => true | .rp _ _ _ => true | .lst _ _ _ => true
  | .val v => v.oneCell'
  | _ => false
def V.cells? : V → Option (List V)
  | .agg cs => some cs
  | v => if oneV v then some [v] else none

theorem oneV_one {O : Nat → Prop} {w : World} {σ : Sg} {x : V} {v : Value} (h : VR O w σ x v) (h1 : oneV x = true) : v.oneCell' = true := by
  cases h <;> first | rfl | (simp [oneV] at h1; done) | (simpa [oneV] using h1)

theorem flatV_lift {O : Nat → Prop} {w : World} {σ : Sg} {x : V} {v : Value} (h : VR O w σ x v) (h1 : flatV x = true) : VR O w (fun _ => none) x v := by
  cases h <;> first
    | exact .int _ _ | exact .bool _ | exact .str _ | exact .nil | exact .val _
    | (exact .rp _ _ _ ‹_› ‹_› ‹_› ‹_› ‹_› ‹_›)
    | (exact .lst _ _ _ ‹_› ‹_› ‹_› ‹_› ‹_› ‹_› ‹_›)
    | (simp [flatV] at h1)

theorem flatV_oneV {x : V} (h : flatV x = true) : oneV x = true := by cases x <;> simp_all [flatV, oneV]

/-- A value, cell by cell. -/
theorem cells_VR {O : Nat → Prop} {w : World} {σ : Sg} {x : V} {v : Value} {cs : List V} (h : VR O w σ x v) (hc : x.cells? = some cs) (h1 : cs.all oneV = true) :
    v.cells.size = cs.length ∧ ∀ (i : Nat) (y : V), cs[i]? = some y → ∃ u, v.cells[i]? = some u ∧ u.oneCell' = true ∧ VR O w σ y u := by
  have key : ∀ y ∈ cs, oneV y = true := List.all_eq_true.1 h1
  by_cases ha : ∃ cs', x = .agg cs'
  · obtain ⟨cs', rfl⟩ := ha
    simp only [V.cells?, Option.some.injEq] at hc
    subst hc
    cases h with
    | agg hn h =>
      refine ⟨hn, fun i y hy => ?_⟩
      obtain ⟨hi, -⟩ := List.getElem?_eq_some_iff.1 hy
      have hu := Array.getElem?_eq_getElem (hn ▸ hi)
      have hv := h i y _ hy hu
      exact ⟨_, hu, oneV_one hv (key y (List.mem_of_getElem? hy)), hv⟩
  · have hone : oneV x = true ∧ cs = [x] := by
      unfold V.cells? at hc
      split at hc
      · exact absurd ⟨_, rfl⟩ ha
      · split at hc
        · rename_i h2; exact ⟨h2, (Option.some.inj hc).symm⟩
        · cases hc
    obtain ⟨hx, rfl⟩ := hone
    have h1c := oneV_one h hx
    have hcells : v.cells = #[v] := by cases v <;> first | rfl | (simp [Value.oneCell'] at h1c)
    rw [hcells]
    refine ⟨rfl, fun i y hy => ?_⟩
    cases i with
    | zero => simp only [List.getElem?_cons_zero, Option.some.injEq] at hy; subst hy; exact ⟨v, rfl, h1c, h⟩
    | succ i => simp at hy

section
variable {U : Nat → Prop} {σ : Sg} {S : Store} {w : World} {n : Nat}

theorem ObjR.grow {σ' : Sg} {S' : Store} {w' : World} {n' : Nat} (g : Grow σ S w n σ' S' w' n') {loc : Option (Option Nat × Nat × Nat)} {o : Obj}
    (h : ObjR (Own U σ S) w σ loc o) (hb : ∀ b es cap, loc = some (some b, es, cap) → w'.heap[b]? = w.heap[b]?) : ObjR (Own U σ' S') w' σ' loc o := by
  have g0 : ∀ {x v}, VR (Own U σ S) w (fun _ => none) x v → VR (Own U σ' S') w' (fun _ => none) x v := fun h => h.mono (g.keepU U) (g.ownU U) fun _ _ => rfl
  cases o with
  | row es xs =>
    obtain ⟨hl, h⟩ := h
    refine ⟨hl, ?_⟩
    rcases loc with _ | ⟨_ | b, es', cap⟩
    · exact h
    · exact h
    · obtain ⟨rfl, hc, arr, ty, hh, hs, hv⟩ := h
      refine ⟨rfl, hc, arr, ty, (hb b _ _ rfl).trans hh, hs, fun i x c y hx hy => ?_⟩
      obtain ⟨v, h1, h2, h3⟩ := hv i x c y hx hy
      exact ⟨v, h1, h2, g0 h3⟩
  | box cs =>
    obtain ⟨b, rfl, arr, ty, hh, hs, hv⟩ := h
    refine ⟨b, rfl, arr, ty, (hb b _ _ rfl).trans hh, hs, fun c y hy => ?_⟩
    obtain ⟨v, h1, h2, h3⟩ := hv c y hy
    exact ⟨v, h1, h2, h3.grow g⟩
  | mp xs =>
    obtain ⟨b, rfl, es, ck, hh, hs, hv⟩ := h
    refine ⟨b, rfl, es, ck, (hb b _ _ rfl).trans hh, hs, fun i p hp => ?_⟩
    obtain ⟨en, h1, h2, h3⟩ := hv i p hp
    exact ⟨en, h1, h2, g0 h3⟩

theorem RelS.step (hR : RelS U σ S w n) {σ' : Sg} {S' : Store} {w' : World} {n' : Nat} (g : Grow σ S w n σ' S' w' n') (fresh : ∀ k, n' ≤ k → S'.get k = none ∧ σ' k = none)
    (hinj : ∀ k k' o o' b es cap es' cap', S'.get k = some o → S'.get k' = some o' → σ' k = some (some b, es, cap) → σ' k' = some (some b, es', cap') → k = k')
    (hobj : ∀ k o, S'.get k = some o → (S.get k = some o ∧ ∀ b es cap, σ k = some (some b, es, cap) → w'.heap[b]? = w.heap[b]?) ∨ ObjR (Own U σ' S') w' σ' (σ' k) o) : RelS U σ' S' w' n' where
  fresh := fresh
  disj := fun b hb hu => hR.disj b (g.own b (hR.ulim b hu) hb) hu
  ulim := fun b hu => Nat.lt_of_lt_of_le (hR.ulim b hu) g.keep.size
  gl := hR.gl.mono (g.keepU U) (g.ownU U)
  inj := hinj
  obj := fun k o ho => by
    rcases hobj k o ho with ⟨h1, h2⟩ | h
    · rw [g.sg k (hR.loc h1)]
      exact (hR.obj k o h1).grow g h2
    · exact h

def Sg.put (σ : Sg) (n : Nat) (loc : Option Nat × Nat × Nat) : Sg := fun k => if k = n then some loc else σ k
theorem Sg.put_same (σ : Sg) (n : Nat) (loc : Option Nat × Nat × Nat) : σ.put n loc n = some loc := by simp [Sg.put]
theorem Sg.put_other (σ : Sg) {n k : Nat} (loc : Option Nat × Nat × Nat) (h : k ≠ n) : σ.put n loc k = σ k := by simp [Sg.put, h]

/-- A block more. -/
structure More (w w' : World) (arr : Array Value) (ty : TypeId × Bool) : Prop where
  os : w'.os = w.os
  tape : w'.tape = w.tape
  output : w'.output = w.output
  heap : w'.heap = w.heap.push (.cells arr ty.1 (mkF ty.2 arr.size))

theorem More.alloc (w : World) (arr : Array Value) (ty : TypeId) : More w (w.alloc (.cells arr ty)) arr (ty, false) := ⟨rfl, rfl, rfl, rfl⟩
theorem More.drewAlloc (w : World) (arr : Array Value) (ty : TypeId) : More w (w.drew.alloc (.cells arr ty)) arr (ty, false) := ⟨rfl, rfl, rfl, rfl⟩
theorem More.new {w w' : World} {arr : Array Value} {ty : TypeId × Bool} (h : More w w' arr ty) : w'.heap[w.heap.size]? = some (.cells arr ty.1 (mkF ty.2 arr.size)) := by rw [h.heap]; simp
theorem More.old {w w' : World} {arr : Array Value} {ty : TypeId × Bool} (h : More w w' arr ty) {b : Nat} (hb : b < w.heap.size) : w'.heap[b]? = w.heap[b]? := by
  rw [h.heap, Array.getElem?_push, if_neg (by omega)]
theorem More.keep {w w' : World} {arr : Array Value} {ty : TypeId × Bool} (h : More w w' arr ty) (O : Nat → Prop) : Keep O w w' :=
  ⟨h.os, h.tape, h.output, by rw [h.heap]; simp, fun b hb _ => h.old hb⟩

/-- A new object in a new block; another one (if any is named) goes. -/
theorem RelS.fresh_obj (hR : RelS U σ S w n) {m : Nat} (hfree : S.get m = none ∧ σ m = none) {w' : World} (hkeep : ∀ O, Keep O w w') (hold : ∀ b, b < w.heap.size → w'.heap[b]? = w.heap[b]?) (S0 : Store) (hS0 : ∀ k o, S0.get k = some o → S.get k = some o) (es cap : Nat) (o : Obj)
    (ho : Grow σ S w n (σ.put m (some w.heap.size, es, cap)) (S0.set m o) w' (max n (m + 1)) → ObjR (Own U (σ.put m (some w.heap.size, es, cap)) (S0.set m o)) w' (σ.put m (some w.heap.size, es, cap)) (some (some w.heap.size, es, cap)) o) :
    Grow σ S w n (σ.put m (some w.heap.size, es, cap)) (S0.set m o) w' (max n (m + 1)) ∧ RelS U (σ.put m (some w.heap.size, es, cap)) (S0.set m o) w' (max n (m + 1)) := by
  have hget : ∀ k p, (S0.set m o).get k = some p → (k = m ∧ p = o) ∨ (k ≠ m ∧ S.get k = some p) := by
    intro k p hk
    rw [Store.get_set] at hk
    split at hk
    · rename_i h; exact .inl ⟨h, (Option.some.inj hk).symm⟩
    · rename_i h; exact .inr ⟨h, hS0 k p hk⟩
  have g : Grow σ S w n (σ.put m (some w.heap.size, es, cap)) (S0.set m o) w' (max n (m + 1)) := by
    refine ⟨hkeep _, fun b hb hO => ?_, fun k hk => Sg.put_other _ _ (fun e => hk (e ▸ hfree.2)), by omega⟩
    obtain ⟨k, p, es', cap', hk, hs⟩ := hO
    rcases hget k p hk with ⟨rfl, -⟩ | ⟨hne, hk'⟩
    · rw [Sg.put_same] at hs
      simp only [Option.some.injEq, Prod.mk.injEq] at hs
      omega
    · rw [Sg.put_other _ _ hne] at hs
      exact ⟨k, p, es', cap', hk', hs⟩
  refine ⟨g, hR.step g (fun k hk => ?_) (fun k k' p p' b e1 c1 e2 c2 hk hk' hs hs' => ?_) fun k p hk => ?_⟩
  · rw [Store.get_set, if_neg (by omega), Sg.put_other _ _ (by omega)]
    refine ⟨?_, (hR.fresh k (by omega)).2⟩
    cases h : S0.get k with
    | none => rfl
    | some p => have := hS0 k p h; rw [(hR.fresh k (by omega)).1] at this; cases this
  · rcases hget k p hk with ⟨rfl, -⟩ | ⟨hne, h1⟩ <;> rcases hget k' p' hk' with ⟨rfl, -⟩ | ⟨hne', h1'⟩
    · rfl
    · rw [Sg.put_same] at hs
      rw [Sg.put_other _ _ hne'] at hs'
      have := hR.size ⟨k', p', e2, c2, h1', hs'⟩
      simp only [Option.some.injEq, Prod.mk.injEq] at hs
      omega
    · rw [Sg.put_same] at hs'
      rw [Sg.put_other _ _ hne] at hs
      have := hR.size ⟨k, p, e1, c1, h1, hs⟩
      simp only [Option.some.injEq, Prod.mk.injEq] at hs'
      omega
    · rw [Sg.put_other _ _ hne] at hs
      rw [Sg.put_other _ _ hne'] at hs'
      exact hR.inj k k' p p' b e1 c1 e2 c2 h1 h1' hs hs'
  · rcases hget k p hk with ⟨rfl, rfl⟩ | ⟨hne, h1⟩
    · right; rw [Sg.put_same]; exact ho g
    · left; exact ⟨h1, fun b e1 c1 hs => hold b (hR.size ⟨k, p, e1, c1, h1, hs⟩)⟩

/-- A box. -/
theorem RelS.new_box (hR : RelS U σ S w n) {m : Nat} (hfree : S.get m = none ∧ σ m = none) {w' : World} {arr : Array Value} {ty : TypeId} (hm : More w w' arr (ty, false)) {cs : List V} (hsz : arr.size = cs.length)
    (hc : ∀ (i : Nat) (y : V), cs[i]? = some y → ∃ u, arr[i]? = some u ∧ u.oneCell' = true ∧ VR (Own U σ S) w σ y u) :
    Grow σ S w n (σ.put m (some w.heap.size, cs.length, 1)) (S.set m (.box cs)) w' (max n (m + 1)) ∧ RelS U (σ.put m (some w.heap.size, cs.length, 1)) (S.set m (.box cs)) w' (max n (m + 1)) :=
  hR.fresh_obj hfree hm.keep (fun _ hb => hm.old hb) S (fun _ _ h => h) _ _ _ fun g => ⟨_, rfl, arr, ty, hm.new, hsz, fun c y hy => by
    obtain ⟨u, h1, h2, h3⟩ := hc c y hy
    exact ⟨u, h1, h2, h3.grow g⟩⟩

/-- A map. -/
theorem RelS.new_map (ks : Nat) (hR : RelS U σ S w n) {m : Nat} (hfree : S.get m = none ∧ σ m = none) :
    Grow σ S w n (σ.put m (some w.heap.size, 0, 0)) (S.set m (.mp (ks, []))) (w.alloc (.map #[] 0)) (max n (m + 1)) ∧ RelS U (σ.put m (some w.heap.size, 0, 0)) (S.set m (.mp (ks, []))) (w.alloc (.map #[] 0)) (max n (m + 1)) := by
  have hh : (w.alloc (.map #[] 0)).heap = w.heap.push (.map #[] 0) := rfl
  have hold : ∀ b, b < w.heap.size → (w.alloc (.map #[] 0)).heap[b]? = w.heap[b]? := fun b hb => by rw [hh, Array.getElem?_push, if_neg (by omega)]
  exact hR.fresh_obj hfree (w' := w.alloc (.map #[] 0)) (fun O => ⟨rfl, rfl, rfl, by rw [hh]; simp, fun b hb _ => hold b hb⟩) hold S (fun _ _ h => h) 0 0 (.mp (ks, [])) fun g => ⟨_, rfl, #[], 0, by rw [hh]; simp, rfl, fun i p hp => by simp at hp⟩

/-- A row. -/
theorem RelS.new_row (hR : RelS U σ S w n) {m : Nat} (hfree : S.get m = none ∧ σ m = none) {w' : World} {arr : Array Value} {ty : TypeId × Bool} (hm : More w w' arr ty) (S0 : Store) (hS0 : ∀ k o, S0.get k = some o → S.get k = some o) {es cap : Nat} {xs : List (List V)} (hes : ∀ x ∈ xs, x.length = es) (hcap : xs.length ≤ cap ∧ cap ≤ 9223372036854775807) (hsz : cap * es ≤ arr.size)
    (hc : ∀ (i : Nat) (x : List V) (c : Nat) (y : V), xs[i]? = some x → x[c]? = some y → ∃ u, arr[i * es + c]? = some u ∧ u.oneCell' = true ∧ VR (Own U σ S) w (fun _ => none) y u) :
    Grow σ S w n (σ.put m (some w.heap.size, es, cap)) (S0.set m (.row es xs)) w' (max n (m + 1)) ∧ RelS U (σ.put m (some w.heap.size, es, cap)) (S0.set m (.row es xs)) w' (max n (m + 1)) :=
  hR.fresh_obj hfree hm.keep (fun _ hb => hm.old hb) S0 hS0 _ _ _ fun g => ⟨hes, rfl, hcap, arr, ty, hm.new, hsz, fun i x c y hx hy => by
    obtain ⟨u, h1, h2, h3⟩ := hc i x c y hx hy
    exact ⟨u, h1, h2, h3.mono (g.keepU U) (g.ownU U) fun _ _ => rfl⟩⟩

/-- A row that lies nowhere. -/
theorem RelS.new_nil (hR : RelS U σ S w n) {m : Nat} (hfree : S.get m = none ∧ σ m = none) (es : Nat) (S0 : Store) (hS0 : ∀ k o, S0.get k = some o → S.get k = some o) :
    Grow σ S w n (σ.put m (none, es, 0)) (S0.set m (.row es [])) w (max n (m + 1)) ∧ RelS U (σ.put m (none, es, 0)) (S0.set m (.row es [])) w (max n (m + 1)) := by
  have hget : ∀ k p, (S0.set m (.row es [])).get k = some p → (k = m ∧ p = .row es []) ∨ (k ≠ m ∧ S.get k = some p) := by
    intro k p hk
    rw [Store.get_set] at hk
    split at hk
    · rename_i h; exact .inl ⟨h, (Option.some.inj hk).symm⟩
    · rename_i h; exact .inr ⟨h, hS0 k p hk⟩
  have g : Grow σ S w n (σ.put m (none, es, 0)) (S0.set m (.row es [])) w (max n (m + 1)) := by
    refine ⟨Keep.refl _ _, fun b hb hO => ?_, fun k hk => Sg.put_other _ _ (fun e => hk (e ▸ hfree.2)), by omega⟩
    obtain ⟨k, p, es', cap', hk, hs⟩ := hO
    rcases hget k p hk with ⟨rfl, -⟩ | ⟨hne, hk'⟩
    · rw [Sg.put_same] at hs; simp at hs
    · rw [Sg.put_other _ _ hne] at hs
      exact ⟨k, p, es', cap', hk', hs⟩
  refine ⟨g, hR.step g (fun k hk => ?_) (fun k k' p p' b e1 c1 e2 c2 hk hk' hs hs' => ?_) fun k p hk => ?_⟩
  · rw [Store.get_set, if_neg (by omega), Sg.put_other _ _ (by omega)]
    refine ⟨?_, (hR.fresh k (by omega)).2⟩
    cases h : S0.get k with
    | none => rfl
    | some p => have := hS0 k p h; rw [(hR.fresh k (by omega)).1] at this; cases this
  · rcases hget k p hk with ⟨rfl, -⟩ | ⟨hne, h1⟩ <;> rcases hget k' p' hk' with ⟨rfl, -⟩ | ⟨hne', h1'⟩
    · rfl
    · rw [Sg.put_same] at hs; simp at hs
    · rw [Sg.put_same] at hs'; simp at hs'
    · rw [Sg.put_other _ _ hne] at hs
      rw [Sg.put_other _ _ hne'] at hs'
      exact hR.inj k k' p p' b e1 c1 e2 c2 h1 h1' hs hs'
  · rcases hget k p hk with ⟨rfl, rfl⟩ | ⟨hne, h1⟩
    · right; rw [Sg.put_same]; exact ⟨by simp, rfl, rfl, rfl⟩
    · left; exact ⟨h1, fun _ _ _ _ => rfl⟩

/-- One block is written: the object that lies in it turns. -/
theorem RelS.write (hR : RelS U σ S w n) {k : Nat} {o0 o : Obj} (hk : S.get k = some o0) {b es cap : Nat} (hs : σ k = some (some b, es, cap)) {w' : World}
    (hos : w'.os = w.os) (htape : w'.tape = w.tape) (hout : w'.output = w.output) (hsize : w'.heap.size = w.heap.size) (hother : ∀ j, j ≠ b → w'.heap[j]? = w.heap[j]?)
    (ho : Grow σ S w n σ (S.set k o) w' n → ObjR (Own U σ (S.set k o)) w' σ (some (some b, es, cap)) o) :
    Grow σ S w n σ (S.set k o) w' n ∧ RelS U σ (S.set k o) w' n := by
  have hown : ∀ c, OwnE σ (S.set k o) c ↔ OwnE σ S c := by
    intro c
    constructor
    · rintro ⟨j, p, e1, c1, hj, hsj⟩
      rw [Store.get_set] at hj
      split at hj
      · rename_i h; subst h; exact ⟨j, o0, e1, c1, hk, hsj⟩
      · exact ⟨j, p, e1, c1, hj, hsj⟩
    · rintro ⟨j, p, e1, c1, hj, hsj⟩
      by_cases h : j = k
      · subst h; exact ⟨j, o, e1, c1, by simp [Store.get_set], hsj⟩
      · exact ⟨j, p, e1, c1, by simp [Store.get_set, h, hj], hsj⟩
  have g : Grow σ S w n σ (S.set k o) w' n :=
    ⟨⟨hos, htape, hout, by omega, fun c _ hc => hother c fun h => hc (h ▸ ⟨k, o0, es, cap, hk, hs⟩)⟩, fun c _ h => (hown c).1 h, fun _ _ => rfl, Nat.le_refl _⟩
  refine ⟨g, hR.step g (fun j hj => ?_) (fun j j' p p' c e1 c1 e2 c2 h1 h1' hs1 hs1' => ?_) fun j p hj => ?_⟩
  · have hjk : j ≠ k := by rintro rfl; rw [(hR.fresh j hj).1] at hk; cases hk
    rw [Store.get_set, if_neg hjk]
    exact hR.fresh j hj
  · have f : ∀ j p, (S.set k o).get j = some p → ∃ q, S.get j = some q := by
      intro j p hj
      rw [Store.get_set] at hj
      split at hj
      · rename_i h; subst h; exact ⟨o0, hk⟩
      · exact ⟨p, hj⟩
    obtain ⟨q, hq⟩ := f j p h1
    obtain ⟨q', hq'⟩ := f j' p' h1'
    exact hR.inj j j' q q' c e1 c1 e2 c2 hq hq' hs1 hs1'
  · rw [Store.get_set] at hj
    split at hj
    · rename_i h
      subst h
      obtain rfl := Option.some.inj hj
      right; rw [hs]; exact ho g
    · rename_i h
      left
      refine ⟨hj, fun c e1 c1 hs1 => hother c fun hcb => h ?_⟩
      subst hcb
      exact hR.inj j k p o0 c e1 c1 es cap hj hk hs1 hs
end
end Go.Sk
