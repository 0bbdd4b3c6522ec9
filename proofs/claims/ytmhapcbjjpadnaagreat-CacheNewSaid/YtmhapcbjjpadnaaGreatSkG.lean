/- Sk, part G: append and copy; all operations that make memory or write it. -/
import Derived.Test.YtmhapcbjjpadnaaGreatSkF
set_option linter.unusedSimpArgs false
set_option linter.unusedVariables false
set_option linter.unusedSectionVars false
namespace Go.Sk
open Go Go.RowKit
variable [Tab]

section
variable {P : Program} {U : Nat → Prop} {σ : Sg} {S : Store} {w : World} {n m : Nat} {ρ : Operand → Value} {e : A → V} {K : V → Store → Nat → Prop}

/-- An object takes another's place in its block. -/
theorem RelS.move (hR : RelS U σ S w n) (hfree : S.get m = none ∧ σ m = none) {k : Nat} {o0 o : Obj} (hk : S.get k = some o0) {b es cap : Nat} (hs : σ k = some (some b, es, cap)) {w' : World}
    (hos : w'.os = w.os) (htape : w'.tape = w.tape) (hout : w'.output = w.output) (hsize : w'.heap.size = w.heap.size) (hother : ∀ j, j ≠ b → w'.heap[j]? = w.heap[j]?)
    (ho : Grow σ S w n (σ.put m (some b, es, cap)) ((S.del k).set m o) w' (max n (m + 1)) → ObjR (Own U (σ.put m (some b, es, cap)) ((S.del k).set m o)) w' (σ.put m (some b, es, cap)) (some (some b, es, cap)) o) :
    Grow σ S w n (σ.put m (some b, es, cap)) ((S.del k).set m o) w' (max n (m + 1)) ∧ RelS U (σ.put m (some b, es, cap)) ((S.del k).set m o) w' (max n (m + 1)) := by
  have hget : ∀ j p, ((S.del k).set m o).get j = some p → (j = m ∧ p = o) ∨ (j ≠ m ∧ j ≠ k ∧ S.get j = some p) := by
    intro j p hj
    rw [Store.get_set] at hj
    split at hj
    · rename_i h; exact .inl ⟨h, (Option.some.inj hj).symm⟩
    · rename_i h
      rw [Store.get_del] at hj
      split at hj
      · cases hj
      · rename_i h2; exact .inr ⟨h, h2, hj⟩
  have g : Grow σ S w n (σ.put m (some b, es, cap)) ((S.del k).set m o) w' (max n (m + 1)) := by
    refine ⟨⟨hos, htape, hout, by omega, fun c _ hc => hother c fun h => hc (h ▸ ⟨k, o0, es, cap, hk, hs⟩)⟩, fun c hc hO => ?_, fun j hj => Sg.put_other _ _ (fun e => hj (e ▸ hfree.2)), by omega⟩
    obtain ⟨j, p, e1, c1, hj, hsj⟩ := hO
    rcases hget j p hj with ⟨rfl, -⟩ | ⟨h1, h2, h3⟩
    · rw [Sg.put_same] at hsj
      simp only [Option.some.injEq, Prod.mk.injEq] at hsj
      obtain ⟨rfl, -, -⟩ := hsj
      exact ⟨k, o0, es, cap, hk, hs⟩
    · rw [Sg.put_other _ _ h1] at hsj
      exact ⟨j, p, e1, c1, h3, hsj⟩
  refine ⟨g, hR.step g (fun j hj => ?_) (fun j j' p p' c e1 c1 e2 c2 h1 h1' hs1 hs1' => ?_) fun j p hj => ?_⟩
  · rw [Store.get_set, if_neg (by omega), Sg.put_other _ _ (by omega), Store.get_del]
    refine ⟨?_, (hR.fresh j (by omega)).2⟩
    split
    · rfl
    · exact (hR.fresh j (by omega)).1
  · rcases hget j p h1 with ⟨rfl, -⟩ | ⟨a1, a2, a3⟩ <;> rcases hget j' p' h1' with ⟨rfl, -⟩ | ⟨a1', a2', a3'⟩
    · rfl
    · rw [Sg.put_same] at hs1
      rw [Sg.put_other _ _ a1'] at hs1'
      simp only [Option.some.injEq, Prod.mk.injEq] at hs1
      obtain ⟨rfl, -, -⟩ := hs1
      exact absurd (hR.inj j' k p' o0 b e2 c2 es cap a3' hk hs1' hs) a2'
    · rw [Sg.put_same] at hs1'
      rw [Sg.put_other _ _ a1] at hs1
      simp only [Option.some.injEq, Prod.mk.injEq] at hs1'
      obtain ⟨rfl, -, -⟩ := hs1'
      exact absurd (hR.inj j k p o0 b e1 c1 es cap a3 hk hs1 hs) a2
    · rw [Sg.put_other _ _ a1] at hs1
      rw [Sg.put_other _ _ a1'] at hs1'
      exact hR.inj j j' p p' c e1 c1 e2 c2 a3 a3' hs1 hs1'
  · rcases hget j p hj with ⟨rfl, rfl⟩ | ⟨a1, a2, a3⟩
    · right; rw [Sg.put_same]; exact ho g
    · left
      refine ⟨a3, fun c e1 c1 hs1 => hother c fun hcb => a2 ?_⟩
      subst hcb
      exact hR.inj j k p o0 c e1 c1 es cap a3 hk hs1 hs

/-- An object takes another's place in its block. -/
theorem RelS.moveC (cap2 : Nat) (hR : RelS U σ S w n) (hfree : S.get m = none ∧ σ m = none) {k : Nat} {o0 o : Obj} (hk : S.get k = some o0) {b es cap : Nat} (hs : σ k = some (some b, es, cap)) {w' : World}
    (hos : w'.os = w.os) (htape : w'.tape = w.tape) (hout : w'.output = w.output) (hsize : w'.heap.size = w.heap.size) (hother : ∀ j, j ≠ b → w'.heap[j]? = w.heap[j]?)
    (ho : Grow σ S w n (σ.put m (some b, es, cap2)) ((S.del k).set m o) w' (max n (m + 1)) → ObjR (Own U (σ.put m (some b, es, cap2)) ((S.del k).set m o)) w' (σ.put m (some b, es, cap2)) (some (some b, es, cap2)) o) :
    Grow σ S w n (σ.put m (some b, es, cap2)) ((S.del k).set m o) w' (max n (m + 1)) ∧ RelS U (σ.put m (some b, es, cap2)) ((S.del k).set m o) w' (max n (m + 1)) := by
  have hget : ∀ j p, ((S.del k).set m o).get j = some p → (j = m ∧ p = o) ∨ (j ≠ m ∧ j ≠ k ∧ S.get j = some p) := by
    intro j p hj
    rw [Store.get_set] at hj
    split at hj
    · rename_i h; exact .inl ⟨h, (Option.some.inj hj).symm⟩
    · rename_i h
      rw [Store.get_del] at hj
      split at hj
      · cases hj
      · rename_i h2; exact .inr ⟨h, h2, hj⟩
  have g : Grow σ S w n (σ.put m (some b, es, cap2)) ((S.del k).set m o) w' (max n (m + 1)) := by
    refine ⟨⟨hos, htape, hout, by omega, fun c _ hc => hother c fun h => hc (h ▸ ⟨k, o0, es, cap, hk, hs⟩)⟩, fun c hc hO => ?_, fun j hj => Sg.put_other _ _ (fun e => hj (e ▸ hfree.2)), by omega⟩
    obtain ⟨j, p, e1, c1, hj, hsj⟩ := hO
    rcases hget j p hj with ⟨rfl, -⟩ | ⟨h1, h2, h3⟩
    · rw [Sg.put_same] at hsj
      simp only [Option.some.injEq, Prod.mk.injEq] at hsj
      obtain ⟨rfl, -, -⟩ := hsj
      exact ⟨k, o0, es, cap, hk, hs⟩
    · rw [Sg.put_other _ _ h1] at hsj
      exact ⟨j, p, e1, c1, h3, hsj⟩
  refine ⟨g, hR.step g (fun j hj => ?_) (fun j j' p p' c e1 c1 e2 c2 h1 h1' hs1 hs1' => ?_) fun j p hj => ?_⟩
  · rw [Store.get_set, if_neg (by omega), Sg.put_other _ _ (by omega), Store.get_del]
    refine ⟨?_, (hR.fresh j (by omega)).2⟩
    split
    · rfl
    · exact (hR.fresh j (by omega)).1
  · rcases hget j p h1 with ⟨rfl, -⟩ | ⟨a1, a2, a3⟩ <;> rcases hget j' p' h1' with ⟨rfl, -⟩ | ⟨a1', a2', a3'⟩
    · rfl
    · rw [Sg.put_same] at hs1
      rw [Sg.put_other _ _ a1'] at hs1'
      simp only [Option.some.injEq, Prod.mk.injEq] at hs1
      obtain ⟨rfl, -, -⟩ := hs1
      exact absurd (hR.inj j' k p' o0 b e2 c2 es cap a3' hk hs1' hs) a2'
    · rw [Sg.put_same] at hs1'
      rw [Sg.put_other _ _ a1] at hs1
      simp only [Option.some.injEq, Prod.mk.injEq] at hs1'
      obtain ⟨rfl, -, -⟩ := hs1'
      exact absurd (hR.inj j k p o0 b e1 c1 es cap a3 hk hs1 hs) a2
    · rw [Sg.put_other _ _ a1] at hs1
      rw [Sg.put_other _ _ a1'] at hs1'
      exact hR.inj j j' p p' c e1 c1 e2 c2 a3 a3' hs1 hs1'
  · rcases hget j p hj with ⟨rfl, rfl⟩ | ⟨a1, a2, a3⟩
    · right; rw [Sg.put_same]; exact ho g
    · left
      refine ⟨a3, fun c e1 c1 hs1 => hother c fun hcb => a2 ?_⟩
      subst hcb
      exact hR.inj j k p o0 c e1 c1 es cap a3 hk hs1 hs

theorem firstCells_zero (size : Nat) (base : Option Addr) (len cap : Nat) : (Builtin.firstCells size 0 (.slice base len cap)).run P w = .ok #[] w := by
  cases base with
  | none => simp [Builtin.firstCells]
  | some a => simp [Builtin.firstCells, loadCells, loadCellsFrom]

theorem le_grownCap (w : World) (need old : Nat) (el : TypeId) : need ≤ grownCap w need old el := by
  unfold grownCap
  simp only [Question.cut]
  omega

theorem grownCap_in (w : World) (need old : Nat) (el : TypeId) (h : need ≤ 9223372036854775807) : need ≤ grownCap w need old el ∧ grownCap w need old el ≤ 9223372036854775807 := by
  have hlt := Nat.mod_lt (w.tape w.drawn (.appendCap need old el)) (show 0 < 2 ^ 63 - need by omega)
  simp only [grownCap, Question.cut] at *
  omega

def delL (S : Store) : List Nat → Store
  | [] => S
  | k :: r => (delL S r).del k
theorem delL_get {S : Store} : ∀ {l : List Nat} {k : Nat} {o : Obj}, (delL S l).get k = some o → S.get k = some o ∧ k ∉ l
  | [], _, _, h => ⟨h, by simp⟩
  | a :: r, k, o, h => by
    simp only [delL, Store.get_del] at h
    split at h
    · cases h
    · rename_i hne
      obtain ⟨h1, h2⟩ := delL_get h
      exact ⟨h1, by simp [hne, h2]⟩
theorem delL_none {S : Store} {k : Nat} (h : S.get k = none) (l : List Nat) : (delL S l).get k = none := by
  cases h' : (delL S l).get k with
  | none => rfl
  | some o => rw [(delL_get h').1] at h; cases h
theorem delL_own {Fz : List Nat} {b : Nat} (h : Own U σ (delL S Fz) b) : Own U σ S b := h.imp id fun ⟨k, o, es, cap, h1, h2⟩ => ⟨k, o, es, cap, (delL_get h1).1, h2⟩
theorem RelS.frz (hR : RelS U σ S w n) (Fz : List Nat) : RelS U σ (delL S Fz) w n where
  obj := fun k o hk => by
    have h := hR.obj k o (delL_get hk).1
    have g0 : ∀ {τ : Sg} {x : V} {v : Value}, VR (Own U σ S) w τ x v → VR (Own U σ (delL S Fz)) w τ x v := fun h => h.mono (Keep.refl _ _) (fun b _ hb => delL_own hb) fun _ _ => rfl
    cases o with
    | row es xs =>
      obtain ⟨hl, h⟩ := h
      refine ⟨hl, ?_⟩
      rcases hs : σ k with _ | ⟨_ | b, es', cap⟩
      · rw [hs] at h; exact h
      · rw [hs] at h; exact h
      · rw [hs] at h
        obtain ⟨rfl, e1, arr, ty, e2, e3, e4⟩ := h
        refine ⟨rfl, e1, arr, ty, e2, e3, fun i x c y hx hy => ?_⟩
        obtain ⟨v, q1, q2, q3⟩ := e4 i x c y hx hy
        exact ⟨v, q1, q2, g0 q3⟩
    | box cs =>
      obtain ⟨b, e1, arr, ty, e2, e3, e4⟩ := h
      refine ⟨b, e1, arr, ty, e2, e3, fun c y hy => ?_⟩
      obtain ⟨v, q1, q2, q3⟩ := e4 c y hy
      exact ⟨v, q1, q2, g0 q3⟩
    | mp xs =>
      obtain ⟨b, e1, es, ck, e2, e3, e4⟩ := h
      refine ⟨b, e1, es, ck, e2, e3, fun i p hp => ?_⟩
      obtain ⟨en, q1, q2, q3⟩ := e4 i p hp
      exact ⟨en, q1, q2, g0 q3⟩
  inj := fun k k' o o' b es cap es' cap' h1 h2 => hR.inj k k' o o' b es cap es' cap' (delL_get h1).1 (delL_get h2).1
  fresh := fun k hk => ⟨delL_none (hR.fresh k hk).1 Fz, (hR.fresh k hk).2⟩
  disj := fun b ⟨k, o, es, cap, h1, h2⟩ => hR.disj b ⟨k, o, es, cap, (delL_get h1).1, h2⟩
  ulim := hR.ulim
  gl := hR.gl.less fun b h => delL_own h
theorem Grow.frz (Fz : List Nat) : Grow σ S w n σ (delL S Fz) w n :=
  ⟨Keep.refl _ _, fun b _ ⟨k, o, es, cap, h1, h2⟩ => ⟨k, o, es, cap, (delL_get h1).1, h2⟩, fun _ _ => rfl, Nat.le_refl _⟩
theorem VR.lst_of_box {O : Nat → Prop} {b : Nat} {cs : List V} {arr : Array Value} {ty : TypeId} {fr : Nat × Nat} (hO : ¬ O b) (hh : w.heap[b]? = some (.cells arr ty fr)) (hf : cs.all flatV = true)
    (hc : ∀ (c : Nat) (y : V), cs[c]? = some y → ∃ v, arr[c]? = some v ∧ v.oneCell' = true ∧ VR O w (fun _ => none) y v) (h cap : Nat) (hle : h ≤ cs.length) (hcap : h ≤ cap) :
    VR O w σ (.lst 1 false ((cs.take h).map fun c => [c])) (.slice (some ⟨b, 0, none⟩) h cap) := by
  have hlen : ((cs.take h).map fun c => [c]).length = h := by simp; omega
  have key : VR O w σ (.lst 1 false ((cs.take h).map fun c => [c])) (.slice (some ⟨b, 0, none⟩) ((cs.take h).map fun c => [c]).length cap) := by
    refine .lst b 0 (fun i _ => (arr[i]?).getD undef) (fun _ => ⟨rfl, hO, (Array.getElem?_eq_some_iff.1 hh).1⟩) (fun x hx => by obtain ⟨c, -, rfl⟩ := List.mem_map.1 hx; rfl) (by rw [hlen]; exact hcap) (by simp) (fun i c hi hc' => ?_) (fun i c hi hc' => ?_) fun i x c y hx hy => ?_
    · rw [hlen] at hi
      obtain rfl : c = 0 := by omega
      obtain ⟨v, q1, -⟩ := hc i _ (List.getElem?_eq_getElem (by omega))
      simp [World.cell?, hh, q1]
    · rw [hlen] at hi
      obtain ⟨v, q1, q2, -⟩ := hc i _ (List.getElem?_eq_getElem (by omega))
      rw [q1]; exact q2
    · rw [List.getElem?_map, Option.map_eq_some_iff] at hx
      obtain ⟨z, hz, rfl⟩ := hx
      cases c with
      | succ c => simp at hy
      | zero =>
        simp only [List.getElem?_cons_zero, Option.some.injEq] at hy
        subst hy
        rw [List.getElem?_take] at hz
        split at hz
        · obtain ⟨v, q1, -, q3⟩ := hc i _ hz
          rw [q1]; exact q3
        · cases hz
  rw [hlen] at key
  exact key
theorem wr_aslc {t el : TypeId} {len : Nat} {x : Operand} {hi : Option Operand} {a : A} {ha : Option A} (ht : P.underlying t = some (.array len el)) (hz : tySize P el = some 1) (hx : VR (Own U σ S) w σ (e a) (ρ x))
    (hhi : match hi, ha with | none, none => True | some l, some l' => VR (Own U σ S) w σ (e l') (ρ l) | _, _ => False) (hR : RelS U σ S w n) (hmn : m ≤ n)
    (hK : wrK S m (.aslc len a ha) e K) : WrOk P U σ S w n m ρ (.slice t x none hi none) K := by
  have hmx : max n m = n := by omega
  simp only [wrK] at hK
  split at hK
  · rename_i k hex
    split at hK
    · rename_i cs ho
      split at hK
      · rename_i k2 h eh
        obtain ⟨⟨hl, hf, h0, h1⟩, hK⟩ := hK
        rw [hex] at hx
        generalize hva : ρ x = va at hx
        cases hx with
        | @ptr _ _ _ _ b es cap hs =>
          have hob := hR.obj k _ ho
          rw [hs] at hob
          obtain ⟨b', he, arr, ty, hh, hsz, hcells⟩ := hob
          simp only [Option.some.injEq, Prod.mk.injEq] at he
          obtain ⟨rfl, rfl, rfl⟩ := he
          have B2 : bnd ρ hi (len : Int) h := by
            cases hi with
            | none =>
              cases ha with
              | none => simp only [V.int.injEq] at eh; exact eh.2.symm
              | some _ => exact hhi.elim
            | some z =>
              cases ha with
              | none => exact hhi.elim
              | some z' =>
                simp only at hhi eh
                rw [eh] at hhi
                generalize hv : ρ z = v at hhi
                cases hhi
                exact ⟨_, hv⟩
          have hdel : delL S [k] = S.del k := rfl
          have hO : ¬ Own U σ (S.del k) b := by
            rintro (hu | ⟨k', o', es', cap', h1', h2'⟩)
            · exact hR.disj b ⟨k, _, _, _, ho, hs⟩ hu
            · rw [Store.get_del] at h1'
              split at h1'
              · cases h1'
              · rename_i hne
                exact hne (hR.inj k k' _ o' b _ _ es' cap' ho h1' hs h2').symm
          have hg : Grow σ S w n σ (S.del k) w n := hdel ▸ Grow.frz [k]
          have hr : RelS U σ (S.del k) w n := hdel ▸ hR.frz [k]
          have run : ∀ (o' : Oper), o'.op = .slice t x none hi none → (execOp ρ o').run P w = .ok (.value (.slice (some ⟨b, 0 * cs.length + 0, none⟩) h.toNat len)) w := by
            intro o' hop
            cases hi with
            | none =>
              have B2 : h = (len : Int) := B2
              subst B2
              simp [execOp, hop, Instr.sliceAt, run_underlying ht, Instr.sliceBounds, hva, run_sizeOf' hz, Instr.sureAddr, add_none]
            | some z =>
              obtain ⟨kz, hz'⟩ := B2
              simp [execOp, hop, Instr.sliceAt, run_underlying ht, Instr.sliceBounds, Instr.sliceBound, asIntOf_int, hva, hz', h0, h1, run_sizeOf' hz, Instr.sureAddr, add_none]
          refine ⟨_, _, _, hK, fun o' ho' => ⟨_, _, w, σ, run o' ho', .inl rfl, fun _ _ => rfl, by rw [hmx]; exact hg, by rw [hmx]; exact hr, ?_⟩⟩
          have := VR.lst_of_box (w := w) (σ := σ) (O := Own U σ (S.del k)) hO hh hf (fun c y hy => by
            obtain ⟨v, q1, q2, q3⟩ := hcells c y hy
            exact ⟨v, q1, q2, (flatV_lift q3 (List.all_eq_true.1 hf y (List.mem_of_getElem? hy))).mono (Keep.refl _ _) (fun b _ hb => by rw [← hdel] at hb; exact delL_own hb) fun _ _ => rfl⟩) h.toNat len (by omega) (by omega)
          simpa using this
      · cases hK
    · cases hK
  · cases hK

theorem Grow.of_keep {σ : Sg} {S : Store} {w w' : World} {n : Nat} (h : Keep (fun _ => False) w w') : Grow σ S w n σ S w' n :=
  ⟨h.wider fun _ h => h.elim, fun _ _ h => h, fun _ _ => rfl, Nat.le_refl _⟩
theorem RelS.of_keep {S : Store} {n : Nat} (hR : RelS U σ S w n) {w' : World} (h : Keep (fun _ => False) w w') : RelS U σ S w' n :=
  hR.step (Grow.of_keep h) hR.fresh hR.inj fun k o hk => .inl ⟨hk, fun b es cap hs => h.block b (hR.size ⟨k, o, es, cap, hk, hs⟩) id⟩

theorem wr_s2b {s d el : TypeId} {x : Operand} {a : A} (hs : P.underlying s = some .string) (hd : P.underlying d = some (.slice el)) (hel : P.underlying el = some (.int .u8)) (hx : VR (Own U σ S) w σ (e a) (ρ x)) (hR : RelS U σ S w n) (hmn : m ≤ n)
    (hK : wrK S m (.s2b a) e K) : WrOk P U σ S w n m ρ (.convert s d x) K := by
  have hmx : max n m = n := by omega
  simp only [wrK] at hK
  split at hK
  · rename_i str h1
    rw [h1] at hx
    generalize hva : ρ x = va at hx
    cases hx
    obtain ⟨hlt, hK⟩ := hK
    obtain ⟨hc1, hc2⟩ := grownCap_in w str.size 0 el hlt
    have hz : str.data.size = str.size := rfl
    have hk : Keep (fun _ => False) w (w.drew.alloc (.cells (bytesRow str (grownCap w str.size 0 el)) el ((bytesRow str (grownCap w str.size 0 el)).size, (bytesRow str (grownCap w str.size 0 el)).size + 1))) :=
      ⟨rfl, rfl, rfl, by show w.heap.size ≤ (w.heap.push _).size; simp, fun b hb _ => by show (w.heap.push _)[b]? = _; rw [Array.getElem?_push, if_neg (by omega)]⟩
    have hh : (w.drew.alloc (.cells (bytesRow str (grownCap w str.size 0 el)) el ((bytesRow str (grownCap w str.size 0 el)).size, (bytesRow str (grownCap w str.size 0 el)).size + 1))).heap[w.heap.size]? = some (.cells (bytesRow str (grownCap w str.size 0 el)) el ((bytesRow str (grownCap w str.size 0 el)).size, (bytesRow str (grownCap w str.size 0 el)).size + 1)) := by
      show (w.heap.push _)[w.heap.size]? = _
      simp
    have hO : ¬ Own U σ S w.heap.size := fun h => by
      rcases h with h | h
      · exact Nat.lt_irrefl _ (hR.ulim _ h)
      · exact Nat.lt_irrefl _ (hR.size h)
    have key := VR.lst_of_box (σ := σ) (O := Own U σ S) hO hh (cs := str.data.toList.map fun b => V.int .u8 (b.toNat : Int)) (by rw [List.all_eq_true]; intro y hy; obtain ⟨b, -, rfl⟩ := List.mem_map.1 hy; rfl) (fun c y hy => by
      rw [List.getElem?_map, Option.map_eq_some_iff] at hy
      obtain ⟨b, hb, rfl⟩ := hy
      obtain ⟨hi, hb⟩ := List.getElem?_eq_some_iff.1 hb
      refine ⟨.int .u8 (b.toNat : Int), ?_, rfl, .int _ _⟩
      rw [bytesRow_at str _ c (by simpa using hi), ← hb]
      simp) str.size (grownCap w str.size 0 el) (by simp [hz]) hc1
    rw [List.take_of_length_le (by simp [hz]), List.map_map] at key
    refine ⟨_, _, _, hK, fun o' ho => ⟨_, .slice (some ⟨w.heap.size, 0, none⟩) str.size (grownCap w str.size 0 el), _, σ, ?_, .inl rfl, fun _ _ => rfl, by rw [hmx]; exact Grow.of_keep hk, by rw [hmx]; exact hR.of_keep hk, key⟩⟩
    simp only [execOp, ho, hva, Sem.run_bind, run_bytes_of_string w s d el str hs hd hel, Result.andThen_ok]
    rfl
  · cases hK

/-- Nothing turns. -/
theorem RelS.reset (hR : RelS U σ S w n) {k : Nat} {o : Obj} (hk : S.get k = some o) : Grow σ S w n σ (S.set k o) w n ∧ RelS U σ (S.set k o) w n := by
  have hget : ∀ j, (S.set k o).get j = S.get j := fun j => by
    rw [Store.get_set]
    split
    · rename_i h; rw [h, hk]
    · rfl
  have hown : ∀ c, OwnE σ (S.set k o) c → OwnE σ S c := fun c ⟨j, p, e1, c1, hj, hsj⟩ => ⟨j, p, e1, c1, by rw [← hget]; exact hj, hsj⟩
  have g : Grow σ S w n σ (S.set k o) w n := ⟨Keep.refl _ _, fun b _ h => hown b h, fun _ _ => rfl, Nat.le_refl _⟩
  exact ⟨g, hR.step g (fun j hj => by rw [hget]; exact hR.fresh j hj) (fun j j' p p' b e1 c1 e2 c2 h1 h2 => hR.inj j j' p p' b e1 c1 e2 c2 (by rw [← hget]; exact h1) (by rw [← hget]; exact h2))
    fun j p hj => .inl ⟨by rw [← hget]; exact hj, fun _ _ _ _ => rfl⟩⟩

theorem VR.sl_inv {O : Nat → Prop} {k off len : Nat} {v : Value} (h : VR O w σ (.sl k off len) v) :
    (∃ b es cap a, v = .slice a len (cap - off) ∧ σ k = some (some b, es, cap) ∧ off + len ≤ cap ∧ (off < cap → a = some ⟨b, off * es, none⟩)) ∨ (∃ es a, v = .slice a 0 0 ∧ σ k = some (none, es, 0) ∧ off = 0 ∧ len = 0) := by
  cases h with
  | sl h hle ha => exact .inl ⟨_, _, _, _, rfl, h, hle, ha⟩
  | sl0 h => exact .inr ⟨_, _, rfl, h, rfl, rfl⟩

theorem same_drew (w : World) : Same w w.drew := fun _ _ => rfl

theorem VR.nowhere (σ : Sg) (O : Nat → Prop) (w : World) (m es : Nat) (a : Option Addr) : VR O w (σ.put m (none, es, 0)) (.sl m 0 0) (.slice a 0 0) := .sl0 (Sg.put_same σ m (none, es, 0))

/-- The new row of an append that grows. -/
theorem grow_row (hR : RelS U σ S w n) (hfree : S.get m = none ∧ σ m = none) {S0 : Store} (hS0 : ∀ k o, S0.get k = some o → S.get k = some o) {es cap : Nat} {xs ys : List (List V)} (hxs : ∀ x ∈ xs, x.length = es) (hys : ∀ x ∈ ys, x.length = es)
    {olds news : List Value} (ho : olds.length = xs.length * es) (hn : news.length = ys.length * es) (hof : FlatR (Own U σ S) w (fun _ => none) xs.flatten olds.toArray) (hnf : FlatR (Own U σ S) w (fun _ => none) ys.flatten news.toArray)
    {zs : Array Value} (hzs : zs.size = es) (hcap : xs.length + ys.length ≤ cap ∧ cap ≤ 9223372036854775807) (el : TypeId) :
    Grow σ S w n (σ.put m (some w.heap.size, es, cap)) (S0.set m (.row es (xs ++ ys))) (w.drew.alloc (.cells ((olds ++ news).toArray ++ Builtin.zeroCells zs (cap - (xs.length + ys.length))) el)) (max n (m + 1)) ∧
    RelS U (σ.put m (some w.heap.size, es, cap)) (S0.set m (.row es (xs ++ ys))) (w.drew.alloc (.cells ((olds ++ news).toArray ++ Builtin.zeroCells zs (cap - (xs.length + ys.length))) el)) (max n (m + 1)) := by
  have hall : ∀ x ∈ xs ++ ys, x.length = es := fun x hx => by exact (List.mem_append.1 hx).elim (hxs x) (hys x)
  refine hR.new_row hfree (More.drewAlloc w _ el) S0 hS0 hall (by simp; omega) ?_ fun i x c y hx hy => ?_
  · have hz : (Builtin.zeroCells zs (cap - (xs.length + ys.length))).size = (cap - (xs.length + ys.length)) * es := by simp [Builtin.zeroCells, hzs]
    simp only [Array.size_append, hz, List.size_toArray, List.length_append, ho, hn, ← Nat.add_mul]
    exact Nat.mul_le_mul_right _ (by omega)
  · have hf := flatten_get hall i x c y hx hy
    rw [List.flatten_append, List.getElem?_append] at hf
    have hxl := flatten_len hxs
    rw [Array.getElem?_append, List.size_toArray, List.length_append]
    split at hf
    · rename_i hlt
      obtain ⟨u, h1, h2, h3⟩ := hof _ y hf
      refine ⟨u, ?_, h2, h3⟩
      rw [if_pos (by omega), List.getElem?_toArray, List.getElem?_append_left (by omega)]
      simpa using h1
    · rename_i hge
      rw [hxl] at hf hge
      obtain ⟨u, h1, h2, h3⟩ := hnf _ y hf
      refine ⟨u, ?_, h2, h3⟩
      obtain ⟨hlt, -⟩ := List.getElem?_eq_some_iff.1 hf
      rw [flatten_len hys] at hlt
      rw [if_pos (by omega), List.getElem?_toArray, List.getElem?_append_right (by omega), ho]
      simpa using h1

theorem wr_app {t u el el' : TypeId} {i : TypeInfo} {z : List V} {x y : Operand} {a b : A} (ht : P.underlying t = some (.slice el)) (hu : P.underlying u = some (.slice el')) (hi : P.info? el = some i) (hz : zeroOf P el = some z) (hc : z.length = i.size ∧ 0 < i.size)
    (hx : VR (Own U σ S) w σ (e a) (ρ x)) (hy : VR (Own U σ S) w σ (e b) (ρ y)) (hR : RelS U σ S w n) (hfree : S.get m = none ∧ σ m = none) (hK : wrK S m (.app i.size i.bytes a b) e K) (o : Op) (ho : o = .call { callee := .builtin .append, args := #[x, y], argTypes := #[t, u] }) : WrOk P U σ S w n m ρ o K := by
  replace hx := unk_VR hx
  obtain ⟨hc1, hc2⟩ := hc
  obtain ⟨i', zv, hi', hzero, hvs⟩ := zeroOf_spec hz
  rw [hi] at hi'
  obtain rfl := Option.some.inj hi'
  have hzs : zv.cells.size = i.size := by
    have := (vsOf_VR hvs).1
    simpa [hc1] using this.symm
  have exec : ∀ (o' : Oper), o'.op = o → ∀ v w', (Builtin.append_ #[t, u] o'.type #[ρ x, ρ y]).run P w = .ok v w' → (execOp ρ o').run P w = .ok (.value v) w' := by
    intro o' ho' v w' h
    simp [execOp, ho', ho, resolve, invoke, builtin, h]
  simp only [wrK] at hK
  split at hK
  · rename_i es' len' ys hsrc
    obtain ⟨hes, hlen', hK⟩ := hK
    obtain ⟨hyall, ⟨ady, capy, hyv⟩, hnews⟩ := src_ok hu hR hy hsrc hes hlen'
    obtain ⟨news, hn1, hn2, hn3, hn4⟩ := hnews ys.length (Nat.le_refl _)
    rw [List.take_length] at hn3
    have src : Src P i.size u (ρ y) ys.length news w :=
      ⟨.inl ⟨el', hu⟩, fun w' => by rw [hyv]; rfl, hn4 w (Same.refl w), hn4 w.drew (same_drew w), hn1, hn2⟩
    have src0 : ys.length = 0 → Src P i.size u (ρ y) 0 [] w := fun h => by
      have : news = [] := List.length_eq_zero_iff.1 (by rw [hn1, h]; simp)
      rw [this, h] at src
      exact src
    have nilcase : ∀ (base : Option Addr) (S0 : Store), (∀ k o, S0.get k = some o → S.get k = some o) → ρ x = .slice base 0 0 → (ys.length : Int) ≤ 9223372036854775807 → ys.length * i.bytes ≤ 140737488355328 →
        K (.sl m 0 ys.length) (S0.set m (.row i.size ys)) (m + 1) → WrOk P U σ S w n m ρ o K := by
      intro base S0 hS0 hbx h63 h47 hK
      refine ⟨_, _, _, hK, fun o' ho' => ?_⟩
      by_cases h0 : ys.length = 0
      · obtain rfl : ys = [] := List.length_eq_zero_iff.1 h0
        obtain ⟨g, r⟩ := hR.new_nil hfree i.size S0 hS0
        refine ⟨_, .slice base 0 0, w, _, exec o' ho' _ _ ?_, .inl rfl, (by intro k hk; first | rfl | exact Sg.put_other _ _ hk), g, r, VR.nowhere _ _ _ _ _ _⟩
        rw [hbx]
        exact run_append_nothing w t u _ el i ht hi base 0 0 (Nat.le_refl _) _ (src0 h0)
      · obtain ⟨g, r⟩ := grow_row hR hfree hS0 (es := i.size) (cap := grownCap w (0 + ys.length) 0 el) (xs := []) (ys := ys) (by simp) hyall (olds := []) (news := news) (by simp) hn1 (fun j y hy => by simp at hy) hn3 hzs (by
          have := grownCap_in w (0 + ys.length) 0 el (by omega)
          simpa using this) el
        refine ⟨_, .slice (some ⟨w.heap.size, 0, none⟩) (0 + ys.length) (grownCap w (0 + ys.length) 0 el), _, _, exec o' ho' _ _ ?_, .inl rfl, (by intro k hk; first | rfl | exact Sg.put_other _ _ hk), g, r, ?_⟩
        · rw [hbx]
          have := run_append_grow_src (P := P) w t u o'.type el i zv ht hi hzero base 0 0 [] (firstCells_zero _ _ _ _) (ρ y) ys.length news src (by omega) (by omega) (by
            have := growslice_fits (need := 0 + ys.length) (old := 0) (bytes := i.bytes) (by omega) (by simpa using h47)
            exact this)
          simpa using this
        · rw [Nat.zero_add]
          exact VR.row _ _ _ _ _ _ _ _ (le_grownCap _ _ _ _)
    split at hK
    · rename_i es2 hex
      rw [hex] at hx
      generalize hva : ρ x = va at hx
      cases hx with
      | @lst _ _ _ _ ad cap bb oo cv had hl hcap ht' hq1 hq3 hq2 =>
        have hcap0 : cap = 0 := ht' rfl
        subst hcap0
        exact nilcase ad S (fun _ _ h => h) hva hK.1 hK.2.1 hK.2.2
    · rename_i k off len hex
      rw [hex] at hx
      split at hK
      · rename_i es2 xs hob'
        obtain ⟨rfl, rfl, rfl, h63, h47, hK⟩ := hK
        have hob := hR.obj k _ hob'
        have hdel : ∀ k' o, (S.del k).get k' = some o → S.get k' = some o := fun k' o h => by
          rw [Store.get_del] at h
          split at h
          · cases h
          · exact h
        rcases hx.sl_inv with ⟨bl, es3, cap, ad, hva, hs, hle, had⟩ | ⟨es3, ad, hva, hs, -, hl0⟩
        · rw [hs] at hob
          obtain ⟨hl, rfl, hcap, arr, ty, hh, hsz, hcells⟩ := hob
          simp only [Nat.sub_zero, Nat.zero_mul] at hva had
          refine ⟨_, _, _, hK, fun o' ho' => ?_⟩
          by_cases hroom : xs.length + ys.length ≤ cap
          · by_cases h0 : ys.length = 0
            · obtain rfl : ys = [] := List.length_eq_zero_iff.1 h0
              obtain ⟨g, r⟩ := hR.move hfree (o := .row i.size (xs ++ [])) hob' hs (w' := w) rfl rfl rfl rfl (fun _ _ => rfl) (fun g => ⟨by simpa using hl, rfl, by simpa using hcap, arr, ty, hh, hsz, fun i x c y hx hy => by
                obtain ⟨v, q1, q2, q3⟩ := hcells i x c y (by simpa using hx) hy
                exact ⟨v, q1, q2, q3.mono (g.keepU U) (g.ownU U) fun _ _ => rfl⟩⟩)
              refine ⟨_, .slice ad xs.length cap, w, _, exec o' ho' _ _ ?_, .inl rfl, (by intro k hk; first | rfl | exact Sg.put_other _ _ hk), g, r, ?_⟩
              · rw [hva]
                exact run_append_nothing w t u _ el i ht hi ad xs.length cap hcap.1 _ (src0 h0)
              · have := VR.sl (O := Own U (σ.put m (some bl, i.size, cap)) ((S.del k).set m (.row i.size (xs ++ [])))) (w := w) (off := 0) (len := xs.length + ([] : List (List V)).length) (a := ad) (Sg.put_same σ m (some bl, i.size, cap)) (by simpa using hcap.1) (fun h => by rw [had h]; simp)
                simpa using this
            · have hcp : 0 < cap := by omega
              obtain rfl := had hcp
              have hmul : (xs.length + ys.length) * i.size ≤ cap * i.size := Nat.mul_le_mul_right _ hroom
              rw [Nat.add_mul] at hmul
              obtain ⟨arr', hst, hsz', hget⟩ := storeCells_list (P := P) (w := w) (g := bl) (o := xs.length * i.size) news.toArray hh (mkF_out _ _) (by simp [hn1]; omega) (by simpa using hn2)
              have hlt : ∀ j, j < news.length → xs.length * i.size + j < arr.size := fun j hj => by omega
              have hrun := run_append_room_src (P := P) w t u o'.type el i ht hi bl 0 xs.length cap (ρ y) ys.length news src hroom (fun j hj => by
                have := hlt j hj
                simp [World.cell?, hh]; omega) (fun j hj => by have := mkF_out ty.2 arr.size (xs.length * i.size + j) (hlt j hj); simp [World.frozen?, hh]; omega)
              have hset : w.setCells bl (0 + xs.length * i.size) news = w.setRow bl arr' := by
                have := run_storeCells_cells (P := P) bl (xs.length * i.size) news 0 w (fun j hj => by have := hlt j hj; simp [World.cell?, hh]; omega) (fun j hj => by have := mkF_out ty.2 arr.size (xs.length * i.size + j) (hlt j hj); simp [World.frozen?, hh]; omega) hn2
                rw [show (news.toArray).toList = news by simp] at hst
                rw [hst] at this
                simp only [Result.ok.injEq, true_and, Nat.add_zero] at this
                rw [Nat.zero_add]; exact this.symm
              rw [hset] at hrun
              obtain ⟨g, r⟩ := hR.move hfree (o := .row i.size (xs ++ ys)) hob' hs (w' := w.setRow bl arr') rfl rfl rfl (by simp) (fun j hj => setRow_other w bl j arr' hj) (fun g => by
                have hall : ∀ x ∈ xs ++ ys, x.length = i.size := fun x hx => by exact (List.mem_append.1 hx).elim (hl x) (hyall x)
                refine ⟨hall, rfl, ⟨by simpa using hroom, hcap.2⟩, arr', ty, by rw [hsz']; exact setRow_heap w bl arr arr' ty.1 _ hh, by omega, fun i' x c y hx hy => ?_⟩
                have g0 : ∀ {x v}, VR (Own U σ S) w (fun _ => none) x v → VR (Own U (σ.put m (some bl, i.size, cap)) ((S.del k).set m (.row i.size (xs ++ ys)))) (w.setRow bl arr') (fun _ => none) x v := fun h => h.mono (g.keepU U) (g.ownU U) fun _ _ => rfl
                rw [hget]
                have hcl : c < i.size := by
                  obtain ⟨h', -⟩ := List.getElem?_eq_some_iff.1 hy
                  rw [hall x (List.mem_of_getElem? hx)] at h'; exact h'
                rw [List.getElem?_append] at hx
                split at hx
                · rename_i hi'
                  have := Nat.mul_le_mul_right i.size (show i' + 1 ≤ xs.length by omega)
                  rw [Nat.add_mul, Nat.one_mul] at this
                  rw [if_neg (by omega)]
                  obtain ⟨v, q1, q2, q3⟩ := hcells i' x c y hx hy
                  exact ⟨v, q1, q2, g0 q3⟩
                · rename_i hi'
                  obtain ⟨hiy, -⟩ := List.getElem?_eq_some_iff.1 hx
                  have e1 : i' * i.size = xs.length * i.size + (i' - xs.length) * i.size := by rw [← Nat.add_mul]; congr 1; omega
                  have := Nat.mul_le_mul_right i.size (show (i' - xs.length) + 1 ≤ ys.length by omega)
                  rw [Nat.add_mul, Nat.one_mul] at this
                  rw [if_pos (by simp [hn1]; omega), show i' * i.size + c - xs.length * i.size = (i' - xs.length) * i.size + c by omega]
                  obtain ⟨v, q1, q2, q3⟩ := hn3 _ _ (flatten_get hyall _ x c y hx hy)
                  exact ⟨v, q1, q2, g0 q3⟩)
              refine ⟨_, .slice (some ⟨bl, 0, none⟩) (xs.length + ys.length) cap, _, _, exec o' ho' _ _ ?_, .inl rfl, (by intro k hk; first | rfl | exact Sg.put_other _ _ hk), g, r, VR.row _ _ _ _ _ _ _ _ hroom⟩
              rw [hva]; exact hrun
          · have hnx := src_ok (x := .sl k 0 xs.length) (v := .slice ad xs.length cap) (es := i.size) (tx := t) ht hR (by
              have := VR.sl (O := Own U σ S) (w := w) (off := 0) (len := xs.length) (a := ad) hs (by omega) (fun h => by rw [had h]; simp)
              simpa using this) (es' := i.size) (ys := xs) (len' := xs.length) (by simp [srcV, srcV0, unk, hob']) (.inl rfl) rfl
            obtain ⟨-, -, hold⟩ := hnx
            obtain ⟨olds, ho1, ho2, ho3, ho4⟩ := hold xs.length (Nat.le_refl _)
            rw [List.take_length] at ho3
            obtain ⟨g, r⟩ := grow_row hR hfree hdel (es := i.size) (cap := grownCap w (xs.length + ys.length) cap el) (xs := xs) (ys := ys) hl hyall (olds := olds) (news := news) ho1 hn1 ho3 hn3 hzs (grownCap_in _ _ _ _ (by omega)) el
            refine ⟨_, .slice (some ⟨w.heap.size, 0, none⟩) (xs.length + ys.length) (grownCap w (xs.length + ys.length) cap el), _, _, exec o' ho' _ _ ?_, .inl rfl, (by intro k hk; first | rfl | exact Sg.put_other _ _ hk), g, r, VR.row _ _ _ _ _ _ _ _ (le_grownCap _ _ _ _)⟩
            rw [hva]
            exact run_append_grow_src (P := P) w t u o'.type el i zv ht hi hzero ad xs.length cap olds (ho4 w.drew (same_drew w)) (ρ y) ys.length news src (by omega) (by omega) (growslice_fits (by omega) h47)
        · rw [hs] at hob
          obtain ⟨hl, rfl, -, rfl⟩ := hob
          exact nilcase _ (S.del k) hdel hva (by simpa using h63) (by simpa using h47) (by simpa using hK)
      · cases hK
    · rename_i k off len hex
      rw [hex] at hx
      split at hK
      · rename_i es2 xs hob'
        obtain ⟨rfl, rfl, hlx, h63, h47, hK⟩ := hK
        have hob := hR.obj k _ hob'
        have hdel : ∀ k' o, (S.del k).get k' = some o → S.get k' = some o := fun k' o h => by
          rw [Store.get_del] at h
          split at h
          · cases h
          · exact h
        generalize hva : ρ x = va at hx
        cases hx with
        | @slx _ _ _ _ bl es3 cap ad hs hle had =>
          rw [hs] at hob
          obtain ⟨hl, rfl, hcap, arr, ty, hh, hsz, hcells⟩ := hob
          have hlt : ∀ x ∈ xs.take len, x.length = i.size := fun x hx => hl x (List.mem_of_mem_take hx)
          have htl : (xs.take len).length = len := by simp; omega
          refine ⟨_, _, _, hK, fun o' ho' => ?_⟩
          by_cases h0 : ys.length = 0
          · obtain rfl : ys = [] := List.length_eq_zero_iff.1 h0
            obtain ⟨g, r⟩ := hR.moveC len hfree (o := .row i.size (xs.take len ++ [])) hob' hs (w' := w) rfl rfl rfl rfl (fun _ _ => rfl) (fun g => ⟨by simpa using hlt, rfl, by simp; omega, arr, ty, hh, Nat.le_trans (Nat.mul_le_mul_right _ (by omega)) hsz, fun i' x c y hx hy => by
              rw [List.append_nil, List.getElem?_take] at hx
              split at hx
              · obtain ⟨v, q1, q2, q3⟩ := hcells i' x c y hx hy
                exact ⟨v, q1, q2, q3.mono (g.keepU U) (g.ownU U) fun _ _ => rfl⟩
              · cases hx⟩)
            refine ⟨_, .slice ad len len, w, _, exec o' ho' _ _ ?_, .inl rfl, (by intro k hk; first | rfl | exact Sg.put_other _ _ hk), g, r, ?_⟩
            · rw [hva]
              exact run_append_nothing w t u _ el i ht hi ad len len (Nat.le_refl _) _ (src0 h0)
            · have := VR.sl (O := Own U (σ.put m (some bl, i.size, len)) ((S.del k).set m (.row i.size (xs.take len ++ [])))) (w := w) (off := 0) (len := len + ([] : List (List V)).length) (a := ad) (Sg.put_same σ m (some bl, i.size, len)) (by simp) (fun h => by rw [had h])
              simpa using this
          · have hold : ∃ olds : List Value, olds.length = len * i.size ∧ FlatR (Own U σ S) w (fun _ => none) (xs.take len).flatten olds.toArray ∧ ∀ w', Same w w' → (Builtin.firstCells i.size len (.slice ad len len)).run P w' = .ok olds.toArray w' := by
              by_cases hl0 : len = 0
              · subst hl0
                exact ⟨[], by simp, fun j y hy => by simp at hy, fun w' _ => firstCells_zero _ _ _ _⟩
              · obtain rfl := had (by omega)
                have hnx := src_ok (x := .sl k 0 len) (v := .slice (some ⟨bl, 0 * i.size, none⟩) len cap) (es := i.size) (tx := t) ht hR (by
                  have := VR.sl (O := Own U σ S) (w := w) (off := 0) (len := len) (a := some ⟨bl, 0 * i.size, none⟩) hs (by omega) (fun h => rfl)
                  simpa using this) (es' := i.size) (ys := (xs.drop 0).take len) (len' := len) (by simp [srcV, srcV0, unk, hob']) (.inl rfl) (by simp; omega)
                obtain ⟨-, -, hold⟩ := hnx
                have hdl : ((xs.drop 0).take len).length = len := by simp; omega
                obtain ⟨olds, ho1, ho2, ho3, ho4⟩ := hold len (by omega)
                rw [List.take_take, Nat.min_self, List.drop_zero] at ho3
                exact ⟨olds, ho1, ho3, fun w' hw => ho4 w' hw⟩
            obtain ⟨olds, ho1, ho3, ho4⟩ := hold
            obtain ⟨g, r⟩ := grow_row hR hfree hdel (es := i.size) (cap := grownCap w (len + ys.length) len el) (xs := xs.take len) (ys := ys) hlt hyall (olds := olds) (news := news) (by rw [htl]; exact ho1) hn1 ho3 hn3 hzs (by rw [htl]; exact grownCap_in _ _ _ _ (by omega)) el
            rw [htl] at g r
            refine ⟨_, .slice (some ⟨w.heap.size, 0, none⟩) (len + ys.length) (grownCap w (len + ys.length) len el), _, _, exec o' ho' _ _ ?_, .inl rfl, (by intro k hk; first | rfl | exact Sg.put_other _ _ hk), g, r, VR.row _ _ _ _ _ _ _ _ (le_grownCap _ _ _ _)⟩
            rw [hva]
            exact run_append_grow_src (P := P) w t u o'.type el i zv ht hi hzero ad len len olds (ho4 w.drew (same_drew w)) (ρ y) ys.length news src (by omega) (by omega) (growslice_fits (by omega) h47)
        | slx0 hs =>
          rw [hs] at hob
          obtain ⟨hl, rfl, -, rfl⟩ := hob
          exact nilcase _ (S.del k) hdel hva (by simpa using h63) (by simpa using h47) (by simpa using hK)
      · cases hK
    · cases hK
  · cases hK

theorem wr_cpy {t u el el' : TypeId} {es : Nat} {x y : Operand} {a b : A} (ht : P.underlying t = some (.slice el)) (hu : P.underlying u = some (.slice el')) (hz : tySize P el = some es) (hpos : 0 < es)
    (hx : VR (Own U σ S) w σ (e a) (ρ x)) (hy : VR (Own U σ S) w σ (e b) (ρ y)) (hR : RelS U σ S w n) (hmn : m ≤ n) (hK : wrK S m (.cpy es a b) e K) (o : Op) (ho : o = .call { callee := .builtin .copy, args := #[x, y], argTypes := #[t, u] }) : WrOk P U σ S w n m ρ o K := by
  have hmx : max n m = n := by omega
  replace hx := unk_VR hx
  simp only [wrK] at hK
  split at hK
  · rename_i es' len' ys k off len hsrc hex
    split at hK
    · rename_i es2 xs hob'
      obtain ⟨hes, hlen', rfl, hle', hK⟩ := hK
      obtain ⟨hyall, ⟨ady, capy, hyv⟩, hnews⟩ := src_ok hu hR hy hsrc hes hlen'
      obtain ⟨news, hn1, hn2, hn3, hn4⟩ := hnews (min ys.length len) (by omega)
      have hob := hR.obj k _ hob'
      rw [hex] at hx
      generalize hva : ρ x = va at hx
      have exec : ∀ (base : Option Addr) (cap : Nat), va = .slice base len cap → ∀ w', (match base with | some a => (storeCells a news).run P w | none => .ok () w) = .ok () w' → ∀ (o' : Oper), o'.op = o → (execOp ρ o').run P w = .ok (.value (.int .i64 (min ys.length len : Nat))) w' := by
        intro base cap hv w' hst o' ho'
        have hf := hn4 w (Same.refl w)
        rw [hyv] at hf
        have hmin : Nat.min ys.length len = min ys.length len := rfl
        simp only [execOp, ho', ho, resolve, invoke, builtin, Builtin.copy_, List.map_toArray, List.map_cons, List.map_nil, hva, hv, hyv, Sem.run_bind, Sem.run_pure, pure_bind, Result.andThen_ok, List.getElem?_toArray, List.getElem?_cons_zero, List.getElem?_cons_succ, run_underlying ht, Builtin.lenOf, run_sizeOf' hz, hmin, hf]
        cases base with
        | none => simp only at hst; obtain ⟨-, rfl⟩ := Result.ok.inj hst; rfl
        | some a => simp only at hst; simp [hst, goInt]
      cases hx with
      | @sl _ _ _ _ bl es3 cap ad hs hle had =>
        rw [hs] at hob
        obtain ⟨hl, rfl, hcap, arr, ty, hh, hsz, hcells⟩ := hob
        by_cases hc0 : off < cap
        · obtain rfl := had hc0
          have hmul : (off + min ys.length len) * es3 ≤ cap * es3 := Nat.mul_le_mul_right _ (by omega)
          rw [Nat.add_mul] at hmul
          obtain ⟨arr', hst, hsz', hget⟩ := storeCells_list (P := P) (w := w) (g := bl) (o := off * es3) news.toArray hh (mkF_out _ _) (by simp [hn1]; omega) (by simpa using hn2)
          obtain ⟨g, r⟩ := hR.write (o := .row es3 (xs.take off ++ ys.take (min ys.length len) ++ xs.drop (off + min ys.length len))) hob' hs (w' := w.setRow bl arr') rfl rfl rfl (by simp) (fun j hj => setRow_other w bl j arr' hj) (fun g => by
            have hall : ∀ x ∈ xs.take off ++ ys.take (min ys.length len) ++ xs.drop (off + min ys.length len), x.length = es3 := fun x hx => by
              rcases List.mem_append.1 hx with h | h
              · rcases List.mem_append.1 h with h | h
                · exact hl x (List.mem_of_mem_take h)
                · exact hyall x (List.mem_of_mem_take h)
              · exact hl x (List.mem_of_mem_drop h)
            refine ⟨hall, rfl, by simp; omega, arr', ty, by rw [hsz']; exact setRow_heap w bl arr arr' ty.1 _ hh, by omega, fun i' x c y hx hy => ?_⟩
            have g0 : ∀ {x v}, VR (Own U σ S) w (fun _ => none) x v → VR (Own U σ (S.set k (.row es3 (xs.take off ++ ys.take (min ys.length len) ++ xs.drop (off + min ys.length len))))) (w.setRow bl arr') (fun _ => none) x v := fun h => h.mono (g.keepU U) (g.ownU U) fun _ _ => rfl
            have hcl : c < es3 := by
              obtain ⟨h', -⟩ := List.getElem?_eq_some_iff.1 hy
              rw [hall x (List.mem_of_getElem? hx)] at h'; exact h'
            have hto : (xs.take off).length = off := by simp; omega
            rw [hget, List.size_toArray, hn1]
            rw [List.append_assoc, List.getElem?_append, hto, List.getElem?_append, List.getElem?_take, List.getElem?_drop, List.length_take] at hx
            have hmm : min (min ys.length len) ys.length = min ys.length len := by omega
            rw [hmm] at hx
            by_cases h1 : i' < off
            · rw [if_pos h1, if_pos h1] at hx
              have := Nat.mul_le_mul_right es3 (show i' + 1 ≤ off by omega)
              rw [Nat.add_mul, Nat.one_mul] at this
              rw [if_neg (by omega)]
              obtain ⟨v, q1, q2, q3⟩ := hcells i' x c y hx hy
              exact ⟨v, q1, q2, g0 q3⟩
            · rw [if_neg h1] at hx
              have e1 : i' * es3 = off * es3 + (i' - off) * es3 := by rw [← Nat.add_mul]; congr 1; omega
              by_cases h2 : i' - off < min ys.length len
              · rw [if_pos h2] at hx
                have := Nat.mul_le_mul_right es3 (show (i' - off) + 1 ≤ min ys.length len by omega)
                rw [Nat.add_mul, Nat.one_mul] at this
                rw [if_pos (by omega), show i' * es3 + c - off * es3 = (i' - off) * es3 + c by omega]
                obtain ⟨v, q1, q2, q3⟩ := hn3 _ _ (flatten_get (fun y hy => hyall y (List.mem_of_mem_take hy)) _ x c y hx hy)
                exact ⟨v, q1, q2, g0 q3⟩
              · rw [if_neg h2, show off + min ys.length len + (i' - off - min ys.length len) = i' by omega] at hx
                have := Nat.mul_le_mul_right es3 (show min ys.length len ≤ i' - off by omega)
                rw [if_neg (by omega)]
                obtain ⟨v, q1, q2, q3⟩ := hcells i' x c y hx hy
                exact ⟨v, q1, q2, g0 q3⟩)
          exact ⟨_, _, _, hK, fun o' ho' => ⟨_, _, _, σ, exec _ _ rfl _ (by simpa using hst) o' ho', .inl rfl, (by intro k hk; first | rfl | exact Sg.put_other _ _ hk), by rw [hmx]; exact g, by rw [hmx]; exact r, .int _ _⟩⟩
        · obtain rfl : len = 0 := by omega
          have hn0 : news = [] := List.length_eq_zero_iff.1 (by rw [hn1]; simp)
          simp only [Nat.min_zero, Nat.add_zero, List.take_zero, List.append_nil, List.take_append_drop] at hK
          obtain ⟨g, r⟩ := hR.write (o := .row es3 xs) hob' hs (w' := w) rfl rfl rfl rfl (fun _ _ => rfl) (fun g => ⟨hl, rfl, hcap, arr, ty, hh, hsz, fun i x c y hx hy => by
              obtain ⟨v, q1, q2, q3⟩ := hcells i x c y hx hy
              exact ⟨v, q1, q2, q3.mono (g.keepU U) (g.ownU U) fun _ _ => rfl⟩⟩)
          refine ⟨_, _, _, hK, fun o' ho' => ⟨_, _, w, σ, exec _ _ rfl _ ?_ o' ho', .inl rfl, (by intro k hk; first | rfl | exact Sg.put_other _ _ hk), by rw [hmx]; exact g, by rw [hmx]; exact r, by simpa using VR.int _ _⟩⟩
          subst hn0
          cases ad <;> simp [storeCells]
      | sl0 hs =>
        rw [hs] at hob
        obtain ⟨hl, rfl, -, rfl⟩ := hob
        have hn0 : news = [] := List.length_eq_zero_iff.1 (by rw [hn1]; simp)
        simp only [Nat.min_zero, Nat.add_zero, List.take_zero, List.append_nil, List.take_append_drop] at hK
        obtain ⟨g, r⟩ := hR.reset hob'
        refine ⟨_, _, _, hK, fun o' ho' => ⟨_, _, w, σ, exec _ _ rfl _ ?_ o' ho', .inl rfl, (by intro k hk; first | rfl | exact Sg.put_other _ _ hk), by rw [hmx]; exact g, by rw [hmx]; exact r, by simpa using VR.int _ _⟩⟩
        subst hn0
        split <;> simp [storeCells]
    · cases hK
  · cases hK

/-- Elements of a row are written over. -/
theorem write_rows (hR : RelS U σ S w n) {k es cap bl : Nat} {xs ys : List (List V)} (hob' : S.get k = some (.row es xs)) (hs : σ k = some (some bl, es, cap)) (hyall : ∀ y ∈ ys, y.length = es) {news : List Value} (hn1 : news.length = ys.length * es)
    (hn2 : ∀ u ∈ news, u.oneCell' = true) (hn3 : FlatR (Own U σ S) w (fun _ => none) ys.flatten news.toArray) {off : Nat} (hle : off + ys.length ≤ xs.length) :
    ∃ w', (storeCells ⟨bl, off * es, none⟩ news).run P w = .ok () w' ∧ Grow σ S w n σ (S.set k (.row es (xs.take off ++ ys ++ xs.drop (off + ys.length)))) w' n ∧ RelS U σ (S.set k (.row es (xs.take off ++ ys ++ xs.drop (off + ys.length)))) w' n := by
  have hob := hR.obj k _ hob'
  rw [hs] at hob
  obtain ⟨hl, -, hcap, arr, ty, hh, hsz, hcells⟩ := hob
  have hmul : (off + ys.length) * es ≤ cap * es := Nat.mul_le_mul_right _ (by omega)
  rw [Nat.add_mul] at hmul
  obtain ⟨arr', hst, hsz', hget⟩ := storeCells_list (P := P) (w := w) (g := bl) (o := off * es) news.toArray hh (mkF_out _ _) (by simp [hn1]; omega) (by simpa using hn2)
  obtain ⟨g, r⟩ := hR.write (o := .row es (xs.take off ++ ys ++ xs.drop (off + ys.length))) hob' hs (w' := w.setRow bl arr') rfl rfl rfl (by simp) (fun j hj => setRow_other w bl j arr' hj) (fun g => by
    have hall : ∀ x ∈ xs.take off ++ ys ++ xs.drop (off + ys.length), x.length = es := fun x hx => by
      rcases List.mem_append.1 hx with h | h
      · rcases List.mem_append.1 h with h | h
        · exact hl x (List.mem_of_mem_take h)
        · exact hyall x h
      · exact hl x (List.mem_of_mem_drop h)
    refine ⟨hall, rfl, by simp; omega, arr', ty, by rw [hsz']; exact setRow_heap w bl arr arr' ty.1 _ hh, by omega, fun i' x c y hx hy => ?_⟩
    have g0 : ∀ {x v}, VR (Own U σ S) w (fun _ => none) x v → VR (Own U σ (S.set k (.row es (xs.take off ++ ys ++ xs.drop (off + ys.length))))) (w.setRow bl arr') (fun _ => none) x v := fun h => h.mono (g.keepU U) (g.ownU U) fun _ _ => rfl
    have hcl : c < es := by
      obtain ⟨h', -⟩ := List.getElem?_eq_some_iff.1 hy
      rw [hall x (List.mem_of_getElem? hx)] at h'; exact h'
    have hto : (xs.take off).length = off := by simp; omega
    rw [hget, List.size_toArray, hn1]
    rw [List.append_assoc, List.getElem?_append, hto, List.getElem?_append, List.getElem?_take, List.getElem?_drop] at hx
    by_cases h1 : i' < off
    · rw [if_pos h1, if_pos h1] at hx
      have := Nat.mul_le_mul_right es (show i' + 1 ≤ off by omega)
      rw [Nat.add_mul, Nat.one_mul] at this
      rw [if_neg (by omega)]
      obtain ⟨v, q1, q2, q3⟩ := hcells i' x c y hx hy
      exact ⟨v, q1, q2, g0 q3⟩
    · rw [if_neg h1] at hx
      have e1 : i' * es = off * es + (i' - off) * es := by rw [← Nat.add_mul]; congr 1; omega
      by_cases h2 : i' - off < ys.length
      · rw [if_pos h2] at hx
        have := Nat.mul_le_mul_right es (show (i' - off) + 1 ≤ ys.length by omega)
        rw [Nat.add_mul, Nat.one_mul] at this
        rw [if_pos (by omega), show i' * es + c - off * es = (i' - off) * es + c by omega]
        obtain ⟨v, q1, q2, q3⟩ := hn3 _ _ (flatten_get hyall _ x c y hx hy)
        exact ⟨v, q1, q2, g0 q3⟩
      · rw [if_neg h2, show off + ys.length + (i' - off - ys.length) = i' by omega] at hx
        have := Nat.mul_le_mul_right es (show ys.length ≤ i' - off by omega)
        rw [if_neg (by omega)]
        obtain ⟨v, q1, q2, q3⟩ := hcells i' x c y hx hy
        exact ⟨v, q1, q2, g0 q3⟩)
  exact ⟨_, by simpa using hst, g, r⟩

theorem wr_cpys {t u el : TypeId} {x y : Operand} {a b : A} (ht : P.underlying t = some (.slice el)) (hu : P.underlying u = some .string) (hz : tySize P el = some 1)
    (hx : VR (Own U σ S) w σ (e a) (ρ x)) (hy : VR (Own U σ S) w σ (e b) (ρ y)) (hR : RelS U σ S w n) (hmn : m ≤ n) (hK : wrK S m (.cpys a b) e K) (o : Op) (ho : o = .call { callee := .builtin .copy, args := #[x, y], argTypes := #[t, u] }) : WrOk P U σ S w n m ρ o K := by
  have hmx : max n m = n := by omega
  replace hx := unk_VR hx
  simp only [wrK] at hK
  split at hK
  · rename_i s k off len hey hex
    split at hK
    · rename_i xs hob'
      obtain ⟨hle', hK⟩ := hK
      rw [hey] at hy
      generalize hvb : ρ y = vb at hy
      cases hy
      rw [hex] at hx
      generalize hva : ρ x = va at hx
      have hob := hR.obj k _ hob'
      let news : List Value := (s.data.toList.take (min s.size len)).map fun b => Value.int .u8 (b.toNat : Int)
      have hsl : s.data.toList.length = s.size := rfl
      have hnl : news.length = min s.size len := by simp [news, hsl]
      have hfc : ∀ w', (Builtin.firstCells 1 (Nat.min s.size len) (.string s)).run P w' = .ok news.toArray w' := by
        intro w'
        have : Nat.min s.size len = min s.size len := rfl
        rw [this]
        simp only [Builtin.firstCells, Sem.run_pure]
        congr 1
        apply Array.ext'
        simp only [Array.toList_map, news]
        congr 1
        show (s.extract 0 (min s.size len)).data.toList = _
        rw [ByteArray.data_extract, Array.toList_extract]
        simp [List.extract]
      have exec : ∀ (base : Option Addr) (cap : Nat), va = .slice base len cap → ∀ w', (match base with | some a => (storeCells a news).run P w | none => .ok () w) = .ok () w' → ∀ (o' : Oper), o'.op = o → (execOp ρ o').run P w = .ok (.value (.int .i64 (min s.size len : Nat))) w' := by
        intro base cap hv w' hst o' ho'
        have hmin : Nat.min s.size len = min s.size len := rfl
        simp only [execOp, ho', ho, resolve, invoke, builtin, Builtin.copy_, List.map_toArray, List.map_cons, List.map_nil, hva, hv, hvb, Sem.run_bind, Sem.run_pure, pure_bind, Result.andThen_ok, List.getElem?_toArray, List.getElem?_cons_zero, List.getElem?_cons_succ, run_underlying ht, Builtin.lenOf, run_sizeOf' hz, hfc]
        cases base with
        | none => simp only at hst; obtain ⟨-, rfl⟩ := Result.ok.inj hst; rfl
        | some a => simp only at hst; simp [hst, goInt, hmin]
      have hall : ∀ q ∈ (rowsB s.data.toList).take (min s.size len), q.length = 1 := fun q hq => by
        obtain ⟨b, -, rfl⟩ := List.mem_map.1 (List.mem_of_mem_take hq); rfl
      have hql : ((rowsB s.data.toList).take (min s.size len)).length = min s.size len := by rw [List.length_take, rowsB_len, hsl]; omega
      have hflat : ((rowsB s.data.toList).take (min s.size len)).flatten = (s.data.toList.take (min s.size len)).map fun b => V.int .u8 (b.toNat : Int) := by
        unfold rowsB
        rw [← List.map_take]
        induction s.data.toList.take (min s.size len) with
        | nil => rfl
        | cons b r ih => simp [ih]
      cases hx with
      | @sl _ _ _ _ bl es3 cap ad hs hle had =>
        by_cases hc0 : off < cap
        · obtain rfl := had hc0
          have hes3 : es3 = 1 := by rw [hs] at hob; exact hob.2.1
          subst hes3
          obtain ⟨w', hst, g, r⟩ := write_rows (P := P) hR hob' hs hall (news := news) (by rw [hnl, hql]; omega) (fun u hu => by obtain ⟨b, -, rfl⟩ := List.mem_map.1 hu; rfl) (fun j y hy => by
            rw [hflat, List.getElem?_map, Option.map_eq_some_iff] at hy
            obtain ⟨b, hb, rfl⟩ := hy
            exact ⟨.int .u8 (b.toNat : Int), by rw [List.getElem?_toArray]; show (List.map _ (List.take _ _))[j]? = _; rw [List.getElem?_map, hb]; rfl, rfl, .int _ _⟩) (off := off) (by rw [hql]; omega)
          rw [hql] at g r
          exact ⟨_, _, _, hK, fun o' ho' => ⟨_, _, _, σ, exec _ _ rfl _ (by simpa using hst) o' ho', .inl rfl, fun _ _ => rfl, by rw [hmx]; exact g, by rw [hmx]; exact r, .int _ _⟩⟩
        · obtain rfl : len = 0 := by omega
          have hn0 : news = [] := List.length_eq_zero_iff.1 (by rw [hnl]; simp)
          simp only [Nat.min_zero, Nat.add_zero, List.take_zero, List.append_nil, List.take_append_drop] at hK
          obtain ⟨g, r⟩ := hR.reset hob'
          refine ⟨_, _, _, hK, fun o' ho' => ⟨_, _, w, σ, exec _ _ rfl _ ?_ o' ho', .inl rfl, fun _ _ => rfl, by rw [hmx]; exact g, by rw [hmx]; exact r, by simpa using VR.int _ _⟩⟩
          rw [hn0]
          cases ad <;> simp [storeCells]
      | sl0 hs =>
        have hn0 : news = [] := List.length_eq_zero_iff.1 (by rw [hnl]; simp)
        simp only [Nat.min_zero, Nat.add_zero, List.take_zero, List.append_nil, List.take_append_drop] at hK
        obtain ⟨g, r⟩ := hR.reset hob'
        refine ⟨_, _, _, hK, fun o' ho' => ⟨_, _, w, σ, exec _ _ rfl _ ?_ o' ho', .inl rfl, fun _ _ => rfl, by rw [hmx]; exact g, by rw [hmx]; exact r, by simpa using VR.int _ _⟩⟩
        rw [hn0]
        split <;> simp [storeCells]
    · cases hK
  · cases hK

theorem wr_clr {t el : TypeId} {es : Nat} {z : List V} {x : Operand} {a : A} (ht : P.underlying t = some (.slice el)) (hsz : tySize P el = some es) (hz : zeroOf P el = some z) (hc : z.length = es ∧ 0 < es ∧ z.all flatV = true)
    (hx : VR (Own U σ S) w σ (e a) (ρ x)) (hR : RelS U σ S w n) (hmn : m ≤ n) (hK : wrK S m (.clr es z a) e K) (o : Op) (ho : o = .call { callee := .builtin .clear, args := #[x], argTypes := #[t] }) : WrOk P U σ S w n m ρ o K := by
  have hmx : max n m = n := by omega
  obtain ⟨hc1, hc2, hc3⟩ := hc
  obtain ⟨i', zv, hi', hzero, hvs⟩ := zeroOf_spec hz
  have hzs : zv.cells.size = es := by
    have := (vsOf_VR hvs).1
    simpa [hc1] using this.symm
  replace hx := unk_VR hx
  simp only [wrK] at hK
  split at hK
  · rename_i k off len hex
    split at hK
    · rename_i es2 xs hob'
      obtain ⟨rfl, hle', hK⟩ := hK
      rw [hex] at hx
      generalize hva : ρ x = va at hx
      have hob := hR.obj k _ hob'
      have hall : ∀ q ∈ List.replicate len z, q.length = es2 := fun q hq => by rw [(List.mem_replicate.1 hq).2]; exact hc1
      have exec0 : ∀ (ad : Option Addr) (c : Nat), va = .slice ad 0 c → ∀ (o' : Oper), o'.op = o → (execOp ρ o').run P w = .ok (.value (.tuple #[])) w := by
        intro ad c hv o' ho'
        subst hv
        cases ad <;> simp [execOp, ho', ho, resolve, invoke, builtin, Builtin.clear_, hva, run_underlying ht]
      have nothing : len = 0 → ∀ (ad : Option Addr) (c : Nat), va = .slice ad 0 c → WrOk P U σ S w n m ρ o K := by
        intro hl0 ad c hv
        subst hl0
        have hsame : xs.take off ++ List.replicate 0 z ++ xs.drop (off + 0) = xs := by simp
        rw [hsame] at hK
        obtain ⟨g, r⟩ := hR.reset hob'
        exact ⟨_, _, _, hK, fun o' ho' => ⟨_, .tuple #[], w, σ, exec0 ad c hv o' ho', .inl rfl, fun _ _ => rfl, by rw [hmx]; exact g, by rw [hmx]; exact r, .tup rfl (by simp)⟩⟩
      cases hx with
      | @sl _ _ _ _ bl es3 cap ad hs hle had =>
        by_cases hl0 : len = 0
        · exact nothing hl0 ad (cap - off) (by rw [hl0])
        · rw [hs] at hob
          obtain ⟨hl, rfl, hcap, arr, ty, hh, hsz', hcells⟩ := hob
          obtain rfl := had (by omega)
          have hrep := zero_rows (O := Own U σ S) (w := w) (el := el) hvs hc3 hc1 hc2 len
          have hcellsz : Builtin.zeroCells zv.cells len = (Array.range (len * es3)).map (zv.cells[· % zv.cells.size]!) := by simp [Builtin.zeroCells, hzs]
          have hone : ∀ u ∈ (Builtin.zeroCells zv.cells len).toList, u.oneCell' = true := by
            intro u hu
            obtain ⟨i, hi⟩ := List.getElem?_of_mem hu
            have hilt : i < len * es3 := by
              obtain ⟨h', -⟩ := List.getElem?_eq_some_iff.1 hi
              simpa [hcellsz] using h'
            have hfl : ((List.replicate len z).flatten).length = len * es3 := by rw [flatten_len hall, List.length_replicate]
            obtain ⟨v, q1, q2, q3⟩ := hrep i _ (List.getElem?_eq_getElem (by rw [hfl]; exact hilt))
            rw [← hcellsz] at q1
            rw [← Array.getElem?_toList, hi] at q1
            obtain rfl := Option.some.inj q1
            exact q2
          obtain ⟨w', hst, g, r⟩ := write_rows (P := P) hR hob' hs hall (news := (Builtin.zeroCells zv.cells len).toList) (by simp [hcellsz]) hone (by rw [show ((Builtin.zeroCells zv.cells len).toList).toArray = Builtin.zeroCells zv.cells len by simp, hcellsz]; exact hrep) (off := off) (by simpa using hle')
          simp only [List.length_replicate] at g r
          refine ⟨_, _, _, hK, fun o' ho' => ⟨_, .tuple #[], w', σ, ?_, .inl rfl, fun _ _ => rfl, by rw [hmx]; exact g, by rw [hmx]; exact r, .tup rfl (by simp)⟩⟩
          cases len with
          | zero => exact absurd rfl hl0
          | succ len => simp [execOp, ho', ho, resolve, invoke, builtin, Builtin.clear_, hva, run_underlying ht, zeroValue, typeInfo, hi', hzero, hst]
      | sl0 hs => exact nothing rfl _ _ rfl
    · cases hK
  · cases hK

/-- ALL OPERATIONS THAT MAKE MEMORY OR WRITE IT. -/
theorem wr_sound {o : Op} {i : I} (h : resW P o = some i) (hR : RelS U σ S w n) (hfree : S.get m = none ∧ σ m = none) (hmn : m ≤ n) (he : ∀ x a, resA x = some a → VR (Own U σ S) w σ (e a) (ρ x)) (hK : wrK S m i e K) : WrOk P U σ S w n m ρ o K := by
  unfold resW at h
  split at h
  · split at h
    · rename_i h1
      split at h
      · rename_i h2
        obtain rfl := Option.some.inj h
        exact wr_alloc h1 h2 hR hfree hK
      · cases h
    · cases h
  · simp only [Option.map_eq_some_iff] at h
    obtain ⟨a, h1, rfl⟩ := h
    exact wr_box (he _ _ h1) hR hfree hK
  · split at h
    · rename_i h1 h2 h3
      obtain rfl := Option.some.inj h
      exact wr_store h1 (he _ _ h2) (he _ _ h3) hR hK hmn
    · cases h
  · split at h
    · rename_i h1
      split at h
      · rename_i h2 h3 h4
        split at h
        · rename_i h5
          obtain rfl := Option.some.inj h
          exact wr_bslice h1 h2 h3 h4 h5 he hR hfree hK
        · cases h
      · cases h
    · cases h
  · split at h
    · rename_i h1 h2 h3
      split at h
      · rename_i h4 h5
        split at h
        · rename_i h6
          obtain rfl := Option.some.inj h
          exact wr_mk h1 h4 h5 h6 (he _ _ h2) (he _ _ h3) hR hfree hK
        · cases h
      · cases h
    · cases h
  · split at h
    · split at h
      · obtain rfl := Option.some.inj h
        exact wr_mkmap hR hfree hK
      · obtain rfl := Option.some.inj h
        exact wr_mkmap hR hfree hK
    · cases h
  · split at h
    · rename_i h1 h2
      split at h
      · rename_i h3
        obtain rfl := Option.some.inj h
        exact wr_aslc h1 h3 (he _ _ h2) trivial hR hmn hK
      · rename_i h3
        simp only [Option.map_eq_some_iff] at h
        obtain ⟨z, h4, rfl⟩ := h
        exact wr_aslc h1 h3 (he _ _ h2) (he _ _ h4) hR hmn hK
      · cases h
    · cases h
  · split at h
    · rename_i h1 h2 h3
      split at h
      · rename_i h4
        obtain rfl := Option.some.inj h
        exact wr_s2b h1 h2 h4 (he _ _ h3) hR hmn hK
      · cases h
    · cases h
  · split at h
    · rename_i h1 h2 h3 h4
      split at h
      · rename_i h5
        obtain rfl := Option.some.inj h
        exact wr_mput h1 h5 (he _ _ h2) (he _ _ h3) (he _ _ h4) hR hmn hK
      · rename_i h5
        split at h
        · rename_i hp
          obtain rfl := Option.some.inj h
          exact wr_mputp h1 h5 hp (he _ _ h2) (he _ _ h3) (he _ _ h4) hR hmn hK
        · cases h
      · cases h
    · cases h
  · rename_i args argTypes
    split at h
    · rename_i x y t u q1 q2
      split at h
      · rename_i h1 h2 h3 h4
        split at h
        · rename_i h5 h6
          split at h
          · rename_i h7
            obtain rfl := Option.some.inj h
            obtain rfl : args = #[x, y] := Array.toList_inj.1 q1
            obtain rfl : argTypes = #[t, u] := Array.toList_inj.1 q2
            exact wr_app h1 h2 h5 h6 h7 (he _ _ h3) (he _ _ h4) hR hfree hK _ rfl
          · cases h
        · cases h
      · cases h
    · cases h
  · rename_i args argTypes
    split at h
    · rename_i x t q1 q2
      split at h
      · rename_i h1 h2
        split at h
        · rename_i h3 h4
          split at h
          · rename_i h5
            obtain rfl := Option.some.inj h
            obtain rfl : args = #[x] := Array.toList_inj.1 q1
            obtain rfl : argTypes = #[t] := Array.toList_inj.1 q2
            exact wr_clr h1 h3 h4 h5 (he _ _ h2) hR hmn hK _ rfl
          · cases h
        · cases h
      · cases h
    · cases h
  · rename_i args argTypes
    split at h
    · rename_i x y t u q1 q2
      split at h
      · rename_i h1 h2 h3 h4
        split at h
        · rename_i h5
          split at h
          · rename_i h7
            obtain rfl := Option.some.inj h
            obtain rfl : args = #[x, y] := Array.toList_inj.1 q1
            obtain rfl : argTypes = #[t, u] := Array.toList_inj.1 q2
            exact wr_cpy h1 h2 h5 h7 (he _ _ h3) (he _ _ h4) hR hmn hK _ rfl
          · cases h
        · cases h
      · rename_i h1 h2 h3 h4
        split at h
        · rename_i h5
          obtain rfl := Option.some.inj h
          obtain rfl : args = #[x, y] := Array.toList_inj.1 q1
          obtain rfl : argTypes = #[t, u] := Array.toList_inj.1 q2
          exact wr_cpys h1 h2 h5 (he _ _ h3) (he _ _ h4) hR hmn hK _ rfl
        · cases h
      · cases h
    · cases h
  · cases h
end
end Go.Sk
