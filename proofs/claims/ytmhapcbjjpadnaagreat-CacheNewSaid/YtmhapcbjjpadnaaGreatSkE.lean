/- Sk, part E: values that are put together; operations that make memory or write it. -/
import Derived.Test.YtmhapcbjjpadnaaGreatSkD
set_option linter.unusedSimpArgs false
set_option linter.unusedVariables false
set_option linter.unusedSectionVars false
namespace Go.Sk
open Go Go.RowKit
variable [Tab]

/-- Cells read as values, one by one; each is the value of one cell. -/
def FlatR (O : Nat → Prop) (w : World) (σ : Sg) (cs : List V) (arr : Array Value) : Prop :=
  ∀ (j : Nat) (y : V), cs[j]? = some y → ∃ u, arr[j]? = some u ∧ u.oneCell' = true ∧ VR O w σ y u

theorem FlatR.agg {O : Nat → Prop} {w : World} {σ : Sg} {cs : List V} {arr : Array Value} (h : FlatR O w σ cs arr) (hs : arr.size = cs.length) : VR O w σ (.agg cs) (.agg arr) :=
  .agg hs fun i y v hy hv => by
    obtain ⟨u, h1, -, h3⟩ := h i y hy
    rw [h1] at hv
    obtain rfl := Option.some.inj hv
    exact h3

/-- Parts put into a row of cells. -/
def fillV (z : List V) : List (Nat × Nat × V) → Option (List V)
  | [] => some z
  | (off, sz, x) :: r => match x.cells? with
    | some cs => if cs.length = sz ∧ off + sz ≤ z.length ∧ cs.all oneV = true then fillV (z.take off ++ cs ++ z.drop (off + sz)) r else none
    | none => none

theorem size_foldl_set (vs : List Value) : ∀ (off k : Nat) (cells : Array Value), ((vs.zipIdx k).foldl (fun (cs : Array Value) (p : Value × Nat) => cs.setIfInBounds (off + p.2) p.1) cells).size = cells.size := by
  induction vs with
  | nil => intro off k cells; rfl
  | cons v r ih => intro off k cells; simp only [List.zipIdx_cons, List.foldl_cons, ih, Array.size_setIfInBounds]

theorem get_foldl_set (vs : List Value) : ∀ (off k : Nat) (cells : Array Value), off + k + vs.length ≤ cells.size → ∀ j, ((vs.zipIdx k).foldl (fun (cs : Array Value) (p : Value × Nat) => cs.setIfInBounds (off + p.2) p.1) cells)[j]? =
    if off + k ≤ j ∧ j < off + k + vs.length then vs[j - (off + k)]? else cells[j]? := by
  induction vs with
  | nil => intro off k cells _ j; simp; omega
  | cons v r ih =>
    intro off k cells hle j
    simp only [List.length_cons] at hle
    simp only [List.zipIdx_cons, List.foldl_cons]
    rw [ih off (k + 1) _ (by simp; omega) j]
    simp only [List.length_cons]
    by_cases h1 : j = off + k
    · subst h1
      rw [if_neg (by omega), if_pos (by omega), Array.getElem?_setIfInBounds_self_of_lt (by omega)]
      simp
    · by_cases h2 : off + k ≤ j ∧ j < off + k + (r.length + 1)
      · rw [if_pos (by omega), if_pos h2, show j - (off + k) = (j - (off + (k + 1))) + 1 by omega, List.getElem?_cons_succ]
      · rw [if_neg (by omega), if_neg h2, Array.getElem?_setIfInBounds_ne (by omega)]

theorem fill_step (vc : Array Value) (off : Nat) (cells : Array Value) (hle : off + vc.size ≤ cells.size) :
    (vc.zipIdx.foldl (fun cs (c, j) => cs.setIfInBounds (off + j) c) cells).size = cells.size ∧
    ∀ j, (vc.zipIdx.foldl (fun cs (c, j) => cs.setIfInBounds (off + j) c) cells)[j]? = if off ≤ j ∧ j < off + vc.size then vc[j - off]? else cells[j]? := by
  rw [← Array.foldl_toList, Array.toList_zipIdx]
  refine ⟨size_foldl_set vc.toList off 0 cells, fun j => ?_⟩
  have := get_foldl_set vc.toList off 0 cells (by simpa using hle) j
  simpa using this

theorem fill_ok {O : Nat → Prop} {w : World} {σ : Sg} (place : Nat → Option (Nat × Nat)) : ∀ (ps : List (Nat × Nat × V)) (vs : List (Nat × Value)) (z cs : List V) (arr : Array Value),
    arr.size = z.length → FlatR O w σ z arr → ps.length = vs.length → (∀ (i : Nat) p v, ps[i]? = some p → vs[i]? = some v → place v.1 = some (p.1, p.2.1) ∧ VR O w σ p.2.2 v.2) → fillV z ps = some cs →
    ∃ arr', Instr.fill place arr vs = some arr' ∧ arr'.size = cs.length ∧ FlatR O w σ cs arr' := by
  intro ps
  induction ps with
  | nil =>
    intro vs z cs arr hs hf hl hp h
    cases vs with
    | nil => simp only [fillV, Option.some.injEq] at h; subst h; exact ⟨arr, rfl, hs, hf⟩
    | cons _ _ => simp at hl
  | cons p r ih =>
    intro vs z cs arr hs hf hl hp h
    cases vs with
    | nil => simp at hl
    | cons v vr =>
      obtain ⟨off, sz, x⟩ := p
      obtain ⟨i, v⟩ := v
      obtain ⟨hpl, hv⟩ := hp 0 _ _ rfl rfl
      simp only at hpl hv
      simp only [fillV] at h
      split at h
      · rename_i xc hxc
        split at h
        · rename_i hc
          obtain ⟨hlen, hle, hone⟩ := hc
          obtain ⟨hvs, hvc⟩ := cells_VR hv hxc hone
          obtain ⟨hsz', hget⟩ := fill_step v.cells off arr (by omega)
          obtain ⟨arr', h1, h2, h3⟩ := ih vr _ cs (v.cells.zipIdx.foldl (fun cs (c, j) => cs.setIfInBounds (off + j) c) arr) (by rw [hsz']; simp; omega) (fun j y hy => by
              rw [hget]
              have hz : (z.take off ++ xc ++ z.drop (off + sz))[j]? = if off ≤ j ∧ j < off + sz then xc[j - off]? else z[j]? := by
                rw [List.append_assoc, List.getElem?_append, List.length_take, List.getElem?_append, List.getElem?_take, List.getElem?_drop]
                have : min off z.length = off := by omega
                rw [this]
                by_cases hj1 : j < off
                · rw [if_pos hj1, if_pos hj1, if_neg (by omega)]
                · rw [if_neg hj1]
                  by_cases hj2 : j < off + sz
                  · rw [if_pos (by omega), if_pos (by omega)]
                  · rw [if_neg (by omega), if_neg (by omega)]
                    congr 1; omega
              rw [hz] at hy
              by_cases hj : off ≤ j ∧ j < off + sz
              · rw [if_pos hj] at hy
                rw [if_pos (by omega)]
                exact hvc _ _ hy
              · rw [if_neg hj] at hy
                rw [if_neg (by omega)]
                exact hf _ _ hy) (by simpa using hl) (fun i p v hp' hv' => hp (i + 1) p v (by simpa using hp') (by simpa using hv')) h
          refine ⟨arr', ?_, h2, h3⟩
          simp only [Instr.fill, hpl]
          rw [if_neg]
          · exact h1
          · simp; omega
        · cases h
      · cases h

/-- The sizes of a struct's fields. -/
def fieldSizes (P : Program) : List Field → Option (List (Nat × Nat))
  | [] => some []
  | f :: r => match tySize P f.type, fieldSizes P r with
    | some n, some ns => some ((f.offset, n) :: ns)
    | _, _ => none

theorem run_fieldSizes {P : Program} {w : World} : ∀ (l : List Field) (ns : List (Nat × Nat)), fieldSizes P l = some ns →
    (l.mapM (m := Sem) fun f => do pure (f.offset, ← sizeOf f.type)).run P w = .ok ns w := by
  intro l
  induction l with
  | nil => intro ns h; simp only [fieldSizes, Option.some.injEq] at h; subst h; rfl
  | cons f r ih =>
    intro ns h
    simp only [fieldSizes] at h
    split at h
    · rename_i h1 h2
      obtain rfl := Option.some.inj h
      rw [List.mapM_cons]
      simp only [Sem.run_bind, run_sizeOf' h1, Result.andThen_ok, Sem.run_pure, ih _ h2]
    · cases h

def resPs (pl : Nat → Option (Nat × Nat)) : List (Nat × Operand) → Option (List (Nat × Nat × A))
  | [] => some []
  | (i, x) :: r => match pl i, resA x, resPs pl r with
    | some (off, sz), some a, some ps => some ((off, sz, a) :: ps)
    | _, _, _ => none

def zeroOf (P : Program) (t : TypeId) : Option (List V) :=
  match P.info? t with
  | some i => match i.zero with
    | some z => vsOf z.cells.toList
    | none => none
  | none => none

/-- A value put together. -/
def resB (P : Program) : Op → Option (List V × List (Nat × Nat × A))
  | .build t parts => match zeroOf P t, P.underlying t with
    | some z, some (.struct fs) => match fieldSizes P fs.toList with
      | some ns => (resPs (ns[·]?) parts.toList).map fun ps => (z, ps)
      | none => none
    | some z, some (.array _ e) => match tySize P e with
      | some es => (resPs (fun i => some (i * es, es)) parts.toList).map fun ps => (z, ps)
      | none => none
    | _, _ => none
  | _ => none

theorem zeroOf_spec {P : Program} {t : TypeId} {z : List V} (h : zeroOf P t = some z) : ∃ i zv, P.info? t = some i ∧ i.zero = some zv ∧ vsOf zv.cells.toList = some z := by
  unfold zeroOf at h
  split at h
  · rename_i i hi
    split at h
    · rename_i zv hz; exact ⟨i, zv, hi, hz, h⟩
    · cases h
  · cases h

theorem vsOf_one {vs : List Value} {xs : List V} (h : vsOf vs = some xs) (h1 : xs.all oneV = true) (O : Nat → Prop) (w : World) (σ : Sg) : vs.length = xs.length ∧ ∀ (j : Nat) (y : V), xs[j]? = some y → ∃ u, vs[j]? = some u ∧ u.oneCell' = true ∧ VR O w σ y u := by
  obtain ⟨hl, hv⟩ := vsOf_VR h
  refine ⟨hl.symm, fun j y hy => ?_⟩
  obtain ⟨hj, -⟩ := List.getElem?_eq_some_iff.1 hy
  have hu := List.getElem?_eq_getElem (l := vs) (i := j) (by omega)
  have := hv j y _ hy hu O w σ
  exact ⟨_, hu, oneV_one this (List.all_eq_true.1 h1 y (List.mem_of_getElem? hy)), this⟩

section
variable {P : Program} {U : Nat → Prop} {σ : Sg} {S : Store} {w : World} {n : Nat} {ρ : Operand → Value} {e : A → V}

theorem resPs_spec (pl : Nat → Option (Nat × Nat)) : ∀ (l : List (Nat × Operand)) (ps : List (Nat × Nat × A)), resPs pl l = some ps → (∀ x a, resA x = some a → VR (Own U σ S) w σ (e a) (ρ x)) →
    ps.length = l.length ∧ ∀ (i : Nat) p v, (ps.map fun p => (p.1, p.2.1, e p.2.2))[i]? = some p → (l.map fun p => (p.1, ρ p.2))[i]? = some v → pl v.1 = some (p.1, p.2.1) ∧ VR (Own U σ S) w σ p.2.2 v.2 := by
  intro l
  induction l with
  | nil => intro ps h _; simp only [resPs, Option.some.injEq] at h; subst h; simp
  | cons q r ih =>
    intro ps h he
    obtain ⟨i, x⟩ := q
    simp only [resPs] at h
    split at h
    · rename_i off sz a ps' h1 h2 h3
      obtain rfl := Option.some.inj h
      obtain ⟨hl, hp⟩ := ih ps' h3 he
      refine ⟨by simp [hl], fun j p v hp' hv' => ?_⟩
      cases j with
      | zero =>
        simp only [List.map_cons, List.getElem?_cons_zero, Option.some.injEq] at hp' hv'
        subst hp' hv'
        exact ⟨h1, he _ _ h2⟩
      | succ j => exact hp j p v (by simpa using hp') (by simpa using hv')
    · cases h

theorem build_sound {o : Op} {z : List V} {ps : List (Nat × Nat × A)} (h : resB P o = some (z, ps)) (hz1 : z.all oneV = true) (he : ∀ x a, resA x = some a → VR (Own U σ S) w σ (e a) (ρ x)) {cs : List V}
    (hf : fillV z (ps.map fun p => (p.1, p.2.1, e p.2.2)) = some cs) :
    ∃ cv, VR (Own U σ S) w σ (.agg cs) cv ∧ ∀ (w' : World) (o' : Oper), o'.op = o → (execOp ρ o').run P w' = .ok (.value cv) w' := by
  unfold resB at h
  split at h
  · rename_i t parts
    split at h
    · rename_i z' fs hz hu
      split at h
      · rename_i ns hns
        simp only [Option.map_eq_some_iff, Prod.mk.injEq] at h
        obtain ⟨ps', hps, rfl, rfl⟩ := h
        obtain ⟨i, zv, hi, hzero, hvs⟩ := zeroOf_spec hz
        obtain ⟨hl, hp⟩ := resPs_spec (ns[·]?) _ _ hps he
        obtain ⟨hzl, hzf⟩ := vsOf_one hvs hz1 (Own U σ S) w σ
        obtain ⟨arr', h1, h2, h3⟩ := fill_ok (ns[·]?) _ (parts.toList.map fun p => (p.1, ρ p.2)) z' cs zv.cells (by simpa using hzl) (fun j y hy => by simpa using hzf j y hy) (by simp [hl]) hp hf
        refine ⟨.agg arr', h3.agg h2, fun w' o' ho => ?_⟩
        have hm : (fs.mapM (m := Sem) fun f => do pure (f.offset, ← sizeOf f.type)).run P w' = .ok ns.toArray w' := by
          rw [Array.mapM_eq_mapM_toList]
          simp only [Sem.run_map, run_fieldSizes (P := P) (w := w') _ _ hns, Result.andThen_ok]
        have h1' : Instr.fill (fun x => (ns.toArray)[x]?) zv.cells (parts.map fun p => (p.1, ρ p.2)).toList = some arr' := by simpa using h1
        simp only [execOp, ho, Instr.build, zeroValue, typeInfo, Sem.run_bind, run_program, hi, Result.andThen_ok, Sem.run_pure, hzero, run_underlying hu, hm]
        simp only [h1', Sem.run_pure, Result.andThen_ok]
      · cases h
    · rename_i z' m el hz hu
      split at h
      · rename_i es hes
        simp only [Option.map_eq_some_iff, Prod.mk.injEq] at h
        obtain ⟨ps', hps, rfl, rfl⟩ := h
        obtain ⟨i, zv, hi, hzero, hvs⟩ := zeroOf_spec hz
        obtain ⟨hl, hp⟩ := resPs_spec _ _ _ hps he
        obtain ⟨hzl, hzf⟩ := vsOf_one hvs hz1 (Own U σ S) w σ
        obtain ⟨arr', h1, h2, h3⟩ := fill_ok (fun i => some (i * es, es)) _ (parts.toList.map fun p => (p.1, ρ p.2)) z' cs zv.cells (by simpa using hzl) (fun j y hy => by simpa using hzf j y hy) (by simp [hl]) hp hf
        refine ⟨.agg arr', h3.agg h2, fun w' o' ho => ?_⟩
        have h1' : Instr.fill (fun i => some (i * es, es)) zv.cells (parts.map fun p => (p.1, ρ p.2)).toList = some arr' := by simpa using h1
        simp only [execOp, ho, Instr.build, zeroValue, typeInfo, Sem.run_bind, run_program, hi, Result.andThen_ok, Sem.run_pure, hzero, run_underlying hu, run_sizeOf' hes]
        simp only [h1', Sem.run_pure, Result.andThen_ok]
      · cases h
    · cases h
  · cases h
end
end Go.Sk
