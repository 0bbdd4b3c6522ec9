/- Sk, part F: operations that make memory or write it. -/
import Derived.Test.YtmhapcbjjpadnaaGreatSkE
set_option linter.unusedSimpArgs false
set_option linter.unusedVariables false
set_option linter.unusedSectionVars false
namespace Go.Sk
open Go Go.RowKit
variable [Tab]

/-- Cells written from a place on. -/
def spl : List V → Nat → List V → List V
  | l, _, [] => l
  | l, c, v :: r => spl (l.set c v) (c + 1) r

theorem length_spl : ∀ (cs l : List V) (c : Nat), (spl l c cs).length = l.length
  | [], _, _ => rfl
  | v :: r, l, c => by simp only [spl, length_spl r, List.length_set]

theorem get_spl : ∀ (cs l : List V) (c : Nat), c + cs.length ≤ l.length → ∀ j, (spl l c cs)[j]? = if c ≤ j ∧ j < c + cs.length then cs[j - c]? else l[j]?
  | [], l, c, _, j => by simp [spl]; omega
  | v :: r, l, c, h, j => by
    simp only [List.length_cons] at h
    simp only [spl, List.length_cons]
    rw [get_spl r (l.set c v) (c + 1) (by simp; omega) j]
    by_cases h1 : j = c
    · subst h1
      rw [if_neg (by omega), if_pos (by omega), List.getElem?_set_self (by omega)]
      simp
    · by_cases h2 : c ≤ j ∧ j < c + (r.length + 1)
      · rw [if_pos (by omega), if_pos h2, show j - c = (j - (c + 1)) + 1 by omega, List.getElem?_cons_succ]
      · rw [if_neg (by omega), if_neg h2, List.getElem?_set_ne (by omega)]

def putCells (es : Nat) (l : List V) (c : Nat) (cs : List V) : List V := if c = 0 ∧ cs.length = es then cs else spl l c cs

theorem putCells_eq {es : Nat} {l : List V} {c : Nat} {cs : List V} (hl : l.length = es) (h : c + cs.length ≤ es) : (putCells es l c cs).length = es ∧ ∀ j, (putCells es l c cs)[j]? = if c ≤ j ∧ j < c + cs.length then cs[j - c]? else l[j]? := by
  unfold putCells
  split
  · rename_i h0
    obtain ⟨rfl, hc⟩ := h0
    refine ⟨hc, fun j => ?_⟩
    by_cases hj : j < cs.length
    · rw [if_pos (by omega)]; simp
    · rw [if_neg (by omega), List.getElem?_eq_none (by omega), List.getElem?_eq_none (by omega)]
  · exact ⟨by rw [length_spl, hl], get_spl cs l c (by omega)⟩

/-- Rows with some set. -/
def rowsSet (es : Nat) (rows : List (List V)) : List (Nat × V) → Option (List (List V))
  | [] => some rows
  | (i, x) :: r => match x.cells? with
    | some cs => if cs.length = es ∧ i < rows.length ∧ cs.all flatV = true then rowsSet es (rows.set i cs) r else none
    | none => none

theorem flatten_len {es : Nat} : ∀ {rows : List (List V)}, (∀ x ∈ rows, x.length = es) → rows.flatten.length = rows.length * es
  | [], _ => by simp
  | x :: r, h => by
    simp only [List.flatten_cons, List.length_append, List.length_cons, Nat.add_mul, Nat.one_mul]
    rw [flatten_len fun y hy => h y (List.mem_cons_of_mem _ hy), h x (by simp)]
    omega

theorem flatten_get {es : Nat} : ∀ {rows : List (List V)}, (∀ x ∈ rows, x.length = es) → ∀ (i : Nat) (x : List V) (c : Nat) (y : V), rows[i]? = some x → x[c]? = some y → rows.flatten[i * es + c]? = some y
  | [], _, i, x, c, y, hx, _ => by simp at hx
  | r :: rows, h, i, x, c, y, hx, hy => by
    have hr : r.length = es := h r (by simp)
    cases i with
    | zero =>
      simp only [List.getElem?_cons_zero, Option.some.injEq] at hx
      subst hx
      obtain ⟨hc, -⟩ := List.getElem?_eq_some_iff.1 hy
      simp only [List.flatten_cons, Nat.zero_mul, Nat.zero_add]
      rw [List.getElem?_append_left hc]
      exact hy
    | succ i =>
      simp only [List.getElem?_cons_succ] at hx
      simp only [List.flatten_cons]
      rw [List.getElem?_append_right (by rw [hr, Nat.add_mul]; omega), hr]
      have := flatten_get (fun z hz => h z (List.mem_cons_of_mem _ hz)) i x c y hx hy
      rw [show (i + 1) * es + c - es = i * es + c by rw [Nat.add_mul]; omega]
      exact this

theorem flatten_set {es : Nat} : ∀ {rows : List (List V)}, (∀ x ∈ rows, x.length = es) → ∀ (i : Nat) (cs : List V), i < rows.length → cs.length = es → (rows.set i cs).flatten = rows.flatten.take (i * es) ++ cs ++ rows.flatten.drop (i * es + es)
  | [], _, i, cs, hi, _ => by simp at hi
  | r :: rows, h, i, cs, hi, hc => by
    have hr : r.length = es := h r (by simp)
    cases i with
    | zero => simp [hr]
    | succ i =>
      simp only [List.set_cons_succ, List.flatten_cons]
      rw [flatten_set (fun z hz => h z (List.mem_cons_of_mem _ hz)) i cs (by simpa using hi) hc]
      rw [List.take_append, List.drop_append, hr]
      have e1 : (i + 1) * es - es = i * es := by rw [Nat.add_mul]; omega
      have e2 : (i + 1) * es + es - es = i * es + es := by rw [Nat.add_mul]; omega
      rw [e1, e2, List.take_of_length_le (l := r) (by rw [hr, Nat.add_mul]; omega), List.drop_eq_nil_of_le (as := r) (by rw [hr, Nat.add_mul]; omega)]
      simp

/-- What flat cells say needs no object. -/
theorem cells_flat {O : Nat → Prop} {w : World} {σ : Sg} {x : V} {v : Value} {cs : List V} (h : VR O w σ x v) (hc : x.cells? = some cs) (h1 : cs.all flatV = true) : VR O w (fun _ => none) x v := by
  have key : ∀ y ∈ cs, flatV y = true := List.all_eq_true.1 h1
  by_cases ha : ∃ cs', x = .agg cs'
  · obtain ⟨cs', rfl⟩ := ha
    simp only [V.cells?, Option.some.injEq] at hc
    subst hc
    cases h with
    | agg hn h => exact .agg hn fun i y u hy hu => flatV_lift (h i y u hy hu) (key y (List.mem_of_getElem? hy))
  · unfold V.cells? at hc
    split at hc
    · exact absurd ⟨_, rfl⟩ ha
    · split at hc
      · obtain rfl := Option.some.inj hc
        exact flatV_lift h (key x (by simp))
      · cases hc

theorem all_flat_one {cs : List V} (h : cs.all flatV = true) : cs.all oneV = true := List.all_eq_true.2 fun y hy => flatV_oneV (List.all_eq_true.1 h y hy)

theorem rowsSet_ok {O : Nat → Prop} {w : World} {σ : Sg} {es : Nat} : ∀ (ps : List (Nat × V)) (vs : List (Nat × Value)) (rows rows' : List (List V)) (arr : Array Value), (∀ x ∈ rows, x.length = es) →
    arr.size = rows.length * es → FlatR O w (fun _ => none) rows.flatten arr → ps.length = vs.length → (∀ (i : Nat) p v, ps[i]? = some p → vs[i]? = some v → v.1 = p.1 ∧ VR O w σ p.2 v.2) → rowsSet es rows ps = some rows' →
    (∀ x ∈ rows', x.length = es) ∧ rows'.length = rows.length ∧ ∃ arr', Instr.fill (fun i => some (i * es, es)) arr vs = some arr' ∧ arr'.size = rows'.length * es ∧ FlatR O w (fun _ => none) rows'.flatten arr' := by
  intro ps
  induction ps with
  | nil =>
    intro vs rows rows' arr hes hs hf hl hp h
    cases vs with
    | nil => simp only [rowsSet, Option.some.injEq] at h; subst h; exact ⟨hes, rfl, arr, rfl, hs, hf⟩
    | cons _ _ => simp at hl
  | cons p r ih =>
    intro vs rows rows' arr hes hs hf hl hp h
    cases vs with
    | nil => simp at hl
    | cons v vr =>
      obtain ⟨i, x⟩ := p
      obtain ⟨i', v⟩ := v
      obtain ⟨rfl, hv⟩ := hp 0 _ _ rfl rfl
      simp only at hv
      simp only [rowsSet] at h
      split at h
      · rename_i xc hxc
        split at h
        · rename_i hc
          obtain ⟨hlen, hle, hflat⟩ := hc
          have hv0 := cells_flat hv hxc hflat
          have hmul : i' * es + es ≤ rows.length * es := by
            have := Nat.mul_le_mul_right es (show i' + 1 ≤ rows.length by omega)
            rw [Nat.add_mul, Nat.one_mul] at this; exact this
          have hone := fill_ok (fun i => some (i * es, es)) [(i' * es, es, x)] [(i', v)] rows.flatten ((rows.set i' xc).flatten) arr (by rw [hs, flatten_len hes]) hf rfl (fun j p u hp hu => by
              cases j with
              | zero => simp only [List.getElem?_cons_zero, Option.some.injEq] at hp hu; subst hp hu; exact ⟨rfl, hv0⟩
              | succ j => simp at hp) (by
              simp only [fillV, hxc]
              rw [if_pos ⟨hlen, by rw [flatten_len hes]; exact hmul, all_flat_one hflat⟩, flatten_set hes i' xc hle hlen])
          obtain ⟨arr1, h1, h2, h3⟩ := hone
          have hes' : ∀ y ∈ rows.set i' xc, y.length = es := fun y hy => by
            rcases List.mem_or_eq_of_mem_set hy with h | h
            · exact hes y h
            · rw [h]; exact hlen
          obtain ⟨a1, a2, arr', a3, a4, a5⟩ := ih vr (rows.set i' xc) rows' arr1 hes' (by rw [h2, flatten_len hes']) h3 (by simpa using hl) (fun i p v hp' hv' => hp (i + 1) p v (by simpa using hp') (by simpa using hv')) h
          refine ⟨a1, by rw [a2, List.length_set], arr', ?_, a4, a5⟩
          simp only [Instr.fill] at h1 ⊢
          split at h1
          · cases h1
          · rename_i hcond
            rw [if_neg hcond]
            obtain rfl := Option.some.inj h1
            exact a3
        · cases h
      · cases h

/-- The elements that a slice has. -/
def srcV0 (S : Store) : V → Option (Nat × Nat × List (List V))
  | .lst es _ xs => some (es, xs.length, xs)
  | .sl k off len => match S.get k with
    | some (.row es xs) => some (es, len, (xs.drop off).take len)
    | _ => none
  | .val (.slice _ 0 _) => some (0, 0, [])
  | _ => none
def srcV (S : Store) (x : V) : Option (Nat × Nat × List (List V)) := srcV0 S (unk x)

/-- Operations that make memory or write it. -/
def resW (P : Program) : Op → Option I
  | .alloc t => match zeroOf P t with
    | some z => if z.all oneV = true then some (.alloc z) else none
    | none => none
  | .box _ x => (resA x).map .box
  | .store t a x => match tySize P t, resA a, resA x with
    | some m, some a, some x => some (.st m a x)
    | _, _, _ => none
  | .buildSlice t m parts => match P.underlying t with
    | some (.slice el) => match tySize P el, zeroOf P el, resPs (fun i => some (i, 0)) parts.toList with
      | some es, some z, some ps => if m * es ≤ 16777216 ∧ z.length = es ∧ 0 < es ∧ z.all flatV = true then some (.bslice es z m (ps.map fun p => (p.1, p.2.2))) else none
      | _, _, _ => none
    | _ => none
  | .makeSlice t l c => match P.underlying t, resA l, resA c with
    | some (.slice el), some l, some c => match P.info? el, zeroOf P el with
      | some i, some z => if z.length = i.size ∧ 0 < i.size ∧ z.all flatV = true then some (.mk i.size i.bytes z l c) else none
      | _, _ => none
    | _, _, _ => none
  | .makeMap t none => match P.underlying t with
    | some (.map kt _) => match P.underlying kt with
      | some (.struct _) => some (.mkmap 2)
      | _ => some (.mkmap 1)
    | _ => none
  | .slice t x none hi none => match P.underlying t, resA x with
    | some (.array n el), some x => match tySize P el, hi with
      | some 1, none => some (.aslc n x none)
      | some 1, some h => (resA h).map fun h => .aslc n x (some h)
      | _, _ => none
    | _, _ => none
  | .convert s d x => match P.underlying s, P.underlying d, resA x with
    | some .string, some (.slice e), some x => match P.underlying e with
      | some (.int .u8) => some (.s2b x)
      | _ => none
    | _, _, _ => none
  | .mapUpdate t m k x => match P.underlying t, resA m, resA k, resA x with
    | some (.map kt _), some m, some k, some x => match P.underlying kt with
      | some (.int .i64) => some (.mput m k x)
      | some (.struct fs) => if pairT P kt fs = true then some (.mputp m k x) else none
      | _ => none
    | _, _, _, _ => none
  | .call { callee := .builtin .append, args, argTypes } => match args.toList, argTypes.toList with
    | [x, y], [t, u] => match P.underlying t, P.underlying u, resA x, resA y with
      | some (.slice el), some (.slice _), some x, some y => match P.info? el, zeroOf P el with
        | some i, some z => if z.length = i.size ∧ 0 < i.size then some (.app i.size i.bytes x y) else none
        | _, _ => none
      | _, _, _, _ => none
    | _, _ => none
  | .call { callee := .builtin .clear, args, argTypes } => match args.toList, argTypes.toList with
    | [x], [t] => match P.underlying t, resA x with
      | some (.slice el), some x => match tySize P el, zeroOf P el with
        | some es, some z => if z.length = es ∧ 0 < es ∧ z.all flatV = true then some (.clr es z x) else none
        | _, _ => none
      | _, _ => none
    | _, _ => none
  | .call { callee := .builtin .copy, args, argTypes } => match args.toList, argTypes.toList with
    | [x, y], [t, u] => match P.underlying t, P.underlying u, resA x, resA y with
      | some (.slice el), some (.slice _), some x, some y => match tySize P el with
        | some es => if 0 < es then some (.cpy es x y) else none
        | none => none
      | some (.slice el), some .string, some x, some y => match tySize P el with
        | some 1 => some (.cpys x y)
        | _ => none
      | _, _, _, _ => none
    | _, _ => none
  | _ => none

def wrK (S : Store) (n : Nat) (i : I) (e : A → V) (K : V → Store → Nat → Prop) : Prop :=
  match i with
  | .alloc z => K (.ptr n 0 0) (S.set n (.box z)) (n + 1)
  | .box x => match (e x).cells? with
    | some cs => cs.all oneV = true ∧ K (.ptr n 0 0) (S.set n (.box cs)) (n + 1)
    | none => False
  | .st m x y => match e x, (e y).cells? with
    | .ptr k i c, some cs => match S.get k with
      | some (.row es xs) => i < xs.length ∧ c + m ≤ es ∧ cs.length = m ∧ cs.all flatV = true ∧ K .any (S.set k (.row es (xs.set i (putCells es (xs.getD i []) c cs)))) n
      | some (.box bs) => i = 0 ∧ c + m ≤ bs.length ∧ cs.length = m ∧ cs.all oneV = true ∧ K .any (S.set k (.box (putCells bs.length bs c cs))) n
      | _ => False
    | _, _ => False
  | .s2b x => match e x with
    | .str s => s.size ≤ 9223372036854775807 ∧ K (.lst 1 false (rowsB s.data.toList)) S n
    | _ => False
  | .aslc len x hi => match e x with
    | .ptr k 0 0 => match S.get k with
      | some (.box cs) => match (match hi with | none => V.int .i64 (len : Int) | some h => e h) with
        | .int _ h => (cs.length = len ∧ cs.all flatV = true ∧ 0 ≤ h ∧ h ≤ (len : Int)) ∧ K (.lst 1 false ((cs.take h.toNat).map fun c => [c])) (S.del k) n
        | _ => False
      | _ => False
    | _ => False
  | .cpys x y => match e y, unk (e x) with
    | .str s, .sl k off len => match S.get k with
      | some (.row 1 xs) => off + len ≤ xs.length ∧
          K (.int .i64 (min s.size len : Nat)) (S.set k (.row 1 (xs.take off ++ (rowsB s.data.toList).take (min s.size len) ++ xs.drop (off + min s.size len)))) n
      | _ => False
    | _, _ => False
  | .mkmap ks => K (.mp n) (S.set n (.mp (ks, []))) (n + 1)
  | .mput x i y => match e x, e i with
    | .mp k, .int .i64 j => match S.get k with
      | some (.mp (1, xs)) => flatV (e y) = true ∧ K .any (S.set k (.mp (1, msetV xs [j] (e y)))) n
      | _ => False
    | _, _ => False
  | .mputp x i y => match e x, e i with
    | .mp k, .agg [.int .i64 a, .int .i64 b] => match S.get k with
      | some (.mp (2, xs)) => flatV (e y) = true ∧ K .any (S.set k (.mp (2, msetV xs [a, b] (e y)))) n
      | _ => False
    | _, _ => False
  | .bslice es z m ps => match rowsSet es (List.replicate m z) (ps.map fun p => (p.1, e p.2)) with
    | some rows => K (.sl n 0 m) (S.set n (.row es rows)) (n + 1)
    | none => False
  | .mk es bytes z l c => match e l, e c with
    | .int _ l, .int _ c => 0 ≤ l ∧ l ≤ c ∧ (bytes : Int) * c ≤ 281474976710656 ∧ c ≤ 9223372036854775807 ∧ K (.slk n 0 l.toNat c.toNat) (S.set n (.row es (List.replicate l.toNat z))) (n + 1)
    | _, _ => False
  | .app es bytes x y => match srcV S (e y) with
    | some (es', len', ys) => (es' = es ∨ ys = []) ∧ ys.length = len' ∧ match unk (e x) with
      | .lst _ true [] => (ys.length : Int) ≤ 9223372036854775807 ∧ ys.length * bytes ≤ 140737488355328 ∧ K (.sl n 0 ys.length) (S.set n (.row es ys)) (n + 1)
      | .sl k off len => match S.get k with
        | some (.row es2 xs) => es2 = es ∧ off = 0 ∧ len = xs.length ∧ ((xs.length + ys.length : Nat) : Int) ≤ 9223372036854775807 ∧ (xs.length + ys.length) * bytes ≤ 140737488355328 ∧
            K (.sl n 0 (xs.length + ys.length)) ((S.del k).set n (.row es (xs ++ ys))) (n + 1)
        | _ => False
      | .slx k off len => match S.get k with
        | some (.row es2 xs) => es2 = es ∧ off = 0 ∧ len ≤ xs.length ∧ ((len + ys.length : Nat) : Int) ≤ 9223372036854775807 ∧ (len + ys.length) * bytes ≤ 140737488355328 ∧
            K (.sl n 0 (len + ys.length)) ((S.del k).set n (.row es (xs.take len ++ ys))) (n + 1)
        | _ => False
      | _ => False
    | none => False
  | .clr es z x => match unk (e x) with
    | .sl k off len => match S.get k with
      | some (.row es2 xs) => es2 = es ∧ off + len ≤ xs.length ∧ K (.tup []) (S.set k (.row es (xs.take off ++ List.replicate len z ++ xs.drop (off + len)))) n
      | _ => False
    | _ => False
  | .cpy es x y => match srcV S (e y), unk (e x) with
    | some (es', len', ys), .sl k off len => match S.get k with
      | some (.row es2 xs) => (es' = es ∨ ys = []) ∧ ys.length = len' ∧ es2 = es ∧ off + len ≤ xs.length ∧
          K (.int .i64 (min ys.length len : Nat)) (S.set k (.row es (xs.take off ++ ys.take (min ys.length len) ++ xs.drop (off + min ys.length len)))) n
      | _ => False
    | _, _ => False
  | _ => False

/-- What is to be shown of an operation that writes. -/
def WrOk (P : Program) (U : Nat → Prop) (σ : Sg) (S : Store) (w : World) (n m : Nat) (ρ : Operand → Value) (o : Op) (K : V → Store → Nat → Prop) : Prop :=
  ∃ v S' n', K v S' n' ∧ ∀ (o' : Oper), o'.op = o → ∃ nx cv w' σ', (execOp ρ o').run P w = .ok nx w' ∧ (nx = .value cv ∨ (nx = .skip ∧ cv = undef)) ∧ (∀ k, k ≠ m → σ' k = σ k) ∧ Grow σ S w n σ' S' w' (max n n') ∧ RelS U σ' S' w' (max n n') ∧ VR (Own U σ' S') w' σ' v cv

section
variable {P : Program} {U : Nat → Prop} {σ : Sg} {S : Store} {w : World} {n m : Nat} {ρ : Operand → Value} {e : A → V} {K : V → Store → Nat → Prop}

theorem wr_alloc {t : TypeId} {z : List V} (hz : zeroOf P t = some z) (h1 : z.all oneV = true) (hR : RelS U σ S w n) (hfree : S.get m = none ∧ σ m = none) (hK : wrK S m (.alloc z) e K) : WrOk P U σ S w n m ρ (.alloc t) K := by
  obtain ⟨i, zv, hi, hzero, hvs⟩ := zeroOf_spec hz
  obtain ⟨hl, hf⟩ := vsOf_one hvs h1 (Own U σ S) w σ
  obtain ⟨g, r⟩ := hR.new_box hfree (More.alloc w zv.cells t) (cs := z) (by simpa using hl) (fun i y hy => by simpa using hf i y hy)
  refine ⟨_, _, _, hK, fun o' ho => ⟨_, .pointer (some ⟨w.heap.size, 0, none⟩), _, _, ?_, .inl rfl, (by intro k hk; first | rfl | exact Sg.put_other _ _ hk), g, r, ?_⟩⟩
  · simp [execOp, ho, Instr.alloc, zeroValue, typeInfo, hi, hzero, newVar, newRow]
  · have := VR.ptr (O := Own U (σ.put m (some w.heap.size, z.length, 1)) (S.set m (.box z))) (w := w.alloc (.cells zv.cells t)) (i := 0) (c := 0) (Sg.put_same σ m (some w.heap.size, z.length, 1))
    simpa using this

theorem wr_box {t : TypeId} {x : Operand} {a : A} (hx : VR (Own U σ S) w σ (e a) (ρ x)) (hR : RelS U σ S w n) (hfree : S.get m = none ∧ σ m = none) (hK : wrK S m (.box a) e K) : WrOk P U σ S w n m ρ (.box t x) K := by
  simp only [wrK] at hK
  split at hK
  · rename_i cs hcs
    obtain ⟨h1, hK⟩ := hK
    obtain ⟨hl, hf⟩ := cells_VR hx hcs h1
    obtain ⟨g, r⟩ := hR.new_box hfree (More.alloc w (ρ x).cells t) (cs := cs) hl hf
    refine ⟨_, _, _, hK, fun o' ho => ⟨_, .pointer (some ⟨w.heap.size, 0, none⟩), _, _, ?_, .inl rfl, (by intro k hk; first | rfl | exact Sg.put_other _ _ hk), g, r, ?_⟩⟩
    · simp [execOp, ho, Instr.box, newVar, newRow]
    · have := VR.ptr (O := Own U (σ.put m (some w.heap.size, cs.length, 1)) (S.set m (.box cs))) (w := w.alloc (.cells (ρ x).cells t)) (i := 0) (c := 0) (Sg.put_same σ m (some w.heap.size, cs.length, 1))
      simpa using this
  · cases hK

theorem wr_mkmap {t : TypeId} {ks : Nat} (hR : RelS U σ S w n) (hfree : S.get m = none ∧ σ m = none) (hK : wrK S m (.mkmap ks) e K) : WrOk P U σ S w n m ρ (.makeMap t none) K := by
  obtain ⟨g, r⟩ := hR.new_map ks hfree
  exact ⟨_, _, _, hK, fun o' ho => ⟨_, .map (some w.heap.size), _, _, (by simp only [execOp, ho, Option.map_none, Sem.run_bind, run_makeMap, Result.andThen_ok]; rfl), .inl rfl, (by intro k hk; first | rfl | exact Sg.put_other _ _ hk), g, r, .mp (Sg.put_same σ m _)⟩⟩

theorem wr_mputL {t kt el : TypeId} {x i y : Operand} {c : A} {key : List Int} {k : Nat} {xs : List (List Int × V)} {vx : Value} (ht : P.underlying t = some (.map kt el)) (hL : KeyLaw P kt key) (hvx : ρ x = vx) (hx : VR (Own U σ S) w σ (.mp k) vx) (hi : ρ i = kyV key) (hy : VR (Own U σ S) w σ (e c) (ρ y))
    (hR : RelS U σ S w n) (hmn : m ≤ n) (ho : S.get k = some (.mp (key.length, xs))) (hfl : flatV (e c) = true) {K : V → Store → Nat → Prop} (hK : K .any (S.set k (.mp (key.length, msetV xs key (e c)))) m) : WrOk P U σ S w n m ρ (.mapUpdate t x i y) K := by
  have hmx : max n m = n := by omega
  cases hx with
  | @mp _ k bl es0 cap hs =>
    have hob := hR.obj k _ ho
    rw [hs] at hob
    obtain ⟨b', hl, es, ck, hh, hsz, hent⟩ := hob
    simp only [Option.some.injEq, Prod.mk.injEq] at hl
    obtain ⟨rfl, rfl, rfl⟩ := hl
    have hbl : bl < w.heap.size := (Array.getElem?_eq_some_iff.1 hh).1
    have hyf := flatV_lift hy hfl
    have keyr : ∃ es' ck', (Instr.mapUpdate t (.map (some bl)) (kyV key) (ρ y)).run P w = .ok () { w with heap := w.heap.setIfInBounds bl (.map es' ck') } ∧ es'.size = (msetV xs key (e c)).length ∧
        ∀ (i : Nat) (p : List Int × V), (msetV xs key (e c))[i]? = some p → ∃ en, es'[i]? = some en ∧ (p.1.length = key.length ∧ en.key = kyV p.1) ∧ VR (Own U σ S) w (fun _ => none) p.2 en.val := by
      rcases hL.find (Own U σ S) w .any es.toList xs (by simpa using hsz) (fun i p hp => by simpa using hent i p hp) with ⟨q1, -, -, q4⟩ | ⟨idx, val, q1, -, -, q4, q5, q6⟩
      · refine ⟨es.push { key := kyV key, val := ρ y, born := ck }, ck + 1, ?_, by rw [q4]; simp [hsz], fun i p hp => ?_⟩
        · unfold Instr.mapUpdate
          simp only [Sem.run_bind, run_underlying ht, Result.andThen_ok, MapKept.run_getObj_map hh, Sem.run_pure, hL.chk, q1, MapKept.run_setObj_map _ hh]
        · rw [q4, List.getElem?_append] at hp
          split at hp
          · rename_i hlt
            obtain ⟨en, h1, h2, h3⟩ := hent i p hp
            exact ⟨en, by rw [Array.getElem?_push, if_neg (by dsimp only at hsz; omega)]; exact h1, h2, h3⟩
          · rename_i hlt
            have hi0 : i = xs.length := by
              have := (List.getElem?_eq_some_iff.1 hp).1
              simp at this; omega
            subst hi0
            simp only [Nat.sub_self, List.getElem?_cons_zero, Option.some.injEq] at hp
            subst hp
            exact ⟨_, by rw [Array.getElem?_push, if_pos hsz.symm], ⟨rfl, rfl⟩, hyf⟩
      · obtain ⟨en0, e1, ⟨-, e2⟩, -⟩ := hent idx xs[idx] (List.getElem?_eq_getElem q4)
        have hkey : en0.key = kyV key := by rw [e2, q5 _ (List.getElem?_eq_getElem q4)]
        refine ⟨es.modify idx fun en => { en with key := kyV key, val := ρ y }, ck, ?_, by rw [q6]; simp [hsz], fun i p hp => ?_⟩
        · unfold Instr.mapUpdate
          simp only [Sem.run_bind, run_underlying ht, Result.andThen_ok, MapKept.run_getObj_map hh, Sem.run_pure, hL.chk, q1]
          rw [e1]
          simp only [Option.map_some, Option.getD_some, hkey, hL.stay, Result.andThen_ok, MapKept.run_setObj_map _ hh]
        · rw [q6, List.getElem?_set] at hp
          rw [Array.getElem?_modify]
          split at hp
          · rename_i hii
            subst hii
            simp only [q4, if_true, Option.some.injEq] at hp
            subst hp
            rw [if_pos rfl, e1]
            exact ⟨_, rfl, ⟨rfl, rfl⟩, hyf⟩
          · rename_i hii
            rw [if_neg hii]
            exact hent i p hp
    obtain ⟨es', ck', hrun, hsz', hent'⟩ := keyr
    obtain ⟨hset1, hset2⟩ := MapKept.heap_set (o' := .map es' ck') hh
    obtain ⟨g, r⟩ := hR.write (o := .mp (key.length, msetV xs key (e c))) ho hs (w' := { w with heap := w.heap.setIfInBounds bl (.map es' ck') }) rfl rfl rfl (by simp) (fun j hj => hset2 j hj) (fun g =>
      ⟨bl, rfl, es', ck', hset1, hsz', fun i p hp => by
        obtain ⟨en, h1, h2, h3⟩ := hent' i p hp
        exact ⟨en, h1, h2, h3.mono (g.keepU U) (g.ownU U) fun _ _ => rfl⟩⟩)
    exact ⟨_, _, _, hK, fun o' ho' => ⟨_, undef, _, σ, by simp only [execOp, ho', hvx, hi, Sem.run_bind, hrun, Result.andThen_ok]; rfl, .inr ⟨rfl, rfl⟩, fun _ _ => rfl, by rw [hmx]; exact g, by rw [hmx]; exact r, .any _⟩⟩
theorem wr_mput {t kt el : TypeId} {x i y : Operand} {a b c : A} (ht : P.underlying t = some (.map kt el)) (hk : P.underlying kt = some (.int .i64)) (hx : VR (Own U σ S) w σ (e a) (ρ x)) (hi : VR (Own U σ S) w σ (e b) (ρ i)) (hy : VR (Own U σ S) w σ (e c) (ρ y))
    (hR : RelS U σ S w n) (hmn : m ≤ n) (hK : wrK S m (.mput a b c) e K) : WrOk P U σ S w n m ρ (.mapUpdate t x i y) K := by
  simp only [wrK] at hK
  split at hK
  · rename_i k j hea heb
    rw [hea] at hx
    rw [heb] at hi
    split at hK
    · rename_i xs ho
      refine wr_mputL ht (KeyLaw.int hk j) rfl hx ?_ hy hR hmn ho hK.1 hK.2
      generalize ρ i = vi at hi
      cases hi; rfl
    · cases hK
  · cases hK
theorem wr_mputp {t kt el : TypeId} {fs : Array Field} {x i y : Operand} {a b c : A} (ht : P.underlying t = some (.map kt el)) (hk : P.underlying kt = some (.struct fs)) (hp : pairT P kt fs = true) (hx : VR (Own U σ S) w σ (e a) (ρ x)) (hi : VR (Own U σ S) w σ (e b) (ρ i)) (hy : VR (Own U σ S) w σ (e c) (ρ y))
    (hR : RelS U σ S w n) (hmn : m ≤ n) (hK : wrK S m (.mputp a b c) e K) : WrOk P U σ S w n m ρ (.mapUpdate t x i y) K := by
  simp only [wrK] at hK
  split at hK
  · rename_i k p q hea heb
    rw [hea] at hx
    rw [heb] at hi
    split at hK
    · rename_i xs ho
      exact wr_mputL ht (KeyLaw.pair hk hp p q) rfl hx (pair_of hi) hy hR hmn ho hK.1 hK.2
    · cases hK
  · cases hK

theorem run_storeCells_fr (g o : Nat) (t : TypeId) (fr : Nat × Nat) : ∀ (vs : List Value) (i : Nat) (cur : Array Value) (w : World), w.heap[g]? = some (.cells cur t fr) → (∀ j, j < cur.size → ¬ (fr.1 ≤ j ∧ j < fr.2)) → o + i + vs.length ≤ cur.size → (∀ v ∈ vs, v.oneCell' = true) →
    (storeCells ⟨g, o, none⟩ vs i).run P w = .ok () (w.setRow g (cur.toList.take (o + i) ++ vs ++ cur.toList.drop (o + i + vs.length)).toArray)
  | [], i, cur, w, hg, _, _, _ => by
    simp only [storeCells, List.append_nil, List.length_nil, Nat.add_zero, List.take_append_drop, Array.toArray_toList]
    rw [setRow_self w g cur t fr hg]
    rfl
  | v :: rest, i, cur, w, hg, hfr, hl, h1 => by
    have hi : o + i < cur.size := by simp at hl; omega
    have hadd : (⟨g, o, none⟩ : Addr).add i = ⟨g, o + i, none⟩ := by unfold Addr.add; split <;> simp_all
    have hcell : w.cell? ⟨g, o + i, none⟩ = some cur[o + i] := by simp [World.cell?, hg, hi]
    have hfro : w.frozen? ⟨g, o + i, none⟩ = false := by
      have := hfr (o + i) hi
      simp only [World.frozen?, hg]
      simp only [Bool.and_eq_false_iff, decide_eq_false_iff_not]
      by_cases h : fr.1 ≤ o + i
      · exact .inr fun h2 => this ⟨h, h2⟩
      · exact .inl h
    have hst : (store ((⟨g, o, none⟩ : Addr).add i) v).run P w = .ok () (w.setRow g (cur.setIfInBounds (o + i) v)) := by
      rw [hadd, run_store P w _ v _ (h1 v (by simp)), hcell]
      simp [hfro, setCell_eq_setRow w g (o + i) cur t fr v hg]
    have ih := run_storeCells_fr g o t fr rest (i + 1) (cur.setIfInBounds (o + i) v) (w.setRow g (cur.setIfInBounds (o + i) v)) (setRow_heap w g cur _ t _ hg) (fun j hj => hfr j (by simpa using hj)) (by simp at hl ⊢; omega) (fun x hx => h1 x (by simp [hx]))
    simp only [storeCells, Sem.run_bind, hst, Result.andThen_ok, ih, setRow_setRow]
    congr 3
    have e := list_seg_step cur.toList (o + i) v rest (by simp at hl ⊢; omega)
    simpa [Array.toList_setIfInBounds, Nat.add_assoc] using e

theorem mkF_out (b : Bool) (n j : Nat) (h : j < n) : ¬ ((mkF b n).1 ≤ j ∧ j < (mkF b n).2) := fun h => Nat.not_lt_zero _ h.2

theorem storeCells_list {g o : Nat} {ty : TypeId} {fr : Nat × Nat} {cur : Array Value} (vs : Array Value) (hg : w.heap[g]? = some (.cells cur ty fr)) (hfr : ∀ j, j < cur.size → ¬ (fr.1 ≤ j ∧ j < fr.2)) (hle : o + vs.size ≤ cur.size) (h1 : ∀ v ∈ vs.toList, v.oneCell' = true) :
    ∃ arr', (storeCells ⟨g, o, none⟩ vs.toList).run P w = .ok () (w.setRow g arr') ∧ arr'.size = cur.size ∧ ∀ j, arr'[j]? = if o ≤ j ∧ j < o + vs.size then vs[j - o]? else cur[j]? := by
  have := run_storeCells_fr (P := P) g o ty fr vs.toList 0 cur w hg hfr (by simpa using hle) h1
  refine ⟨_, this, by simp; omega, fun j => ?_⟩
  simp only [Nat.add_zero, List.getElem?_toArray, Array.length_toList]
  rw [List.append_assoc, List.getElem?_append, List.length_take, List.getElem?_append, List.getElem?_take, List.getElem?_drop]
  have : min o cur.toList.length = o := by simp; omega
  rw [this]
  simp only [Array.length_toList, Array.getElem?_toList]
  by_cases hj1 : j < o
  · rw [if_pos hj1, if_pos hj1, if_neg (by omega)]
  · rw [if_neg hj1]
    by_cases hj2 : j < o + vs.size
    · rw [if_pos (by omega), if_pos (by omega)]
    · rw [if_neg (by omega), if_neg (by omega)]
      congr 1; omega

theorem mul_apart {i i' es c c' m : Nat} (hne : i' ≠ i) (h1 : c + m ≤ es) (h2 : c' < es) : ¬ (i * es + c ≤ i' * es + c' ∧ i' * es + c' < i * es + c + m) := by
  rcases Nat.lt_or_gt_of_ne hne with h | h
  · have := Nat.mul_le_mul_right es (show i' + 1 ≤ i by omega)
    rw [Nat.add_mul, Nat.one_mul] at this
    omega
  · have := Nat.mul_le_mul_right es (show i + 1 ≤ i' by omega)
    rw [Nat.add_mul, Nat.one_mul] at this
    omega

theorem wr_store {t : TypeId} {mm : Nat} {x y : Operand} {a b : A} (hm : tySize P t = some mm) (hx : VR (Own U σ S) w σ (e a) (ρ x)) (hy : VR (Own U σ S) w σ (e b) (ρ y)) (hR : RelS U σ S w n)
    (hK : wrK S m (.st mm a b) e K) (hmn : m ≤ n) : WrOk P U σ S w n m ρ (.store t x y) K := by
  have hmx : max n m = n := by omega
  have run : ∀ (bl o : Nat) (w' : World), ρ x = .pointer (some ⟨bl, o, none⟩) → (ρ y).cells.size = mm → (storeCells ⟨bl, o, none⟩ (ρ y).cells.toList).run P w = .ok () w' →
      ∀ (o' : Oper), o'.op = .store t x y → (execOp ρ o').run P w = .ok .skip w' := by
    intro bl o w' h1 h2 h3 o' ho
    simp only [execOp, ho, Instr.storeAt, h1, Instr.sureAddr, storeVar, Sem.run_bind, pure_bind, run_sizeOf' hm, Result.andThen_ok, h2, ne_eq, not_true_eq_false, if_false, h3, Sem.run_pure]
  simp only [wrK] at hK
  split at hK
  · rename_i k i c cs h1 h2
    rw [h1] at hx
    generalize hva : ρ x = va at hx
    cases hx with
    | @ptr _ _ _ _ bl es cap hs =>
      split at hK
      · rename_i es' xs ho
        obtain ⟨hi, hle, hlen, hflat, hK⟩ := hK
        have hob := hR.obj k _ ho
        rw [hs] at hob
        obtain ⟨hes, rfl, hcap, arr, ty, hh, hsz, hcells⟩ := hob
        have hy0 := cells_flat hy h2 hflat
        obtain ⟨hvs, hvc⟩ := cells_VR hy0 h2 (all_flat_one hflat)
        have hxi : (xs.getD i []).length = es := by
          simp only [List.getD_eq_getElem?_getD, List.getElem?_eq_getElem hi, Option.getD_some]
          exact hes _ (List.getElem_mem hi)
        have hmul : i * es + es ≤ cap * es := by
          have := Nat.mul_le_mul_right es (show i + 1 ≤ cap by omega)
          rw [Nat.add_mul, Nat.one_mul] at this; exact this
        obtain ⟨arr', hst, hsz', hget⟩ := storeCells_list (P := P) (o := i * es + c) (ρ y).cells hh (mkF_out _ _) (by omega) (fun v hv => by
          obtain ⟨j, hj, rfl⟩ := List.getElem_of_mem hv
          simp only [Array.length_toList] at hj
          obtain ⟨u, hu1, hu2, -⟩ := hvc j _ (List.getElem?_eq_getElem (by omega : j < cs.length))
          rw [Array.getElem?_eq_getElem hj] at hu1
          obtain rfl := Option.some.inj hu1
          simpa using hu2)
        obtain ⟨hpl, hpg⟩ := putCells_eq (cs := cs) (c := c) hxi (by omega)
        obtain ⟨g, r⟩ := hR.write (o := .row es (xs.set i (putCells es (xs.getD i []) c cs))) ho hs (w' := w.setRow bl arr') rfl rfl rfl (by simp) (fun j hj => setRow_other w bl j arr' hj) (fun g => by
          refine ⟨fun z hz => ?_, rfl, by simpa using hcap, arr', ty, by rw [hsz']; exact setRow_heap w bl arr arr' ty.1 _ hh, by omega, fun i' x c' y hx' hy' => ?_⟩
          · rcases List.mem_or_eq_of_mem_set hz with h | h
            · exact hes z h
            · rw [h]; exact hpl
          · have g0 : ∀ {x v}, VR (Own U σ S) w (fun _ => none) x v → VR (Own U σ (S.set k (.row es (xs.set i (putCells es (xs.getD i []) c cs))))) (w.setRow bl arr') (fun _ => none) x v := fun h => h.mono (g.keepU U) (g.ownU U) fun _ _ => rfl
            rw [hget]
            by_cases hii : i' = i
            · subst hii
              rw [List.getElem?_set_self hi] at hx'
              obtain rfl := Option.some.inj hx'
              rw [hpg] at hy'
              by_cases hc : c ≤ c' ∧ c' < c + cs.length
              · rw [if_pos hc] at hy'
                rw [if_pos (by omega), show i' * es + c' - (i' * es + c) = c' - c by omega]
                obtain ⟨u, q1, q2, q3⟩ := hvc _ _ hy'
                exact ⟨u, q1, q2, g0 q3⟩
              · rw [if_neg hc] at hy'
                rw [if_neg (by omega)]
                simp only [List.getD_eq_getElem?_getD, List.getElem?_eq_getElem hi, Option.getD_some] at hy'
                obtain ⟨u, q1, q2, q3⟩ := hcells i' _ c' y (List.getElem?_eq_getElem hi) hy'
                exact ⟨u, q1, q2, g0 q3⟩
            · rw [List.getElem?_set_ne (Ne.symm hii)] at hx'
              have hc' : c' < es := by
                obtain ⟨h', -⟩ := List.getElem?_eq_some_iff.1 hy'
                rw [hes x (List.mem_of_getElem? hx')] at h'; exact h'
              rw [if_neg (by rw [hvs]; exact mul_apart hii (by omega) hc')]
              obtain ⟨u, q1, q2, q3⟩ := hcells i' x c' y hx' hy'
              exact ⟨u, q1, q2, g0 q3⟩)
        exact ⟨_, _, _, hK, fun o' ho' => ⟨_, undef, _, σ, run bl _ _ hva (by omega) hst o' ho', .inr ⟨rfl, rfl⟩, fun _ _ => rfl, by rw [hmx]; exact g, by rw [hmx]; exact r, .any _⟩⟩
      · rename_i bs ho
        obtain ⟨rfl, hle, hlen, hone, hK⟩ := hK
        have hob := hR.obj k _ ho
        rw [hs] at hob
        obtain ⟨b', hl, arr, ty, hh, hsz, hcells⟩ := hob
        simp only [Option.some.injEq, Prod.mk.injEq] at hl
        obtain ⟨rfl, rfl, rfl⟩ := hl
        obtain ⟨hvs, hvc⟩ := cells_VR hy h2 hone
        obtain ⟨arr', hst, hsz', hget⟩ := storeCells_list (P := P) (o := c) (ρ y).cells hh (fun j _ h => Nat.not_lt_zero _ h.2) (by omega) (fun v hv => by
          obtain ⟨j, hj, rfl⟩ := List.getElem_of_mem hv
          simp only [Array.length_toList] at hj
          obtain ⟨u, hu1, hu2, -⟩ := hvc j _ (List.getElem?_eq_getElem (by omega : j < cs.length))
          rw [Array.getElem?_eq_getElem hj] at hu1
          obtain rfl := Option.some.inj hu1
          simpa using hu2)
        obtain ⟨hpl, hpg⟩ := putCells_eq (l := bs) (cs := cs) (c := c) rfl (by omega)
        obtain ⟨g, r⟩ := hR.write (o := .box (putCells bs.length bs c cs)) ho hs (w' := w.setRow bl arr') rfl rfl rfl (by simp) (fun j hj => setRow_other w bl j arr' hj) (fun g => by
          refine ⟨bl, by rw [hpl], arr', ty, setRow_heap w bl arr arr' ty _ hh, by omega, fun c' y hy' => ?_⟩
          have g0 : ∀ {x v}, VR (Own U σ S) w σ x v → VR (Own U σ (S.set k (.box (putCells bs.length bs c cs)))) (w.setRow bl arr') σ x v := fun h => h.grow g
          rw [hpg] at hy'
          rw [hget]
          by_cases hc : c ≤ c' ∧ c' < c + cs.length
          · rw [if_pos hc] at hy'
            rw [if_pos (by omega)]
            obtain ⟨u, q1, q2, q3⟩ := hvc _ _ hy'
            exact ⟨u, q1, q2, g0 q3⟩
          · rw [if_neg hc] at hy'
            rw [if_neg (by omega)]
            obtain ⟨u, q1, q2, q3⟩ := hcells c' y hy'
            exact ⟨u, q1, q2, g0 q3⟩)
        simp only [Nat.zero_mul, Nat.zero_add] at hva
        exact ⟨_, _, _, hK, fun o' ho' => ⟨_, undef, _, σ, run bl _ _ hva (by omega) hst o' ho', .inr ⟨rfl, rfl⟩, fun _ _ => rfl, by rw [hmx]; exact g, by rw [hmx]; exact r, .any _⟩⟩
      · cases hK
  · cases hK

theorem replicate_flatten_get {es : Nat} {z : List V} (hz : z.length = es) (hpos : 0 < es) : ∀ (m j : Nat), j < m * es → (List.replicate m z).flatten[j]? = z[j % es]?
  | 0, j, h => by simp at h
  | m + 1, j, h => by
    simp only [List.replicate_succ, List.flatten_cons]
    by_cases hj : j < es
    · rw [List.getElem?_append_left (by omega), Nat.mod_eq_of_lt hj]
    · rw [List.getElem?_append_right (by omega), hz, replicate_flatten_get hz hpos m (j - es) (by rw [Nat.add_mul] at h; omega), ← Nat.mod_eq_sub_mod (by omega)]

theorem zero_rows {O : Nat → Prop} {w : World} {el : TypeId} {z : List V} {es : Nat} {zv : Value} (hvs : vsOf zv.cells.toList = some z) (h1 : z.all flatV = true) (hz : z.length = es) (hpos : 0 < es) (m : Nat) :
    FlatR O w (fun _ => none) (List.replicate m z).flatten ((Array.range (m * es)).map (zv.cells[· % zv.cells.size]!)) := by
  obtain ⟨hl, hf⟩ := vsOf_one hvs (all_flat_one h1) O w (fun _ => none)
  have hsz : zv.cells.size = es := by simpa [hz] using hl
  have hall : ∀ x ∈ List.replicate m z, x.length = es := fun x hx => by rw [(List.mem_replicate.1 hx).2]; exact hz
  intro j y hy
  obtain ⟨hj, -⟩ := List.getElem?_eq_some_iff.1 hy
  rw [flatten_len hall, List.length_replicate] at hj
  rw [replicate_flatten_get hz hpos m j hj] at hy
  obtain ⟨u, h1, h2, h3⟩ := hf _ y hy
  have hlt : j % es < zv.cells.size := by rw [hsz]; exact Nat.mod_lt _ hpos
  refine ⟨u, ?_, h2, h3⟩
  simp only [Array.getElem?_toList] at h1
  rw [Array.getElem?_map, Array.getElem?_range, if_pos hj]
  simp only [Option.map_some, hsz]
  rw [getElem!_pos zv.cells (j % es) hlt]
  rw [Array.getElem?_eq_getElem hlt] at h1
  exact h1

theorem resPs_idx : ∀ (l : List (Nat × Operand)) (ps : List (Nat × Nat × A)), resPs (fun i => some (i, 0)) l = some ps → (∀ x a, resA x = some a → VR (Own U σ S) w σ (e a) (ρ x)) →
    ps.length = l.length ∧ ∀ (i : Nat) p v, ((ps.map fun p => (p.1, p.2.2)).map fun p => (p.1, e p.2))[i]? = some p → (l.map fun p => (p.1, ρ p.2))[i]? = some v → v.1 = p.1 ∧ VR (Own U σ S) w σ p.2 v.2 := by
  intro l
  induction l with
  | nil => intro ps h _; simp only [resPs, Option.some.injEq] at h; subst h; simp
  | cons q r ih =>
    intro ps h he
    obtain ⟨i, x⟩ := q
    simp only [resPs] at h
    split at h
    · rename_i off sz a ps' h1 h2 h3
      obtain rfl := Option.some.inj h
      obtain ⟨hl, hp⟩ := ih ps' h3 he
      refine ⟨by simp [hl], fun j p v hp' hv' => ?_⟩
      simp only [Option.some.injEq, Prod.mk.injEq] at h1
      obtain ⟨rfl, rfl⟩ := h1
      cases j with
      | zero =>
        simp only [List.map_cons, List.getElem?_cons_zero, Option.some.injEq] at hp' hv'
        subst hp' hv'
        exact ⟨rfl, he _ _ h2⟩
      | succ j => exact hp j p v (by simpa using hp') (by simpa using hv')
    · cases h

theorem VR.row (σ : Sg) (O : Nat → Prop) (w : World) (m b es cap len : Nat) (hle : len ≤ cap) : VR O w (σ.put m (some b, es, cap)) (.sl m 0 len) (.slice (some ⟨b, 0, none⟩) len cap) := by
  have := VR.sl (O := O) (w := w) (off := 0) (len := len) (a := some ⟨b, 0 * es, none⟩) (Sg.put_same σ m (some b, es, cap)) (by omega) (fun _ => rfl)
  simpa using this

theorem VR.rowk (σ : Sg) (O : Nat → Prop) (w : World) (m b es cap len : Nat) (hle : len ≤ cap) : VR O w (σ.put m (some b, es, cap)) (.slk m 0 len cap) (.slice (some ⟨b, 0, none⟩) len cap) := by
  have := VR.slk (O := O) (w := w) (off := 0) (len := len) (c := cap) (a := some ⟨b, 0 * es, none⟩) (Sg.put_same σ m (some b, es, cap)) (by omega) (fun _ => rfl) rfl
  simpa using this

theorem wr_bslice {t el : TypeId} {mm es : Nat} {z : List V} {parts : Array (Nat × Operand)} {ps : List (Nat × Nat × A)} (ht : P.underlying t = some (.slice el)) (hes : tySize P el = some es) (hz : zeroOf P el = some z)
    (hps : resPs (fun i => some (i, 0)) parts.toList = some ps) (hc : mm * es ≤ 16777216 ∧ z.length = es ∧ 0 < es ∧ z.all flatV = true) (he : ∀ x a, resA x = some a → VR (Own U σ S) w σ (e a) (ρ x)) (hR : RelS U σ S w n) (hfree : S.get m = none ∧ σ m = none)
    (hK : wrK S m (.bslice es z mm (ps.map fun p => (p.1, p.2.2))) e K) : WrOk P U σ S w n m ρ (.buildSlice t mm parts) K := by
  obtain ⟨hc1, hc2, hc3, hc4⟩ := hc
  obtain ⟨i, zv, hi, hzero, hvs⟩ := zeroOf_spec hz
  have hall : ∀ x ∈ List.replicate mm z, x.length = es := fun x hx => by rw [(List.mem_replicate.1 hx).2]; exact hc2
  have hrep := zero_rows (O := Own U σ S) (w := w) (el := el) hvs hc4 hc2 hc3 mm
  obtain ⟨hpl, hpp⟩ := resPs_idx _ _ hps he
  simp only [wrK] at hK
  split at hK
  · rename_i rows hrows
    obtain ⟨hr1, hr2, arr', hfill, hsz, hfl⟩ := rowsSet_ok _ (parts.toList.map fun p => (p.1, ρ p.2)) _ rows _ hall (by simp) hrep (by simp [hpl]) hpp hrows
    simp only [List.length_replicate] at hr2
    obtain ⟨g, r⟩ := hR.new_row hfree (More.alloc w arr' el) S (fun _ _ h => h) (xs := rows) (cap := mm) hr1 ⟨by omega, Nat.le_trans (Nat.le_mul_of_pos_right mm hc3) (by omega)⟩ (by rw [hsz, hr2]; exact Nat.le_refl _) (fun i x c y hx hy => hfl _ _ (flatten_get hr1 i x c y hx hy))
    refine ⟨_, _, _, hK, fun o' ho => ⟨_, .slice (some ⟨w.heap.size, 0, none⟩) mm mm, _, _, ?_, .inl rfl, (by intro k hk; first | rfl | exact Sg.put_other _ _ hk), g, r, VR.row _ _ _ _ _ _ _ _ (Nat.le_refl _)⟩⟩
    have hfill' : Instr.fill (fun i => some (i * es, es)) ((Array.range (mm * es)).map (zv.cells[· % zv.cells.size]!)) (parts.map fun p => (p.1, ρ p.2)).toList = some arr' := by simpa using hfill
    have hlt : ¬ (2 ^ 24 < mm * es) := by omega
    by_cases h0 : mm * es = 0
    · simp only [execOp, ho, Instr.buildSlice, Sem.run_bind, run_underlying ht, Result.andThen_ok, run_sizeOf' hes, hlt, if_false, h0, if_true, Sem.run_pure, gt_iff_lt, Nat.not_lt_zero]
      have e0 : ∀ f : Nat → Value, (Array.range 0).map f = #[] := fun f => by simp
      have hz' : Instr.fill (fun i => some (i * es, es)) ((Array.range 0).map ((#[] : Array Value)[· % (#[] : Array Value).size]!)) (parts.map fun p => (p.1, ρ p.2)).toList = some arr' := by
        rw [h0, e0] at hfill'
        rw [e0]
        exact hfill'
      simp only [hz', newRow, Sem.run_bind, run_newObj, Result.andThen_ok, Sem.run_pure]
      rfl
    · simp only [execOp, ho, Instr.buildSlice, Sem.run_bind, run_underlying ht, Result.andThen_ok, run_sizeOf' hes, hlt, if_false, h0, Sem.run_pure, gt_iff_lt, zeroValue, typeInfo, run_program, hi, hzero]
      simp only [hfill', newRow, Sem.run_bind, run_newObj, Result.andThen_ok, Sem.run_pure]
      rfl
  · cases hK

theorem rowsB_len (l : List UInt8) : (rowsB l).length = l.length := by unfold rowsB; rw [List.length_map]

theorem wr_mk {t el : TypeId} {i : TypeInfo} {z : List V} {x y : Operand} {a b : A} (ht : P.underlying t = some (.slice el)) (hi : P.info? el = some i) (hz : zeroOf P el = some z) (hc : z.length = i.size ∧ 0 < i.size ∧ z.all flatV = true)
    (hx : VR (Own U σ S) w σ (e a) (ρ x)) (hy : VR (Own U σ S) w σ (e b) (ρ y)) (hR : RelS U σ S w n) (hfree : S.get m = none ∧ σ m = none) (hK : wrK S m (.mk i.size i.bytes z a b) e K) : WrOk P U σ S w n m ρ (.makeSlice t x y) K := by
  obtain ⟨hc1, hc2, hc3⟩ := hc
  obtain ⟨i', zv, hi', hzero, hvs⟩ := zeroOf_spec hz
  rw [hi] at hi'
  obtain rfl := Option.some.inj hi'
  simp only [wrK] at hK
  split at hK
  · rename_i k1 l k2 c h1 h2
    rw [h1] at hx
    rw [h2] at hy
    generalize hva : ρ x = va at hx
    generalize hvb : ρ y = vb at hy
    cases hx
    cases hy
    obtain ⟨g0, g1, g2, g3, hK⟩ := hK
    have hall : ∀ q ∈ List.replicate l.toNat z, q.length = i.size := fun q hq => by rw [(List.mem_replicate.1 hq).2]; exact hc1
    have hrep := zero_rows (O := Own U σ S) (w := w) (el := el) hvs hc3 hc1 hc2 c.toNat
    have hmono : FlatR (Own U σ S) w (fun _ => none) (List.replicate l.toNat z).flatten (madeCells zv.cells (c.toNat * i.size)) := by
      intro j q hq
      obtain ⟨hj, -⟩ := List.getElem?_eq_some_iff.1 hq
      rw [flatten_len hall, List.length_replicate] at hj
      have hle : l.toNat * i.size ≤ c.toNat * i.size := Nat.mul_le_mul_right _ (by omega)
      rw [replicate_flatten_get hc1 hc2 _ j hj] at hq
      refine hrep j q ?_
      rw [replicate_flatten_get hc1 hc2 _ j (by omega)]
      exact hq
    obtain ⟨g, r⟩ := hR.new_row hfree (More.alloc w (madeCells zv.cells (c.toNat * i.size)) el) S (fun _ _ h => h) (xs := List.replicate l.toNat z) (cap := c.toNat) hall (by simp; omega) (by rw [size_madeCells]; exact Nat.le_refl _) (fun i x c y hx hy => hmono _ _ (flatten_get hall i x c y hx hy))
    refine ⟨_, _, _, hK, fun o' ho => ⟨_, .slice (some ⟨w.heap.size, 0, none⟩) l.toNat c.toNat, _, _, ?_, .inl rfl, (by intro k hk; first | rfl | exact Sg.put_other _ _ hk), g, r, VR.rowk _ _ _ _ _ _ _ _ (by omega)⟩⟩
    have hrun := run_make (P := P) w t el i zv ht hi hzero k1 k2 l c g0 g1 g2 g3
    simp only [execOp, ho, hva, hvb, Sem.run_bind, hrun, Result.andThen_ok, Sem.run_pure]
  · cases hK

/-- The elements of a slice, as an append or a copy takes them. -/
theorem src_ok {x : V} {v : Value} {es es' : Nat} {ys : List (List V)} {tx e' : TypeId} (hk : P.underlying tx = some (.slice e')) (hR : RelS U σ S w n) (hx : VR (Own U σ S) w σ x v) {len' : Nat} (hs : srcV S x = some (es', len', ys)) (hes : es' = es ∨ ys = []) (hlen' : ys.length = len') :
    (∀ y ∈ ys, y.length = es) ∧ (∃ ad cap, v = .slice ad ys.length cap) ∧ ∀ m, m ≤ ys.length → ∃ news : List Value, news.length = m * es ∧ (∀ u ∈ news, u.oneCell' = true) ∧ FlatR (Own U σ S) w (fun _ => none) (ys.take m).flatten news.toArray ∧
      ∀ w', Same w w' → (Builtin.firstCells es m v).run P w' = .ok news.toArray w' := by
  have gen : ∀ (b o : Nat) (len cap : Nat) (ad : Option Addr), (∀ y ∈ ys, y.length = es) → v = .slice ad len cap → ys.length = len → (ys ≠ [] → ad = some ⟨b, o, none⟩ ∧ b < w.heap.size) →
      (∀ (i : Nat) (z : List V) (c : Nat) (y : V), ys[i]? = some z → z[c]? = some y → ∃ u, w.cell? ⟨b, o + i * es + c, none⟩ = some u ∧ u.oneCell' = true ∧ VR (Own U σ S) w (fun _ => none) y u) →
      ∀ m, m ≤ ys.length → ∃ news : List Value, news.length = m * es ∧ (∀ u ∈ news, u.oneCell' = true) ∧ FlatR (Own U σ S) w (fun _ => none) (ys.take m).flatten news.toArray ∧ ∀ w', Same w w' → (Builtin.firstCells es m v).run P w' = .ok news.toArray w' := by
    intro b o len cap ad hall hv hlen had hcells m hm
    by_cases hys : ys = []
    · subst hys
      obtain rfl : m = 0 := by simpa using hm
      refine ⟨[], by simp, by simp, fun j y hy => by simp at hy, fun w' _ => ?_⟩
      subst hv
      cases ad with
      | none => simp [Builtin.firstCells]
      | some a => simp [Builtin.firstCells, loadCells, loadCellsFrom]
    · obtain ⟨rfl, hb⟩ := had hys
      have hdec : ∀ j, j < m * es → ∃ (i : Nat) (z : List V) (c : Nat) (y : V), ys[i]? = some z ∧ z[c]? = some y ∧ j = i * es + c ∧ i < m := by
        intro j hj
        have hpos : 0 < es := by
          rcases Nat.eq_zero_or_pos es with h | h
          · subst h; simp at hj
          · exact h
        have hi : j / es < m := (Nat.div_lt_iff_lt_mul hpos).2 hj
        have hil : j / es < ys.length := by omega
        have hc : j % es < es := Nat.mod_lt _ hpos
        have hzl : (ys[j / es]).length = es := hall _ (List.getElem_mem hil)
        exact ⟨j / es, ys[j / es], j % es, (ys[j / es])[j % es], List.getElem?_eq_getElem hil, List.getElem?_eq_getElem (by omega), by rw [Nat.mul_comm, Nat.div_add_mod], hi⟩
      have hone : ∀ j, j < m * es → ∃ u, w.cell? ⟨b, o + j, none⟩ = some u ∧ u.oneCell' = true := by
        intro j hj
        obtain ⟨i, z, c, y, h1, h2, rfl, -⟩ := hdec j hj
        obtain ⟨u, q1, q2, -⟩ := hcells i z c y h1 h2
        exact ⟨u, by rw [← Nat.add_assoc]; exact q1, q2⟩
      refine ⟨(List.range (m * es)).map fun j => (w.cell? ⟨b, o + j, none⟩).getD undef, by simp, fun u hu => ?_, fun j y hy => ?_, fun w' hs => ?_⟩
      · obtain ⟨j, hj, rfl⟩ := List.mem_map.1 hu
        obtain ⟨u, q1, q2⟩ := hone j (List.mem_range.1 hj)
        simpa [q1] using q2
      · have hallm : ∀ y ∈ ys.take m, y.length = es := fun y hy => hall y (List.mem_of_mem_take hy)
        obtain ⟨hj, -⟩ := List.getElem?_eq_some_iff.1 hy
        rw [flatten_len hallm, List.length_take, Nat.min_eq_left hm] at hj
        obtain ⟨i, z, c, y', h1, h2, rfl, him⟩ := hdec j hj
        have := flatten_get hallm i z c y' (by rw [List.getElem?_take, if_pos him]; exact h1) h2
        rw [this] at hy
        obtain rfl := Option.some.inj hy
        obtain ⟨u, q1, q2, q3⟩ := hcells i z c y' h1 h2
        refine ⟨u, ?_, q2, q3⟩
        rw [Nat.add_assoc] at q1
        simp [hj, q1]
      · subst hv
        simp only [Builtin.firstCells]
        exact run_loadCells b o _ (m * es) fun j hj => by
          obtain ⟨u, q1, -⟩ := hone j hj
          rw [hs.cell hb, q1]
          rfl
  unfold srcV srcV0 at hs
  replace hx := unk_VR hx
  generalize unk x = x0 at hs hx
  split at hs
  · rename_i es2 t2 xs
    simp only [Option.some.injEq, Prod.mk.injEq] at hs
    obtain ⟨rfl, rfl, rfl⟩ := hs
    cases hx with
    | @lst _ _ _ _ ad cap b o cv had hl hcap ht' hc1 hc3 hc2 =>
      have hall : ∀ y ∈ xs, y.length = es := fun y hy => by
        rcases hes with rfl | h
        · exact hl y hy
        · subst h; simp at hy
      refine ⟨hall, ⟨ad, cap, rfl⟩, gen b o _ _ ad hall rfl rfl (fun hne => ⟨(had hne).1, (had hne).2.2⟩) fun i z c y hz hy => ?_⟩
      obtain ⟨hi, -⟩ := List.getElem?_eq_some_iff.1 hz
      obtain ⟨hc, -⟩ := List.getElem?_eq_some_iff.1 hy
      have hzl := hl z (List.mem_of_getElem? hz)
      have hzl' := hall z (List.mem_of_getElem? hz)
      have := hc1 i c hi (by omega)
      rw [hzl.symm.trans hzl'] at this
      exact ⟨_, this, hc3 i c hi (by omega), hc2 i z c y hz hy⟩
  · rename_i k off len
    split at hs
    · rename_i es2 xs ho
      simp only [Option.some.injEq, Prod.mk.injEq] at hs
      obtain ⟨rfl, rfl, rfl⟩ := hs
      have hob := hR.obj k _ ho
      cases hx with
      | @sl _ _ _ _ b es3 cap ad hs' hle had =>
        rw [hs'] at hob
        obtain ⟨hl, rfl, hcap, arr, ty, hh, hsz, hcells⟩ := hob
        have hlen : off + len ≤ xs.length ∨ len = 0 := by simp at hlen'; omega
        have hall : ∀ y ∈ (xs.drop off).take len, y.length = es := fun y hy => by
          rcases hes with rfl | h
          · exact hl y (List.mem_of_mem_drop (List.mem_of_mem_take hy))
          · rw [h] at hy; simp at hy
        have hblt : b < w.heap.size := (Array.getElem?_eq_some_iff.1 hh).1
        refine ⟨hall, ⟨ad, cap - off, by rw [hlen']⟩, gen b (off * es) _ _ ad hall rfl hlen' (fun hne => ?_) fun i z c y hz hy => ?_⟩
        · have hpos : 0 < ((xs.drop off).take len).length := List.length_pos_iff.2 hne
          rw [hlen'] at hpos
          rcases hes with rfl | h
          · exact ⟨had (by omega), hblt⟩
          · exact absurd h hne
        · obtain ⟨hi, -⟩ := List.getElem?_eq_some_iff.1 hz
          rw [hlen'] at hi
          rw [List.getElem?_take, if_pos hi, List.getElem?_drop] at hz
          have hzz := hz
          obtain ⟨u, q1, q2, q3⟩ := hcells _ z c y hz hy
          have e1 : es3 = es := by
            rcases hes with rfl | h
            · rfl
            · rw [h] at hlen'; simp at hlen'; omega
          subst e1
          refine ⟨u, ?_, q2, q3⟩
          rw [Nat.add_mul] at q1
          simp [World.cell?, hh, q1]
      | sl0 hs' =>
        rw [hs'] at hob
        obtain ⟨hl, rfl, -, rfl⟩ := hob
        simp only [List.drop_nil, List.take_nil] at *
        exact ⟨by simp, ⟨_, 0, rfl⟩, gen 0 0 _ _ _ (by simp) rfl rfl (by simp) (by simp)⟩
    · cases hs
  · simp only [Option.some.injEq, Prod.mk.injEq] at hs
    obtain ⟨rfl, rfl, rfl⟩ := hs
    cases hx
    exact ⟨by simp, ⟨_, _, rfl⟩, gen 0 0 _ _ _ (by simp) rfl rfl (by simp) (by simp)⟩
  · cases hs

end
end Go.Sk
