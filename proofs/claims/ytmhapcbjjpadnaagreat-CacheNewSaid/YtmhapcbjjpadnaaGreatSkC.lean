/- Sk, part C: operations that change nothing are carried out as said. -/
import Derived.Test.YtmhapcbjjpadnaaGreatSkB
import Derived.Laws.StructEq
import Derived.MapKept
import Derived.ChangeKeysEq
import Derived.WideKeyRuns
set_option linter.unusedSimpArgs false
set_option linter.unusedVariables false
set_option linter.unusedSectionVars false
namespace Go.Sk
open Go Go.RowKit
variable [Tab]

def Same (w w' : World) : Prop := ∀ b, b < w.heap.size → w'.heap[b]? = w.heap[b]?
theorem Same.cell {w w' : World} (h : Same w w') {b o : Nat} (hb : b < w.heap.size) : w'.cell? ⟨b, o, none⟩ = w.cell? ⟨b, o, none⟩ := World.cell?_of_block (w := w) (h b hb)
theorem Same.refl (w : World) : Same w w := fun _ _ => rfl

/-- What is to be shown of a reading operation. -/
def RdOk (P : Program) (U : Nat → Prop) (σ : Sg) (S : Store) (w : World) (ρ : Operand → Value) (o : Op) (K : V → Prop) : Prop :=
  ∃ v cv, K v ∧ VR (Own U σ S) w σ v cv ∧ ∀ (w' : World) (o' : Oper), o'.op = o → Same w w' → (execOp ρ o').run P w' = .ok (.value cv) w'

section
variable {P : Program} {U : Nat → Prop} {σ : Sg} {S : Store} {w : World} {n : Nat} {ρ : Operand → Value} {e : A → V} {K : V → Prop}

theorem part_VR {O : Nat → Prop} {w : World} {σ : Sg} {agg : Bool} {es : Nat} {cs : List V} {c n : Nat} {cv : Nat → Value} (hn : agg = true ∨ n = 1) (hle : c + n ≤ es) (hes : cs.length = es)
    (h : ∀ j y, j < n → cs[c + j]? = some y → VR O w σ y (cv j)) : VR O w σ (partV agg es cs c n) (if agg then .agg ((List.range n).map cv).toArray else cv 0) := by
  unfold partV
  cases agg with
  | true =>
    simp only [if_true]
    have key : ∀ (l : List V), l = (cs.drop c).take n → VR O w σ (.agg l) (.agg ((List.range n).map cv).toArray) := by
      intro l hl
      refine .agg (by simp [hl]; omega) fun j y v hj hv => ?_
      simp only [List.getElem?_toArray, List.getElem?_map, Option.map_eq_some_iff] at hv
      obtain ⟨j', hj', rfl⟩ := hv
      obtain ⟨hj1, hj2⟩ := List.getElem?_eq_some_iff.1 hj'
      simp only [List.length_range] at hj1
      simp only [List.getElem_range] at hj2
      subst hj2
      refine h j y hj1 ?_
      rw [hl, List.getElem?_take] at hj
      simpa [hj1] using hj
    split
    · rename_i h0
      obtain ⟨rfl, rfl⟩ := h0
      exact key _ (by simp [← hes])
    · exact key _ rfl
  | false =>
    have hn1 : n = 1 := by simpa using hn
    subst hn1
    simp only [Bool.false_eq_true, if_false]
    have hlt : c < cs.length := by omega
    refine h 0 _ (by omega) ?_
    simp [List.getD_eq_getElem?_getD, List.getElem?_eq_getElem hlt]

theorem rd_load {t : TypeId} {agg : Bool} {n' : Nat} {a : Operand} {x : A} (hagg : tyAgg P t = some agg) (hsz : tySize P t = some n') (hn : agg = true ∨ n' = 1) (hR : RelS U σ S w n)
    (hx : VR (Own U σ S) w σ (e x) (ρ a)) (hK : rdK S (.ld agg n' x) e true K) : RdOk P U σ S w ρ (.load t a) K := by
  have run : ∀ (b o : Nat) (cv : Nat → Value), ρ a = .pointer (some ⟨b, o, none⟩) → b < w.heap.size → (∀ j, j < n' → w.cell? ⟨b, o + j, none⟩ = some (cv j)) →
      ∀ (w' : World) (o' : Oper), o'.op = .load t a → Same w w' → (execOp ρ o').run P w' = .ok (.value (if agg then .agg ((List.range n').map cv).toArray else cv 0)) w' := by
    intro b o cv ha hb hc w' o' ho hs
    simp only [execOp, ho, Instr.loadAt, Instr.sureAddr, ha, pure_bind, Sem.run_bind]
    rw [run_loadVar' hagg hsz b o cv (fun j hj => (hs.cell hb).trans (hc j hj)) (fun hf => by simpa [hf] using hn)]
    rfl
  unfold rdK at hK
  simp only at hK
  split at hK
  · rename_i k i c hex
    rw [hex] at hx
    generalize hva : ρ a = va at hx
    cases hx with
    | @ptr _ k i c b es cap hs =>
      split at hK
      · rename_i es' xs ho
        obtain ⟨hi, hle, hk⟩ := hK
        obtain ⟨hlen, hb, hcell⟩ := hR.cells (i := i) hs ho (hi trivial)
        have hcs : S.cellsAt k i = xs.getD i [] := by unfold Store.cellsAt; rw [ho]
        rw [hcs] at hlen hcell
        have hes : es = es' := by
          have := hR.obj k _ ho
          rw [hs] at this
          exact this.2.1
        subst hes
        refine ⟨_, _, hk, part_VR (cv := fun j => (w.cell? ⟨b, i * es + c + j, none⟩).getD undef) hn hle hlen ?_, run b (i * es + c) _ hva hb ?_⟩
        · intro j y hj hy
          obtain ⟨v, h1, -, h2⟩ := hcell (c + j) y hy
          rw [← Nat.add_assoc] at h1
          simpa [h1] using h2
        · intro j hj
          have hlt : c + j < (xs.getD i []).length := by omega
          obtain ⟨v, h1, -, h2⟩ := hcell (c + j) _ (List.getElem?_eq_getElem hlt)
          rw [← Nat.add_assoc] at h1
          simp [h1]
      · rename_i cs ho
        obtain ⟨hh, hk⟩ := hK
        obtain ⟨rfl, hle⟩ := hh trivial
        obtain ⟨hlen, hb, hcell⟩ := hR.cells (i := 0) hs ho rfl
        have hcs : S.cellsAt k 0 = cs := by unfold Store.cellsAt; rw [ho]
        rw [hcs] at hlen hcell
        refine ⟨_, _, hk, part_VR (cv := fun j => (w.cell? ⟨b, 0 * es + c + j, none⟩).getD undef) hn hle rfl ?_, run b (0 * es + c) _ hva hb ?_⟩
        · intro j y hj hy
          obtain ⟨v, h1, -, h2⟩ := hcell (c + j) y hy
          rw [← Nat.add_assoc] at h1
          simp only [h1, Option.getD_some]
          exact h2
        · intro j hj
          have hlt : c + j < cs.length := by omega
          obtain ⟨v, h1, -, h2⟩ := hcell (c + j) _ (List.getElem?_eq_getElem hlt)
          rw [← Nat.add_assoc] at h1
          simp only [h1, Option.getD_some]
      · exact absurd hK.1 (by simp)
  · rename_i es cs c hex
    rw [hex] at hx
    generalize hva : ρ a = va at hx
    cases hx with
    | @rp _ es cs c b o cv hlen hO hb h1 h3 h2 =>
      obtain ⟨hle, hk⟩ := hK
      have hle := hle trivial
      refine ⟨_, _, hk, part_VR (cv := fun j => cv (c + j)) hn hle hlen (fun j y hj hy => (h2 _ _ hy).lift σ), run b (o + c) _ hva hb fun j hj => ?_⟩
      rw [Nat.add_assoc]
      exact h1 _ (by omega)
  · exact absurd hK.1 (by simp)

theorem rd_move {x : Operand} {a : A} {o : Op} (ho : o = .move x ∨ o = .assign x) (hx : VR (Own U σ S) w σ (e a) (ρ x)) (hK : rdK S (.mv a) e true K) : RdOk P U σ S w ρ o K :=
  ⟨_, _, hK, hx, fun w' o' h _ => by rcases ho with rfl | rfl <;> simp [execOp, h]⟩

theorem rd_un {op : UnOp} {t : TypeId} {x : Operand} {a : A} (hx : VR (Own U σ S) w σ (e a) (ρ x)) (hK : rdK S (.un op a) e true K) : RdOk P U σ S w ρ (.unOp op t x) K := by
  unfold rdK at hK
  cases op <;> simp only at hK
  case not =>
    split at hK
    · rename_i b hex
      rw [hex] at hx
      generalize hva : ρ x = va at hx
      cases hx
      exact ⟨_, _, hK, .bool _, fun w' o' h _ => by simp [execOp, h, hva, Op.unary]⟩
    · exact absurd hK.1 (by simp)
  case neg =>
    split at hK
    · rename_i k m hex
      rw [hex] at hx
      generalize hva : ρ x = va at hx
      cases hx
      exact ⟨_, _, hK, .int _ _, fun w' o' h _ => by simp [execOp, h, hva, Op.unary, Op.intArith]⟩
    · exact absurd hK.1 (by simp)

theorem rd_conv {s d : TypeId} {k k0 : IntKind} {x : Operand} {a : A} (hs : P.underlying s = some (.int k0)) (hd : P.underlying d = some (.int k)) (hx : VR (Own U σ S) w σ (e a) (ρ x)) (hK : rdK S (.conv k a) e true K) : RdOk P U σ S w ρ (.convert s d x) K := by
  unfold rdK at hK
  simp only at hK
  split at hK
  · rename_i k1 m hex
    rw [hex] at hx
    generalize hva : ρ x = va at hx
    cases hx
    exact ⟨_, _, hK, .int _ _, fun w' o' h _ => by simp [execOp, h, hva, convert, run_underlying hs, run_underlying hd, Conv.intToInt]⟩
  · exact absurd hK.1 (by simp)

theorem rd_bin {op : BinOp} {t u : TypeId} {x y : Operand} {a b : A} (hx : VR (Own U σ S) w σ (e a) (ρ x)) (hy : VR (Own U σ S) w σ (e b) (ρ y)) (hK : rdK S (.bin op a b) e true K) : RdOk P U σ S w ρ (.binOp op t x y u) K := by
  unfold rdK at hK
  simp only at hK
  split at hK
  · rename_i k m k' m' h1 h2
    rw [h1] at hx
    rw [h2] at hy
    generalize hva : ρ x = va at hx
    generalize hvb : ρ y = vb at hy
    cases hx
    cases hy
    obtain ⟨hk, hK⟩ := hK
    cases op <;> simp only [binK] at hK <;> simp only [shk, decide_eq_true_eq] at hk <;> (try subst hk)
    case quo => exact ⟨_, _, hK.2, .int _ _, fun w' o' h _ => by simp [execOp, h, hva, hvb, binOp, eqGuard, Op.intDiv, hK.1]⟩
    case rem => exact ⟨_, _, hK.2, .int _ _, fun w' o' h _ => by simp [execOp, h, hva, hvb, binOp, eqGuard, Op.intDiv, hK.1]⟩
    case shl => exact ⟨_, _, hK.2, .int _ _, fun w' o' h _ => by have := hK.1 trivial; simp [execOp, h, hva, hvb, binOp, eqGuard, Op.shift, show ¬ m' < 0 by omega]⟩
    case shr => exact ⟨_, _, hK.2, .int _ _, fun w' o' h _ => by have := hK.1 trivial; simp [execOp, h, hva, hvb, binOp, eqGuard, Op.shift, show ¬ m' < 0 by omega]⟩
    all_goals first
      | exact ⟨_, _, hK, .int _ _, fun w' o' h _ => by simp [execOp, h, hva, hvb, binOp, eqGuard, Op.intArith, Op.intBits, bitsI]⟩
      | exact ⟨_, _, hK, .bool _, fun w' o' h _ => by simp [execOp, h, hva, hvb, binOp, eqGuard, Op.intCmp]⟩
  · exact absurd hK.1 (by simp)

theorem rd_eqb {neg : Bool} {op : BinOp} {t u : TypeId} {x y : Operand} {a b : A} (ht : P.underlying t = some .bool) (hop : op = if neg then .neq else .eql) (hx : VR (Own U σ S) w σ (e a) (ρ x)) (hy : VR (Own U σ S) w σ (e b) (ρ y)) (hK : rdK S (.eqb neg a b) e true K) : RdOk P U σ S w ρ (.binOp op t x y u) K := by
  unfold rdK at hK
  simp only at hK
  split at hK
  · rename_i p q h1 h2
    rw [h1] at hx
    rw [h2] at hy
    generalize hva : ρ x = va at hx
    generalize hvb : ρ y = vb at hy
    cases hx
    cases hy
    cases neg with
    | true => subst hop; exact ⟨_, .bool (!(p == q)), hK, .bool _, fun w' o' h _ => by simp [execOp, h, hva, hvb, binOp, eqGuard, Op.equal, Op.maxDepth, run_equalIn_bool' (P := P) w' 9999 t p q ht]⟩
    | false => subst hop; exact ⟨_, .bool (p == q), hK, .bool _, fun w' o' h _ => by simp [execOp, h, hva, hvb, binOp, eqGuard, Op.equal, Op.maxDepth, run_equalIn_bool' (P := P) w' 9999 t p q ht]⟩
  · exact absurd hK.1 (by simp)

/-- The cells of a value of a comparable type, among those of a whole. -/
def CellsAt (P : Program) (O : Nat → Prop) (w : World) (σ : Sg) (xs : List V) (t : TypeId) (o : Nat) (v : Value) : Prop :=
  match tyAgg P t, tySize P t with
  | some true, some n => ∃ arr, v = .agg arr ∧ ∀ (i : Nat) (y : V), i < n → xs[o + i]? = some y → ∃ u, arr[i]? = some u ∧ VR O w σ y u
  | some false, some _ => ∀ y, xs[o]? = some y → VR O w σ y v
  | _, _ => False
theorem cells_part {O : Nat → Prop} {xs : List V} {arr : Array Value} {o n : Nat} (h : ∀ (i : Nat) (y : V), i < n → xs[o + i]? = some y → ∃ u, arr[i]? = some u ∧ VR O w σ y u) {t : TypeId} {f m : Nat} (hm : tySize P t = some m) (ha : (tyAgg P t).isSome = true) (hle : f + m ≤ n) (hpos : tyAgg P t = some false → m = 1)
    (hne : tyAgg P t = some false → ∃ y, xs[o + f]? = some y) : ∃ v, CellsAt P O w σ xs t (o + f) v ∧ ∀ w', (part t arr f).run P w' = .ok v w' := by
  cases hg : tyAgg P t with
  | none => rw [hg] at ha; cases ha
  | some b =>
    cases b with
    | true =>
      refine ⟨.agg (arr.extract f (f + m)), ?_, fun w' => by unfold part; simp [run_isAgg' hg, run_sizeOf' hm]⟩
      unfold CellsAt
      rw [hg, hm]
      refine ⟨_, rfl, fun i y hi hy => ?_⟩
      obtain ⟨u, h1, h2⟩ := h (f + i) y (by omega) (by rw [← hy]; congr 1; omega)
      refine ⟨u, ?_, h2⟩
      rw [Array.getElem?_extract]
      have hlt := (Array.getElem?_eq_some_iff.1 h1).1
      rw [if_pos (by omega)]
      exact h1
    | false =>
      obtain ⟨y, hy⟩ := hne hg
      have h1' := hpos hg
      obtain ⟨u, h1, h2⟩ := h f y (by omega) hy
      refine ⟨u, ?_, fun w' => by unfold part; simp [run_isAgg' hg, h1]⟩
      unfold CellsAt
      rw [hg, hm]
      intro y' hy'
      rw [hy] at hy'
      obtain rfl := Option.some.inj hy'
      exact h2
theorem tyAgg_of {t : TypeId} {d : TypeDesc} (h : P.underlying t = some d) : (tyAgg P t).isSome = true := by
  unfold tyAgg; rw [h]; cases d <;> rfl
theorem flatT_under {d : Nat} {t : TypeId} {o : Nat} {l : List (Nat × Kd)} (h : flatT P d t o = some l) : (tyAgg P t).isSome = true := by
  cases d with
  | zero => cases h
  | succ d =>
    simp only [flatT] at h
    cases hu : P.underlying t with
    | none => rw [hu] at h; cases h
    | some k => exact tyAgg_of hu
theorem flatT_scalar {d : Nat} {t : TypeId} {o : Nat} {l : List (Nat × Kd)} (h : flatT P d t o = some l) (hf : tyAgg P t = some false) : tySize P t = some 1 ∧ ∃ kd, l = [(o, kd)] := by
  cases d with
  | zero => cases h
  | succ d =>
    simp only [flatT] at h
    unfold tyAgg at hf
    split at h
    · split at h
      · rename_i h1; exact ⟨h1, _, (Option.some.inj h).symm⟩
      · cases h
    · split at h
      · rename_i h1; exact ⟨h1, _, (Option.some.inj h).symm⟩
      · cases h
    · split at h
      · rename_i h1; exact ⟨h1, _, (Option.some.inj h).symm⟩
      · cases h
    · rename_i hu; rw [hu] at hf; cases hf
    · rename_i hu; rw [hu] at hf; cases hf
    · cases h
theorem eqsK_append {xs ys : List V} {k : List (Nat × Kd)} {K : Bool → Prop} : ∀ {l : List (Nat × Kd)} {acc : Bool}, eqsK (l ++ k) xs ys acc K → eqsK l xs ys acc fun a => eqsK k xs ys a K
  | [], _, h => h
  | (o, .i) :: r, acc, h => by
    simp only [List.cons_append, eqsK] at h ⊢
    split at h
    · exact ⟨h.1, eqsK_append h.2⟩
    · exact h.elim
  | (o, .b) :: r, acc, h => by
    simp only [List.cons_append, eqsK] at h ⊢
    split at h
    · exact eqsK_append h
    · exact h.elim
  | (o, .s) :: r, acc, h => by
    simp only [List.cons_append, eqsK] at h ⊢
    split at h
    · exact eqsK_append h
    · exact h.elim
theorem eqsK_head {o : Nat} {kd : Kd} {r : List (Nat × Kd)} {xs ys : List V} {acc : Bool} {K : Bool → Prop} (h : eqsK ((o, kd) :: r) xs ys acc K) : (∃ y, xs[o]? = some y) ∧ ∃ y, ys[o]? = some y := by
  cases kd <;> simp only [eqsK] at h <;> split at h
  all_goals first
    | exact h.elim
    | (rename_i h1 h2; exact ⟨⟨_, h1⟩, ⟨_, h2⟩⟩)
    | (rename_i h1 h2; exact ⟨⟨_, by assumption⟩, ⟨_, by assumption⟩⟩)
theorem strEq_run (a b : ByteArray) : (a.toList == b.toList) = strEq a b := by
  rw [ByteArray.toList_eq, ByteArray.toList_eq]; rfl

theorem part_both {O : Nat → Prop} {xs ys : List V} {ax ay : Array Value} {o n d : Nat} (hx : ∀ (i : Nat) (y : V), i < n → xs[o + i]? = some y → ∃ u, ax[i]? = some u ∧ VR O w σ y u)
    (hy : ∀ (i : Nat) (y : V), i < n → ys[o + i]? = some y → ∃ u, ay[i]? = some u ∧ VR O w σ y u) {t : TypeId} {f m : Nat} {l k : List (Nat × Kd)} (hl : flatT P d t (o + f) = some l) (hm : tySize P t = some m) (hle : f + m ≤ n) {acc : Bool} {K : Bool → Prop} (hK : eqsK (l ++ k) xs ys acc K) :
    ∃ u v, CellsAt P O w σ xs t (o + f) u ∧ CellsAt P O w σ ys t (o + f) v ∧ ∀ w', (part t ax f).run P w' = .ok u w' ∧ (part t ay f).run P w' = .ok v w' := by
  have key : tyAgg P t = some false → m = 1 ∧ (∃ y, xs[o + f]? = some y) ∧ ∃ y, ys[o + f]? = some y := by
    intro hf
    obtain ⟨h1, kd, rfl⟩ := flatT_scalar hl hf
    rw [hm] at h1
    exact ⟨Option.some.inj h1, eqsK_head hK⟩
  obtain ⟨u, h1, h2⟩ := cells_part hx hm (flatT_under hl) hle (fun h => (key h).1) (fun h => (key h).2.1)
  obtain ⟨v, h3, h4⟩ := cells_part hy hm (flatT_under hl) hle (fun h => (key h).1) (fun h => (key h).2.2)
  exact ⟨u, v, h1, h3, fun w' => ⟨h2 w', h4 w'⟩⟩

theorem flat_run {O : Nat → Prop} {xs ys : List V} (D : Nat) : ∀ (d : Nat) (t : TypeId) (o : Nat) (l : List (Nat × Kd)), flatT P d t o = some l → ∀ (a b : Value), CellsAt P O w σ xs t o a → CellsAt P O w σ ys t o b → ∀ (acc : Bool) (K : Bool → Prop), eqsK l xs ys acc K →
    ∃ r, K (acc && r) ∧ ∀ w', (Op.equalIn (D + d) t a b).run P w' = .ok r w'
  | 0, _, _, _, h => by cases h
  | d + 1, t, o, l, h => by
    intro a b ha hb acc K hK
    have ih := flat_run (O := O) (xs := xs) (ys := ys) D d
    simp only [flatT] at h
    unfold CellsAt at ha hb
    split at h
    · rename_i k0 hu
      have hag : tyAgg P t = some false := by unfold tyAgg; rw [hu]
      split at h
      · rename_i hz
        obtain rfl := Option.some.inj h
        rw [hag, hz] at ha hb
        simp only [eqsK] at hK
        split at hK
        · rename_i k x k' y h1 h2
          obtain ⟨rfl, hK⟩ := hK
          have ha := ha _ h1
          have hb := hb _ h2
          cases ha
          cases hb
          exact ⟨_, hK, fun w' => run_equalIn_int w' (D + d) t k k0 x y hu⟩
        · exact hK.elim
      · cases h
    · rename_i hu
      have hag : tyAgg P t = some false := by unfold tyAgg; rw [hu]
      split at h
      · rename_i hz
        obtain rfl := Option.some.inj h
        rw [hag, hz] at ha hb
        simp only [eqsK] at hK
        split at hK
        · rename_i x y h1 h2
          have ha := ha _ h1
          have hb := hb _ h2
          cases ha
          cases hb
          exact ⟨_, hK, fun w' => run_equalIn_bool' w' (D + d) t x y hu⟩
        · exact hK.elim
      · cases h
    · rename_i hu
      have hag : tyAgg P t = some false := by unfold tyAgg; rw [hu]
      split at h
      · rename_i hz
        obtain rfl := Option.some.inj h
        rw [hag, hz] at ha hb
        simp only [eqsK] at hK
        split at hK
        · rename_i x y h1 h2
          have ha := ha _ h1
          have hb := hb _ h2
          cases ha
          cases hb
          exact ⟨_, hK, fun w' => by rw [← strEq_run]; exact run_equalIn_string w' (D + d) t x y hu⟩
        · exact hK.elim
      · cases h
    · rename_i fs hu
      have hag : tyAgg P t = some true := by unfold tyAgg; rw [hu]
      split at h
      · rename_i n hz
        split at h
        · rename_i hst
          rw [hag, hz] at ha hb
          obtain ⟨ax, rfl, hx⟩ := ha
          obtain ⟨ay, rfl, hy⟩ := hb
          have hfo : P.fieldsOf t = fs := by unfold Program.fieldsOf; rw [hu]
          have fields : ∀ (fl : List Field) (l : List (Nat × Kd)) (acc : Bool), flatFs (flatT P d) P n o fl = some l → eqsK l xs ys acc K → ∃ r, K (acc && r) ∧ ∀ w', (Op.eqFields (D + d) ax ay fl).run P w' = .ok r w' := by
            intro fl
            induction fl with
            | nil => intro l acc hl hK; obtain rfl := Option.some.inj hl; exact ⟨true, by simpa [eqsK] using hK, fun w' => by simp [Op.eqFields]⟩
            | cons f fl ihf =>
              intro l acc hl hK
              simp only [flatFs] at hl
              split at hl
              · rename_i l1 m k1 h1 h2 h3
                split at hl
                · rename_i h4
                  obtain rfl := Option.some.inj hl
                  obtain ⟨u, v, c1, c2, c3⟩ := part_both hx hy h1 h2 h4.2 hK
                  obtain ⟨r1, q1, q2⟩ := ih f.type _ l1 h1 u v c1 c2 acc _ (eqsK_append hK)
                  obtain ⟨r2, q3, q4⟩ := ihf k1 _ h3 q1
                  refine ⟨r1 && r2, by rw [← Bool.and_assoc]; exact q3, fun w' => ?_⟩
                  simp only [Op.eqFields, ne_eq, h4.1, not_false_eq_true, if_true, Sem.run_bind, (c3 w').1, (c3 w').2, Result.andThen_ok, q2]
                  cases r1 with
                  | true => simp [q4]
                  | false => simp
                · cases hl
              · cases hl
          obtain ⟨r, q1, q2⟩ := fields fs.toList l acc h hK
          refine ⟨r, q1, fun w' => ?_⟩
          rw [← Nat.add_assoc, run_equalIn_agg (P := P) w' (D + d) t ax ay (by rw [hfo]; exact hu) hst, hfo]
          exact q2 w'
        · cases h
      · cases h
    · rename_i n e hu
      have hag : tyAgg P t = some true := by unfold tyAgg; rw [hu]
      split at h
      · rename_i es m hes hz
        split at h
        · rename_i hm
          subst hm
          rw [hag, hz] at ha hb
          obtain ⟨ax, rfl, hx⟩ := ha
          obtain ⟨ay, rfl, hy⟩ := hb
          obtain ⟨inf, hinf, hsz⟩ : ∃ inf, P.info? e = some inf ∧ inf.size = es := by
            unfold tySize at hes
            cases hc : P.info? e with
            | none => rw [hc] at hes; cases hes
            | some inf => rw [hc] at hes; exact ⟨inf, rfl, Option.some.inj hes⟩
          have hcells : P.cellsOf e = es := by
            have h1 := run_sizeOf (P := P) w hinf
            rw [run_sizeOf' hes] at h1
            have := (Result.ok.inj h1).1
            exact this.symm
          have items : ∀ (c j : Nat) (l : List (Nat × Kd)) (acc : Bool), j + c ≤ n → flatIs (fun o => flatT P d e o) es c (o + j * es) = some l → eqsK l xs ys acc K → ∃ r, K (acc && r) ∧ ∀ w', (Op.eqItems (D + d) e es ax ay (List.range' j c)).run P w' = .ok r w' := by
            intro c
            induction c with
            | zero => intro j l acc _ hl hK; obtain rfl := Option.some.inj hl; exact ⟨true, by simpa [eqsK] using hK, fun w' => by simp [Op.eqItems]⟩
            | succ c ihc =>
              intro j l acc hj hl hK
              simp only [flatIs] at hl
              split at hl
              · rename_i l1 k1 h1 h3
                obtain rfl := Option.some.inj hl
                have hle : j * es + es ≤ n * es := by
                  have := Nat.mul_le_mul_right es (show j + 1 ≤ n by omega)
                  rw [Nat.add_mul, Nat.one_mul] at this; exact this
                obtain ⟨u, v, c1, c2, c3⟩ := part_both hx hy h1 hes hle hK
                obtain ⟨r1, q1, q2⟩ := ih e _ l1 h1 u v c1 c2 acc _ (eqsK_append hK)
                obtain ⟨r2, q3, q4⟩ := ihc (j + 1) k1 _ (by omega) (by rw [Nat.add_mul, Nat.one_mul, ← Nat.add_assoc]; exact h3) q1
                refine ⟨r1 && r2, by rw [← Bool.and_assoc]; exact q3, fun w' => ?_⟩
                simp only [List.range'_succ, Op.eqItems, Sem.run_bind, (c3 w').1, (c3 w').2, Result.andThen_ok, q2]
                cases r1 with
                | true => simp [q4]
                | false => simp
              · cases hl
          obtain ⟨r, q1, q2⟩ := items n 0 l acc (by omega) (by simpa using h) hK
          refine ⟨r, q1, fun w' => ?_⟩
          rw [← Nat.add_assoc, run_equalIn_array (P := P) w' (D + d) ax ay hu hinf, hcells, List.range_eq_range']
          exact q2 w'
        · cases h
      · cases h
    · cases h

theorem rd_eqs {neg : Bool} {l : List (Nat × Kd)} {op : BinOp} {t u : TypeId} {x y : Operand} {a b : A} (ht : tyAgg P t = some true) (hs : eqTy P t = some l) (hop : op = if neg then .neq else .eql)
    (hx : VR (Own U σ S) w σ (e a) (ρ x)) (hy : VR (Own U σ S) w σ (e b) (ρ y)) (hK : rdK S (.eqs neg l a b) e true K) : RdOk P U σ S w ρ (.binOp op t x y u) K := by
  unfold rdK at hK
  simp only at hK
  unfold eqTy at hs
  split at hs
  · rename_i hg
    split at hK
    · rename_i p q h1 h2
      rw [h1] at hx
      rw [h2] at hy
      generalize hva : ρ x = va at hx
      generalize hvb : ρ y = vb at hy
      cases hx with
      | @agg _ _ ax hnx hcx =>
      cases hy with
      | @agg _ _ ay hny hcy =>
      have hz : ∃ n, tySize P t = some n := by
        simp only [flatT] at hs
        unfold tyAgg at ht
        split at hs
        · rename_i hu; rw [hu] at ht; cases ht
        · rename_i hu; rw [hu] at ht; cases ht
        · rename_i hu; rw [hu] at ht; cases ht
        · split at hs
          · exact ⟨_, by assumption⟩
          · cases hs
        · split at hs
          · exact ⟨_, by assumption⟩
          · cases hs
        · cases hs
      obtain ⟨n0, hz⟩ := hz
      have cells : ∀ {zs : List V} {az : Array Value}, az.size = zs.length → (∀ (i : Nat) (y : V) (v : Value), zs[i]? = some y → az[i]? = some v → VR (Own U σ S) w σ y v) → CellsAt P (Own U σ S) w σ zs t 0 (.agg az) := by
        intro zs az hn h
        unfold CellsAt
        rw [ht, hz]
        refine ⟨az, rfl, fun i y _ hy => ?_⟩
        rw [Nat.zero_add] at hy
        obtain ⟨hi, -⟩ := List.getElem?_eq_some_iff.1 hy
        have := Array.getElem?_eq_getElem (xs := az) (i := i) (by omega)
        exact ⟨_, this, h i y _ hy this⟩
      obtain ⟨r, hr, hrun⟩ := flat_run 9992 8 t 0 l hs (.agg ax) (.agg ay) (cells hnx hcx) (cells hny hcy) true _ hK
      rw [Bool.true_and] at hr
      cases neg with
      | true => subst hop; exact ⟨_, .bool (!r), hr, .bool _, fun w' o' h _ => by simp [execOp, h, hva, hvb, run_eqGuard_agg (P := P) w' _ t x y ax ay hg, run_neq_struct, hrun]⟩
      | false => subst hop; exact ⟨_, .bool r, hr, .bool _, fun w' o' h _ => by simp [execOp, h, hva, hvb, run_eqGuard_agg (P := P) w' _ t x y ax ay hg, run_eql_struct, hrun]⟩
    · exact absurd hK.1 (by simp)
  · cases hs

theorem tyAgg_struct {t : TypeId} {fs : Array Field} (h : P.underlying t = some (.struct fs)) : tyAgg P t = some true := by unfold tyAgg; rw [h]
theorem tyAgg_array {t e : TypeId} {n : Nat} (h : P.underlying t = some (.array n e)) : tyAgg P t = some true := by unfold tyAgg; rw [h]

theorem rd_fget {t : TypeId} {fs : Array Field} {f : Nat} {fd : Field} {agg : Bool} {m : Nat} {x : Operand} {a : A} (ht : P.underlying t = some (.struct fs)) (hf : fs[f]? = some fd) (hg : tyAgg P fd.type = some agg) (hz : tySize P fd.type = some m) (hn : agg = true ∨ m = 1)
    (hx : VR (Own U σ S) w σ (e a) (ρ x)) (hK : rdK S (.fget agg fd.offset m a) e true K) : RdOk P U σ S w ρ (.field t x f) K := by
  unfold rdK at hK
  simp only at hK
  split at hK
  · rename_i cs h1
    rw [h1] at hx
    generalize hva : ρ x = va at hx
    obtain ⟨hle, hK⟩ := hK
    cases hx with
    | @agg _ _ arr hsz h =>
      have hrun : ∀ (w' : World) (o' : Oper) (v : Value), o'.op = .field t x f → (part fd.type arr fd.offset).run P w' = .ok v w' → (execOp ρ o').run P w' = .ok (.value v) w' := by
        intro w' o' v ho hp
        simp [execOp, ho, Instr.field, hva, run_underlying ht, hf, asAgg, hp]
      cases agg with
      | true =>
        refine ⟨_, .agg (arr.extract fd.offset (fd.offset + m)), hK, ?_, fun w' o' ho _ => hrun w' o' _ ho ?_⟩
        · simp only [partV, if_true]
          split
          · rename_i hc
            obtain ⟨hc0, hc1⟩ := hc
            have : arr.extract fd.offset (fd.offset + m) = arr := by
              apply Array.ext
              · simp [hsz]; omega
              · intro i h1 h2; simp [hc0]
            rw [this]; exact .agg hsz h
          · refine .agg (by simp [hsz]; omega) fun i y v hi hv => ?_
            rw [List.getElem?_take] at hi
            split at hi
            · rw [List.getElem?_drop] at hi
              rw [Array.getElem?_extract] at hv
              split at hv
              · exact h _ y v hi hv
              · cases hv
            · cases hi
        · simp [part, run_isAgg' hg, run_sizeOf' hz]
      | false =>
        have hm : m = 1 := by simpa using hn
        subst hm
        have hlt : fd.offset < arr.size := by omega
        refine ⟨_, arr[fd.offset], hK, ?_, fun w' o' ho _ => hrun w' o' _ ho ?_⟩
        · simp only [partV, Bool.false_eq_true, if_false]
          have : fd.offset < cs.length := by omega
          exact h _ _ _ (by simp [List.getD_eq_getElem?_getD, List.getElem?_eq_getElem this]) (Array.getElem?_eq_getElem hlt)
        · simp [part, run_isAgg' hg, Array.getElem?_eq_getElem hlt]
  · exact absurd hK.1 (by simp)

theorem mapM_resA' : ∀ {l : List Operand} {xs : List A}, l.mapM resA = some xs → xs.length = l.length ∧ ∀ (i : Nat) x a, l[i]? = some x → xs[i]? = some a → resA x = some a
  | [], xs, h => by simp at h; subst h; simp
  | o :: r, xs, h => by
    rw [List.mapM_cons] at h
    cases h1 : resA o with
    | none => simp [h1] at h
    | some a =>
      cases h2 : r.mapM resA with
      | none => simp [h1, h2] at h
      | some ys =>
        simp [h1, h2] at h
        subst h
        obtain ⟨e1, e2⟩ := mapM_resA' h2
        refine ⟨by simp [e1], fun i x b hi hb => ?_⟩
        cases i with
        | zero => simp only [List.getElem?_cons_zero, Option.some.injEq] at hi hb; subst hi hb; exact h1
        | succ i => simp only [List.getElem?_cons_succ] at hi hb; exact e2 i x b hi hb

theorem rd_mkfn {f : FuncId} {first caps : Array Operand} {xs : List A} (hf : first.toList = []) (hxs : caps.toList.mapM resA = some xs) (he : ∀ x a, resA x = some a → VR (Own U σ S) w σ (e a) (ρ x)) (hK : rdK S (.mkfn f xs) e true K) :
    RdOk P U σ S w ρ (.makeFunc (.func f) first caps) K := by
  obtain ⟨hl, hget⟩ := mapM_resA' hxs
  have hf0 : first = #[] := by simpa using hf
  refine ⟨_, .func (.func f) #[] (caps.map ρ), hK, .fn (by simp [hl]) fun i y v hi hv => ?_, fun w' o' ho _ => by simp [execOp, ho, Instr.makeFunc, hf0]⟩
  rw [List.getElem?_map, Option.map_eq_some_iff] at hi
  obtain ⟨a, ha, rfl⟩ := hi
  rw [Array.getElem?_map, Option.map_eq_some_iff] at hv
  obtain ⟨x, hx, rfl⟩ := hv
  exact he x a (hget i x a (by simpa using hx) ha)

theorem equalIn_nil {t el : TypeId} (ht : P.underlying t = some (.slice el)) (d : Nat) (b : Option Addr) (l c : Nat) (w' : World) :
    (Op.equalIn (d + 1) t (.slice b l c) (.slice none 0 0)).run P w' = .ok b.isNone w' := by
  cases b <;> simp [Op.equalIn, run_underlying ht]
theorem equal_nil {t el : TypeId} (ht : P.underlying t = some (.slice el)) (b : Option Addr) (l c : Nat) (w' : World) :
    (Op.equal t (.slice b l c) (.slice none 0 0)).run P w' = .ok b.isNone w' := equalIn_nil ht 9999 b l c w'
theorem guard_slices {op : BinOp} (h : op = .eql ∨ op = .neq) {t : TypeId} {x y : Operand} (b b' : Option Addr) (l c l' c' : Nat) (w' : World) :
    (eqGuard op t x y (.slice b l c) (.slice b' l' c')).run P w' = .ok () w' := by
  rcases h with rfl | rfl <;> simp [eqGuard]
theorem rd_isnil {neg : Bool} {op : BinOp} {t u el : TypeId} {x : Operand} {a : A} (ht : P.underlying t = some (.slice el)) (hop : op = if neg then .neq else .eql) (hc : ∀ v, ρ (.const v) = v)
    (hx : VR (Own U σ S) w σ (e a) (ρ x)) (hK : rdK S (.isnil neg a) e true K) : RdOk P U σ S w ρ (.binOp op t x (.const (.slice none 0 0)) u) K := by
  have run : ∀ (b : Option Addr) (l c : Nat), ρ x = .slice b l c → ∀ (w' : World) (o' : Oper), o'.op = .binOp op t x (.const (.slice none 0 0)) u → (execOp ρ o').run P w' = .ok (.value (.bool (if neg then !b.isNone else b.isNone))) w' := by
    intro b l c hb w' o' ho
    unfold execOp
    rw [ho]
    simp only [hb, hc]
    cases neg with
    | true =>
      obtain rfl : op = .neq := hop
      rw [show binOp .neq t (.slice b l c) (.slice none 0 0) = (do pure (.bool (!(← Op.equal t (.slice b l c) (.slice none 0 0))))) from rfl]
      simp only [Sem.run_bind, guard_slices (.inr rfl), Result.andThen_ok, equal_nil ht, Sem.run_pure, if_true]
    | false =>
      obtain rfl : op = .eql := hop
      rw [show binOp .eql t (.slice b l c) (.slice none 0 0) = (do pure (.bool (← Op.equal t (.slice b l c) (.slice none 0 0)))) from rfl]
      simp only [Sem.run_bind, guard_slices (.inl rfl), Result.andThen_ok, equal_nil ht, Sem.run_pure, Bool.false_eq_true, if_false]
  unfold rdK at hK
  simp only at hK
  split at hK
  · rename_i es t' x0 xs h1
    rw [h1] at hx
    generalize hva : ρ x = va at hx
    cases hx with
    | @lst _ _ _ _ ad cap b o cv ha hes hcap ht' q1 q3 q2 =>
      obtain ⟨rfl, -⟩ := ha (by simp)
      refine ⟨_, .bool neg, hK, .bool _, fun w' o' ho _ => ?_⟩
      rw [run _ _ _ hva w' o' ho]
      cases neg <;> rfl
  · rename_i l c h1
    rw [h1] at hx
    generalize hva : ρ x = va at hx
    cases hx
    refine ⟨_, .bool (!neg), hK, .bool _, fun w' o' ho _ => ?_⟩
    rw [run _ _ _ hva w' o' ho]
    cases neg <;> rfl
  · rename_i ad l c h1
    rw [h1] at hx
    generalize hva : ρ x = va at hx
    cases hx
    refine ⟨_, .bool neg, hK, .bool _, fun w' o' ho _ => ?_⟩
    rw [run _ _ _ hva w' o' ho]
    cases neg <;> rfl
  · exact absurd hK.1 (by simp)

theorem rd_nilck {x : Operand} {a : A} (hx : VR (Own U σ S) w σ (e a) (ρ x)) (hK : rdK S (.nilck a) e true K) : RdOk P U σ S w ρ (.nilCheck x) K := by
  unfold rdK at hK
  simp only at hK
  split at hK
  · rename_i h1
    rw [h1] at hx
    generalize hva : ρ x = va at hx
    cases hx with
    | ptr hs => exact ⟨_, _, hK, .ptr hs, fun w' o' h _ => by simp [execOp, h, hva]⟩
  · rename_i h1
    rw [h1] at hx
    generalize hva : ρ x = va at hx
    cases hx with
    | rp b o cv hlen hO hb h1 h3 h2 => exact ⟨_, _, hK, .rp b o cv hlen hO hb h1 h3 h2, fun w' o' h _ => by simp [execOp, h, hva]⟩
  · exact absurd hK.1 (by simp)

theorem rd_extr {i : Nat} {x : Operand} {a : A} (hx : VR (Own U σ S) w σ (e a) (ρ x)) (hK : rdK S (.extr i a) e true K) : RdOk P U σ S w ρ (.extract x i) K := by
  unfold rdK at hK
  simp only at hK
  split at hK
  · rename_i vs h1
    rw [h1] at hx
    generalize hva : ρ x = va at hx
    cases hx with
    | @tup _ _ arr hn h =>
      obtain ⟨hi, hK⟩ := hK
      have hi' : i < arr.size := hn ▸ hi
      refine ⟨_, arr[i], hK, h i _ _ ?_ (Array.getElem?_eq_getElem hi'), fun w' o' h _ => by simp [execOp, h, hva, Instr.extract, Array.getElem?_eq_getElem hi']⟩
      simp [List.getD_eq_getElem?_getD, List.getElem?_eq_getElem hi]
  · exact absurd hK.1 (by simp)

theorem rd_faddr {s : TypeId} {fs : Array Field} {f : Nat} {fd : Field} {m : Nat} {x : Operand} {a : A} (hs : P.underlying s = some (.struct fs)) (hf : fs[f]? = some fd) (hz : tySize P fd.type = some (m + 1))
    (hx : VR (Own U σ S) w σ (e a) (ρ x)) (hK : rdK S (.faddr fd.offset a) e true K) : RdOk P U σ S w ρ (.fieldAddr s x f) K := by
  have run : ∀ (b o : Nat), ρ x = .pointer (some ⟨b, o, none⟩) → ∀ (w' : World) (o' : Oper), o'.op = .fieldAddr s x f → (execOp ρ o').run P w' = .ok (.value (.pointer (some ⟨b, o + fd.offset, none⟩))) w' := by
    intro b o hv w' o' h
    simp [execOp, h, Instr.fieldAt, run_underlying hs, hf, Instr.sureAddr, hv, fieldPlace, run_sizeOf' hz, add_none]
  unfold rdK at hK
  simp only at hK
  split at hK
  · rename_i k i c h1
    rw [h1] at hx
    generalize hva : ρ x = va at hx
    cases hx with
    | @ptr _ _ _ _ b es cap hs' => exact ⟨_, .pointer (some ⟨b, i * es + (c + fd.offset), none⟩), hK, .ptr hs', fun w' o' h _ => by rw [run _ _ hva w' o' h, Nat.add_assoc]⟩
  · rename_i es cs c h1
    rw [h1] at hx
    generalize hva : ρ x = va at hx
    cases hx with
    | rp b o cv hlen hO hb h1 h3 h2 => exact ⟨_, .pointer (some ⟨b, o + (c + fd.offset), none⟩), hK, .rp b o cv hlen hO hb h1 h3 h2, fun w' o' h _ => by rw [run _ _ hva w' o' h, Nat.add_assoc]⟩
  · exact absurd hK.1 (by simp)

theorem asIntOf_int (k : IntKind) (j : Int) : asIntOf (.int k j) = pure (k, j) := rfl

theorem rd_iaddr {t el : TypeId} {es : Nat} {x i : Operand} {a b : A} (ht : P.underlying t = some (.slice el)) (hz : tySize P el = some es) (hR : RelS U σ S w n)
    (hx : VR (Own U σ S) w σ (e a) (ρ x)) (hy : VR (Own U σ S) w σ (e b) (ρ i)) (hK : rdK S (.iaddr es a b) e true K) : RdOk P U σ S w ρ (.indexAddr t x i) K := by
  replace hx := unk_VR hx
  have run : ∀ (k : IntKind) (j : Int) (bl o len cap : Nat), ρ x = .slice (some ⟨bl, o, none⟩) len cap → ρ i = .int k j → 0 ≤ j → j < (len : Int) →
      ∀ (w' : World) (o' : Oper), o'.op = .indexAddr t x i → (execOp ρ o').run P w' = .ok (.value (.pointer (some ⟨bl, o + j.toNat * es, none⟩))) w' := by
    intro k j bl o len cap h1 h2 h3 h4 w' o' h
    simp [execOp, h, Instr.indexAt, h1, h2, asIntOf_int, run_underlying ht, h3, h4, run_sizeOf' hz, add_none]
  unfold rdK at hK
  simp only at hK
  split at hK
  · rename_i k off len k2 j h1 h2
    rw [h1] at hx
    rw [h2] at hy
    generalize hva : ρ x = va at hx
    generalize hvb : ρ i = vb at hy
    cases hy
    split at hK
    · rename_i es' xs ho
      obtain ⟨rfl, hj, hK⟩ := hK
      obtain ⟨hj0, hj1⟩ := hj trivial
      cases hx with
      | @sl _ _ _ _ bl es cap ad hs hle ha =>
        have hes : es = es' := by
          have := hR.obj k _ ho
          rw [hs] at this
          exact this.2.1
        subst hes
        have hlt : off < cap := by omega
        have hva' := ha hlt
        rw [hva'] at hva
        refine ⟨_, .pointer (some ⟨bl, (off + j.toNat) * es + 0, none⟩), hK, .ptr hs, fun w' o' h _ => ?_⟩
        rw [run _ _ _ _ _ _ hva hvb hj0 hj1 w' o' h]
        simp [Nat.add_mul]
      | sl0 hs => simp only [Int.ofNat_eq_natCast, Int.natCast_zero] at hj1; omega
    · exact absurd hK.1 (by simp)
  · rename_i es' t' xs k2 j h1 h2
    rw [h1] at hx
    rw [h2] at hy
    generalize hva : ρ x = va at hx
    generalize hvb : ρ i = vb at hy
    cases hy
    obtain ⟨hj, hK⟩ := hK
    obtain ⟨rfl, hj0, hj1⟩ := hj trivial
    cases hx with
    | @lst _ _ _ _ ad cap bl o cv ha hes hcap ht' hc1 hc3 hc2 =>
      have hlt : j.toNat < xs.length := by omega
      obtain ⟨rfl, hO, hb⟩ := ha (by rintro rfl; simp at hlt)
      have hg : xs.getD j.toNat [] = xs[j.toNat] := by simp [List.getD_eq_getElem?_getD, List.getElem?_eq_getElem hlt]
      refine ⟨_, .pointer (some ⟨bl, (o + j.toNat * es') + 0, none⟩), hK, ?_, fun w' o' h _ => ?_⟩
      · rw [hg]
        exact .rp bl (o + j.toNat * es') (fun c => cv j.toNat c) (hes _ (List.getElem_mem hlt)) hO hb (fun c hc => hc1 _ _ hlt hc) (fun c hc => hc3 _ _ hlt hc) fun c y hy => hc2 _ _ c y (List.getElem?_eq_getElem hlt) hy
      · rw [run _ _ _ _ _ _ hva hvb hj0 hj1 w' o' h]; rfl
  · exact absurd hK.1 (by simp)

theorem rd_iarr {t el : TypeId} {m es : Nat} {x i : Operand} {a b : A} (ht : P.underlying t = some (.array m el)) (hz : tySize P el = some es)
    (hx : VR (Own U σ S) w σ (e a) (ρ x)) (hy : VR (Own U σ S) w σ (e b) (ρ i)) (hK : rdK S (.iarr m es a b) e true K) : RdOk P U σ S w ρ (.indexAddr t x i) K := by
  have run : ∀ (k : IntKind) (j : Int) (bl o : Nat), ρ x = .pointer (some ⟨bl, o, none⟩) → ρ i = .int k j → 0 ≤ j → j < (m : Int) →
      ∀ (w' : World) (o' : Oper), o'.op = .indexAddr t x i → (execOp ρ o').run P w' = .ok (.value (.pointer (some ⟨bl, o + j.toNat * es, none⟩))) w' := by
    intro k j bl o h1 h2 h3 h4 w' o' h
    simp [execOp, h, Instr.indexAt, h1, h2, asIntOf_int, run_underlying ht, h3, h4, run_sizeOf' hz, add_none, Instr.sureAddr]
  unfold rdK at hK
  simp only at hK
  split at hK
  · rename_i k i0 c k2 j h1 h2
    rw [h1] at hx
    rw [h2] at hy
    generalize hva : ρ x = va at hx
    generalize hvb : ρ i = vb at hy
    cases hy
    obtain ⟨hj, hK⟩ := hK
    obtain ⟨hj0, hj1⟩ := hj trivial
    cases hx with
    | @ptr _ _ _ _ bl es2 cap hs =>
      refine ⟨_, .pointer (some ⟨bl, i0 * es2 + (c + j.toNat * es), none⟩), hK, .ptr hs, fun w' o' h _ => ?_⟩
      rw [run _ _ _ _ hva hvb hj0 hj1 w' o' h, Nat.add_assoc]
  · rename_i es2 cs c k2 j h1 h2
    rw [h1] at hx
    rw [h2] at hy
    generalize hva : ρ x = va at hx
    generalize hvb : ρ i = vb at hy
    cases hy
    obtain ⟨hj, hK⟩ := hK
    obtain ⟨hj0, hj1⟩ := hj trivial
    cases hx with
    | rp bl o cv hlen hO hb h1 h3 h2 =>
      refine ⟨_, .pointer (some ⟨bl, o + (c + j.toNat * es), none⟩), hK, .rp bl o cv hlen hO hb h1 h3 h2, fun w' o' h _ => ?_⟩
      rw [run _ _ _ _ hva hvb hj0 hj1 w' o' h, Nat.add_assoc]
  · exact absurd hK.1 (by simp)

theorem rd_aidx {t el : TypeId} {m : Nat} {x i : Operand} {a b : A} (ht : P.underlying t = some (.array m el)) (hz : tyAgg P el = some false ∧ tySize P el = some 1)
    (hx : VR (Own U σ S) w σ (e a) (ρ x)) (hy : VR (Own U σ S) w σ (e b) (ρ i)) (hK : rdK S (.aidx m a b) e true K) : RdOk P U σ S w ρ (.index t x i) K := by
  unfold rdK at hK
  simp only at hK
  split at hK
  · rename_i cs k j h1 h2
    rw [h1] at hx
    rw [h2] at hy
    generalize hva : ρ x = va at hx
    generalize hvb : ρ i = vb at hy
    cases hy
    obtain ⟨hl, hj, hK⟩ := hK
    obtain ⟨hj0, hj1⟩ := hj trivial
    cases hx with
    | @agg _ _ arr hn h =>
      have hi' : j.toNat < arr.size := by omega
      refine ⟨_, arr[j.toNat], hK, h j.toNat _ _ ?_ (Array.getElem?_eq_getElem hi'), fun w' o' h _ => ?_⟩
      · have : j.toNat < cs.length := by omega
        simp [List.getD_eq_getElem?_getD, List.getElem?_eq_getElem this]
      · simp [execOp, h, Instr.index, hva, hvb, asIntOf_int, run_underlying ht, hj0, hj1, run_sizeOf' hz.2, part, run_isAgg' hz.1, Array.getElem?_eq_getElem hi']
  · exact absurd hK.1 (by simp)

theorem rd_len {t el : TypeId} {ty : TypeId} {x : Operand} {a : A} (ht : P.underlying t = some (.slice el)) (o : Op) (ho : o = .call { callee := .builtin .len, args := #[x], argTypes := #[t] })
    (hx : VR (Own U σ S) w σ (e a) (ρ x)) (hK : rdK S (.len a) e true K) : RdOk P U σ S w ρ o K := by
  replace hx := unk_VR hx
  have run : ∀ (ad : Option Addr) (len cap : Nat), ρ x = .slice ad len cap → ∀ (w' : World) (o' : Oper), o'.op = o → (execOp ρ o').run P w' = .ok (.value (.int .i64 (len : Int))) w' := by
    intro ad len cap h1 w' o' h
    simp [execOp, h, ho, resolve, invoke, builtin, Builtin.len_, h1, run_underlying ht, goInt]
  unfold rdK at hK
  simp only at hK
  split at hK
  · rename_i k off len h1
    rw [h1] at hx
    generalize hva : ρ x = va at hx
    cases hx with
    | sl hs hle ha => exact ⟨_, _, hK, .int _ _, fun w' o' h _ => run _ _ _ hva w' o' h⟩
    | sl0 hs => exact ⟨_, _, hK, .int _ _, fun w' o' h _ => run _ _ _ hva w' o' h⟩
  · rename_i es t' xs h1
    rw [h1] at hx
    generalize hva : ρ x = va at hx
    cases hx with
    | lst b o cv ha hes hcap ht hc1 hc3 hc2 => exact ⟨_, _, hK, .int _ _, fun w' o' h _ => run _ _ _ hva w' o' h⟩
  · exact absurd hK.1 (by simp)

theorem rd_max {x y : Operand} {a b : A} {ts : Array TypeId} (o : Op) (ho : o = .call { callee := .builtin .max, args := #[x, y], argTypes := ts })
    (hx : VR (Own U σ S) w σ (e a) (ρ x)) (hy : VR (Own U σ S) w σ (e b) (ρ y)) (hK : rdK S (.mx a b) e true K) : RdOk P U σ S w ρ o K := by
  unfold rdK at hK
  simp only at hK
  split at hK
  · rename_i k m k' m' h1 h2
    rw [h1] at hx
    rw [h2] at hy
    generalize hva : ρ x = va at hx
    generalize hvb : ρ y = vb at hy
    cases hx
    cases hy
    refine ⟨_, _, hK, .int _ _, fun w' o' h _ => ?_⟩
    simp [execOp, h, ho, resolve, invoke, builtin, Builtin.max_, Builtin.max2, hva, hvb]
    omega
  · exact absurd hK.1 (by simp)

theorem rd_min {x y : Operand} {a b : A} {ts : Array TypeId} (o : Op) (ho : o = .call { callee := .builtin .min, args := #[x, y], argTypes := ts })
    (hx : VR (Own U σ S) w σ (e a) (ρ x)) (hy : VR (Own U σ S) w σ (e b) (ρ y)) (hK : rdK S (.mn a b) e true K) : RdOk P U σ S w ρ o K := by
  unfold rdK at hK
  simp only at hK
  split at hK
  · rename_i k m k' m' h1 h2
    rw [h1] at hx
    rw [h2] at hy
    generalize hva : ρ x = va at hx
    generalize hvb : ρ y = vb at hy
    cases hx
    cases hy
    refine ⟨_, _, hK, .int _ _, fun w' o' h _ => ?_⟩
    simp [execOp, h, ho, resolve, invoke, builtin, Builtin.min_, Builtin.min2, hva, hvb]
    omega
  · exact absurd hK.1 (by simp)

/-- The bounds of a slice expression: none, or an int. -/
def bnd (ρ : Operand → Value) (o : Option Operand) (d : Int) (j : Int) : Prop :=
  match o with
  | none => j = d
  | some x => ∃ k, ρ x = .int k j

theorem run_slice' {t el : TypeId} {es : Nat} {x : Operand} {lo hi : Option Operand} (ht : P.underlying t = some (.slice el)) (hz : tySize P el = some es)
    {ad : Option Addr} {len cap : Nat} {l h : Int} (hx : ρ x = .slice ad len cap) (hl : bnd ρ lo 0 l) (hh : bnd ρ hi (len : Int) h) (hcap : len ≤ cap) (h0 : 0 ≤ l) (h1 : l ≤ h) (h2 : h ≤ (len : Int))
    (w' : World) (o' : Oper) (ho : o'.op = .slice t x lo hi none) :
    (execOp ρ o').run P w' = .ok (.value (.slice (if cap = l.toNat then ad else ad.map (·.add (l.toNat * es))) (h.toNat - l.toNat) (cap - l.toNat))) w' := by
  have hhc : h ≤ (cap : Int) := by omega
  have h0h : 0 ≤ h := by omega
  have el : ((h.toNat : Nat) : Int) = h := Int.toNat_of_nonneg h0h
  cases lo with
  | none =>
    obtain rfl : l = 0 := hl
    cases hi with
    | none =>
      obtain rfl : h = (len : Int) := hh
      simp [execOp, ho, Instr.sliceAt, run_underlying ht, Instr.slice, hx, Instr.sliceBounds, run_sizeOf' hz]
    | some y =>
      obtain ⟨k, hy⟩ := hh
      simp [execOp, ho, Instr.sliceAt, run_underlying ht, Instr.slice, hx, Instr.sliceBounds, run_sizeOf' hz, hy, Instr.sliceBound, asIntOf_int, h0h, hhc]
  | some z =>
    obtain ⟨kz, hz'⟩ := hl
    cases hi with
    | none =>
      obtain rfl : h = (len : Int) := hh
      simp [execOp, ho, Instr.sliceAt, run_underlying ht, Instr.slice, hx, Instr.sliceBounds, run_sizeOf' hz, hz', Instr.sliceBound, asIntOf_int, h0, h1]
    | some y =>
      obtain ⟨k, hy⟩ := hh
      simp [execOp, ho, Instr.sliceAt, run_underlying ht, Instr.slice, hx, Instr.sliceBounds, run_sizeOf' hz, hy, hz', Instr.sliceBound, asIntOf_int, h0h, hhc, h0, el, h1]

theorem rd_slc {t el : TypeId} {es : Nat} {x : Operand} {lo hi : Option Operand} {a : A} {la ha : Option A} (ht : P.underlying t = some (.slice el)) (hz : tySize P el = some es) (hR : RelS U σ S w n)
    (hx : VR (Own U σ S) w σ (e a) (ρ x))
    (hlo : match lo, la with | none, none => True | some l, some l' => VR (Own U σ S) w σ (e l') (ρ l) | _, _ => False)
    (hhi : match hi, ha with | none, none => True | some l, some l' => VR (Own U σ S) w σ (e l') (ρ l) | _, _ => False)
    (hK : rdK S (.slc es a la ha) e true K) : RdOk P U σ S w ρ (.slice t x lo hi none) K := by
  replace hx := unk_VR hx
  have bl : ∀ (o : Option Operand) (oa : Option A) (d j : Int) (k : IntKind), (match o, oa with | none, none => True | some l, some l' => VR (Own U σ S) w σ (e l') (ρ l) | _, _ => False) →
      (match oa with | none => V.int .i64 d | some l => e l) = .int k j → bnd ρ o d j := by
    intro o oa d j k h1 h2
    cases o with
    | none =>
      cases oa with
      | none => simp only [V.int.injEq] at h2; exact h2.2.symm
      | some _ => exact h1.elim
    | some x =>
      cases oa with
      | none => exact h1.elim
      | some x' =>
        simp only at h1 h2
        rw [h2] at h1
        generalize hv : ρ x = v at h1
        cases h1
        exact ⟨k, hv⟩
  unfold rdK at hK
  simp only at hK
  split at hK
  · rename_i k off len h1
    rw [h1] at hx
    generalize hva : ρ x = va at hx
    split at hK
    · rename_i es' xs ho
      split at hK
      · rename_i k1 l k2 h e1 e2
        obtain ⟨rfl, hb, hK⟩ := hK
        obtain ⟨b0, b1, b2⟩ := hb trivial
        have B1 := bl lo la 0 l k1 hlo e1
        have B2 := bl hi ha (len : Int) h k2 hhi e2
        cases hx with
        | @sl _ _ _ _ blk es2 cap ad hs hle had =>
          have hes : es2 = es' := by
            have := hR.obj k _ ho
            rw [hs] at this
            exact this.2.1
          subst hes
          refine ⟨_, _, hK, ?_, fun w' o' hop _ => run_slice' ht hz hva B1 B2 (by omega) b0 b1 b2 w' o' hop⟩
          rw [show cap - off - l.toNat = cap - (off + l.toNat) by omega]
          refine .sl hs (by omega) fun hlt => ?_
          rw [if_neg (by omega), had (by omega)]
          simp [add_none, Nat.add_mul]
        | sl0 hs =>
          simp only [Int.natCast_zero] at b2
          obtain rfl : l = 0 := by omega
          obtain rfl : h = 0 := by omega
          exact ⟨_, _, hK, .sl0 hs, fun w' o' hop _ => by rw [run_slice' ht hz hva B1 B2 (by omega) b0 b1 b2 w' o' hop]; rfl⟩
      · exact absurd hK.1 (by simp)
    · exact absurd hK.1 (by simp)
  · rename_i es' t' xs h1
    rw [h1] at hx
    generalize hva : ρ x = va at hx
    split at hK
    · rename_i k1 l k2 h e1 e2
      obtain ⟨hb, hK⟩ := hK
      obtain ⟨b3, b0, b1, b2⟩ := hb trivial
      have B1 := bl lo la 0 l k1 hlo e1
      have B2 := bl hi ha (xs.length : Int) h k2 hhi e2
      cases hx with
      | @lst _ _ _ _ ad cap blk o cv had hes hcap ht' hc1 hc3 hc2 =>
        have hlen : (List.drop l.toNat (List.take h.toNat xs)).length = h.toNat - l.toNat := by simp; omega
        have hget : ∀ i, i < h.toNat - l.toNat → (List.drop l.toNat (List.take h.toNat xs))[i]? = xs[l.toNat + i]? := by
          intro i hi
          rw [List.getElem?_drop, List.getElem?_take, if_pos (by omega)]
        refine ⟨_, .slice (if cap = l.toNat then ad else ad.map (·.add (l.toNat * es))) (List.drop l.toNat (List.take h.toNat xs)).length (cap - l.toNat), hK, ?_, fun w' o' hop _ => ?_⟩
        · refine .lst blk (o + l.toNat * es') (fun i c => cv (l.toNat + i) c) (fun hne => ?_) (fun x hx => hes x (List.mem_of_mem_take (List.mem_of_mem_drop hx))) (by rw [hlen]; omega) (by simp) (fun i c hi hc => ?_) (fun i c hi hc => hc3 _ _ (by rw [hlen] at hi; omega) hc) fun i x c y hi hy => ?_
          · have hpos : 0 < (List.drop l.toNat (List.take h.toNat xs)).length := List.length_pos_iff.2 hne
            rw [hlen] at hpos
            have hxs : xs ≠ [] := by rintro rfl; simp at b2; omega
            obtain ⟨rfl, hO, hblk⟩ := had hxs
            rw [if_neg (by omega)]
            rcases b3 with rfl | h
            · exact ⟨by simp [add_none], hO, hblk⟩
            · exact absurd h hxs
          · rw [hlen] at hi
            have := hc1 (l.toNat + i) c (by omega) hc
            rw [Nat.add_mul, ← Nat.add_assoc] at this
            exact this
          · obtain ⟨hi', _⟩ := List.getElem?_eq_some_iff.1 hi
            rw [hlen] at hi'
            rw [hget i hi'] at hi
            exact hc2 _ _ _ _ hi hy
        · rw [run_slice' ht hz hva B1 B2 hcap b0 b1 b2 w' o' hop, hlen]
    · exact absurd hK.1 (by simp)
  · exact absurd hK.1 (by simp)

theorem run_slice3' {t el : TypeId} {es : Nat} {x hi mx : Operand} {lo : Option Operand} (ht : P.underlying t = some (.slice el)) (hz : tySize P el = some es)
    {ad : Option Addr} {len cap : Nat} {l h : Int} {k1 k2 : IntKind} (hx : ρ x = .slice ad len cap) (hl : bnd ρ lo 0 l) (hh : ρ hi = .int k1 h) (hm : ρ mx = .int k2 h) (hcap : len ≤ cap) (h0 : 0 ≤ l) (h1 : l ≤ h) (h2 : h ≤ (len : Int))
    (w' : World) (o' : Oper) (ho : o'.op = .slice t x lo (some hi) (some mx)) :
    (execOp ρ o').run P w' = .ok (.value (.slice (if h.toNat = l.toNat then ad else ad.map (·.add (l.toNat * es))) (h.toNat - l.toNat) (h.toNat - l.toNat))) w' := by
  have hhc : h ≤ (cap : Int) := by omega
  have h0h : 0 ≤ h := by omega
  have el : ((h.toNat : Nat) : Int) = h := Int.toNat_of_nonneg h0h
  cases lo with
  | none =>
    obtain rfl : l = 0 := hl
    simp [execOp, ho, Instr.sliceAt, run_underlying ht, Instr.slice, hx, Instr.sliceBounds, run_sizeOf' hz, hh, hm, Instr.sliceBound, asIntOf_int, h0h, hhc, el]
  | some z =>
    obtain ⟨kz, hz'⟩ := hl
    simp [execOp, ho, Instr.sliceAt, run_underlying ht, Instr.slice, hx, Instr.sliceBounds, run_sizeOf' hz, hh, hm, hz', Instr.sliceBound, asIntOf_int, h0h, hhc, h0, el, h1]

theorem rd_slc3 {t el : TypeId} {es : Nat} {x hi mx : Operand} {lo : Option Operand} {a ha ma : A} {la : Option A} (ht : P.underlying t = some (.slice el)) (hz : tySize P el = some es) (hR : RelS U σ S w n)
    (hx : VR (Own U σ S) w σ (e a) (ρ x))
    (hlo : match lo, la with | none, none => True | some l, some l' => VR (Own U σ S) w σ (e l') (ρ l) | _, _ => False)
    (hhi : VR (Own U σ S) w σ (e ha) (ρ hi)) (hmx : VR (Own U σ S) w σ (e ma) (ρ mx))
    (hK : rdK S (.slc3 es a la ha ma) e true K) : RdOk P U σ S w ρ (.slice t x lo (some hi) (some mx)) K := by
  replace hx := unk_VR hx
  unfold rdK at hK
  simp only at hK
  split at hK
  · rename_i k off len h1
    rw [h1] at hx
    generalize hva : ρ x = va at hx
    split at hK
    · rename_i es' xs ho
      split at hK
      · rename_i k1 l k2 h k3 m e1 e2 e3
        obtain ⟨rfl, hb, hK⟩ := hK
        obtain ⟨b0, b1, rfl, b2⟩ := hb trivial
        rw [e2] at hhi
        rw [e3] at hmx
        generalize hvh : ρ hi = vh at hhi
        generalize hvm : ρ mx = vm at hmx
        cases hhi
        cases hmx
        have B1 : bnd ρ lo 0 l := by
          cases lo with
          | none =>
            cases la with
            | none => simp only [V.int.injEq] at e1; exact e1.2.symm
            | some _ => exact hlo.elim
          | some z =>
            cases la with
            | none => exact hlo.elim
            | some z' =>
              simp only at hlo e1
              rw [e1] at hlo
              generalize hv : ρ z = v at hlo
              cases hlo
              exact ⟨_, hv⟩
        cases hx with
        | @sl _ _ _ _ blk es2 cap ad hs hle had =>
          have hes : es2 = es' := by
            have := hR.obj k _ ho
            rw [hs] at this
            exact this.2.1
          subst hes
          refine ⟨_, _, hK, ?_, fun w' o' hop _ => run_slice3' ht hz hva B1 hvh hvm (by omega) b0 b1 b2 w' o' hop⟩
          refine .slx hs (by omega) fun hlt => ?_
          rw [if_neg (by omega), had (by omega)]
          simp [add_none, Nat.add_mul]
        | sl0 hs =>
          simp only [Int.natCast_zero] at b2
          obtain rfl : l = 0 := by omega
          obtain rfl : h = 0 := by omega
          exact ⟨_, _, hK, .slx0 hs, fun w' o' hop _ => by rw [run_slice3' ht hz hva B1 hvh hvm (by omega) b0 b1 b2 w' o' hop]; rfl⟩
      · exact absurd hK.1 (by simp)
    · exact absurd hK.1 (by simp)
  · exact absurd hK.1 (by simp)

/-- How keys of one kind are met in maps. -/
structure KeyLaw (P : Program) (kt : TypeId) (key : List Int) : Prop where
  chk : ∀ em w, (Instr.checkKey em 10000 kt (kyV key)).run P w = .ok () w
  stay : ∀ w, (Instr.keyThatStays (kyV key) (kyV key)).run P w = .ok (kyV key) w
  find : ∀ (O : Nat → Prop) (w : World) (z : V) (l : List MapEntry) (xs : List (List Int × V)), l.length = xs.length → (∀ (i : Nat) (p : List Int × V), xs[i]? = some p → ∃ en, l[i]? = some en ∧ (p.1.length = key.length ∧ en.key = kyV p.1) ∧ VR O w (fun _ => none) p.2 en.val) →
    ((∀ w', (Instr.findKey kt (kyV key) l).run P w' = .ok none w') ∧ mhasV xs key = false ∧ mgetV xs key z = z ∧ (∀ v, msetV xs key v = xs ++ [(key, v)])) ∨
    ∃ idx val, (∀ w', (Instr.findKey kt (kyV key) l).run P w' = .ok (some (idx, val)) w') ∧ mhasV xs key = true ∧ VR O w (fun _ => none) (mgetV xs key z) val ∧ idx < xs.length ∧ (∀ p, xs[idx]? = some p → p.1 = key) ∧ (∀ v, msetV xs key v = xs.set idx (key, v))

theorem find_mget {O : Nat → Prop} {R : List MapEntry → Nat → Option (Nat × Value) → Prop} (key : List Int) (hnil : ∀ i, R [] i none) (hhit : ∀ en l i, en.key = kyV key → R (en :: l) i (some (i, en.val)))
    (hmiss : ∀ en l i k r, k.length = key.length → k ≠ key → en.key = kyV k → R l (i + 1) r → R (en :: l) i r) (z : V) :
    ∀ (l : List MapEntry) (xs : List (List Int × V)) (i0 : Nat), l.length = xs.length → (∀ (i : Nat) (p : List Int × V), xs[i]? = some p → ∃ en, l[i]? = some en ∧ (p.1.length = key.length ∧ en.key = kyV p.1) ∧ VR O w (fun _ => none) p.2 en.val) →
    (R l i0 none ∧ mhasV xs key = false ∧ mgetV xs key z = z ∧ (∀ v, msetV xs key v = xs ++ [(key, v)])) ∨
    ∃ idx val, R l i0 (some (i0 + idx, val)) ∧ mhasV xs key = true ∧ VR O w (fun _ => none) (mgetV xs key z) val ∧ idx < xs.length ∧ (∀ p, xs[idx]? = some p → p.1 = key) ∧ (∀ v, msetV xs key v = xs.set idx (key, v))
  | [], [], i0, _, _ => .inl ⟨hnil i0, rfl, rfl, fun _ => rfl⟩
  | [], _ :: _, _, h, _ => by simp at h
  | _ :: _, [], _, h, _ => by simp at h
  | en :: l, (k, v) :: xs, i0, h, hx => by
    obtain ⟨en', h1, ⟨hl, h2⟩, h3⟩ := hx 0 (k, v) rfl
    obtain rfl : en = en' := by simpa using h1
    by_cases hk : k = key
    · subst hk
      refine .inr ⟨0, en.val, hhit _ _ _ h2, by simp [mhasV], by simpa [mgetV] using h3, by simp, fun p hp => ?_, fun u => by simp [msetV]⟩
      simp only [List.getElem?_cons_zero, Option.some.injEq] at hp; rw [← hp]
    · rcases find_mget key hnil hhit hmiss z l xs (i0 + 1) (by simpa using h) (fun i p hp => by simpa using hx (i + 1) p (by simpa using hp)) with ⟨q1, q2, q3, q4⟩ | ⟨idx, val, q1, q2, q3, q4, q5, q6⟩
      · exact .inl ⟨hmiss _ _ _ _ _ hl hk h2 q1, by simp [mhasV, hk, q2], by simp [mgetV, hk, q3], fun u => by simp [msetV, hk, q4 u]⟩
      · refine .inr ⟨idx + 1, val, ?_, by simp [mhasV, hk, q2], by simpa [mgetV, hk] using q3, by simp; omega, fun p hp => q5 p (by simpa using hp), fun u => by simp [msetV, hk, q6 u]⟩
        have := hmiss en l i0 k _ hl hk h2 q1
        rwa [show i0 + (idx + 1) = i0 + 1 + idx by omega]

/-- One number as a key. -/
theorem KeyLaw.int {kt : TypeId} (hk : P.underlying kt = some (.int .i64)) (j : Int) : KeyLaw P kt [j] where
  chk em w := MapKept.run_checkKey (k := .int .i64 j) hk (by simp [MapKept.IsKey]) em 9999
  stay w := MapKept.run_keyThatStays (d := .int .i64) (k := .int .i64 j) (by simp [MapKept.IsKey])
  find O w z l xs hl hx := by
    rcases find_mget (O := O) (w := w) (R := fun l i r => Instr.findNow (.int .i64) (.int .i64 j) l i = some r) [j] (fun _ => rfl) (fun en l i he => by simp [Instr.findNow, Instr.sameNow, he, kyV])
      (fun en l i k r hkl hne he hr => by
        match k, hkl with
        | [n], _ =>
          have hnj : (j == n) = false := by simpa using fun e : j = n => hne (by rw [e])
          simpa [Instr.findNow, Instr.sameNow, he, kyV, hnj] using hr) z l xs 0 hl hx with ⟨q1, q2⟩ | ⟨idx, val, q1, q2⟩
    · exact .inl ⟨fun w' => MapKept.run_findKey hk q1, q2⟩
    · rw [Nat.zero_add] at q1
      exact .inr ⟨idx, val, fun w' => MapKept.run_findKey hk q1, q2⟩

/-- A struct of numbers as a key: nothing in it can't be one. -/
theorem run_checkKey_nums {kt : TypeId} {fs : Array Field} (hu : P.underlying kt = some (.struct fs)) {cs : Array Value} (hf : ∀ f ∈ fs.toList, P.underlying f.type = some (.int .i64) ∧ tyAgg P f.type = some false ∧ f.offset < cs.size) (em : Bool) (n : Nat) :
    (Instr.checkKey em (n + 2) kt (.agg cs)).run P w = .ok () w := by
  have one : ∀ f ∈ fs.toList, ∃ v, (part f.type cs f.offset).run P w = .ok v w ∧ (Instr.checkKey em (n + 1) f.type v).run P w = .ok () w := fun f hm => by
    obtain ⟨h1, h2, h3⟩ := hf f hm
    refine ⟨cs[f.offset], by simp [part, run_isAgg' h2, Array.getElem?_eq_getElem h3], ?_⟩
    unfold Instr.checkKey
    simp only [Sem.run_bind, run_underlying h1, Result.andThen_ok]
    rfl
  unfold Instr.checkKey
  simp only [Sem.run_bind, run_underlying hu, Result.andThen_ok]
  rw [← Array.forIn_toList]
  generalize fs.toList = l at one
  induction l with
  | nil => simp
  | cons f r ih =>
    obtain ⟨v, h1, h2⟩ := one f (by simp)
    rw [List.forIn_cons]
    by_cases hn : f.name = "_"
    · simp only [hn, ne_eq, not_true_eq_false, if_false]
      simp only [Sem.run_bind, Sem.run_pure, Result.andThen_ok]
      exact ih fun g hg => one g (by simp [hg])
    · simp only [hn, ne_eq, not_false_eq_true, if_true]
      simp only [Sem.run_bind, h1, h2, Sem.run_pure, Result.andThen_ok]
      exact ih fun g hg => one g (by simp [hg])

/-- Two keys of two numbers are compared. -/
theorem run_equal_pair {t : TypeId} (ht : tyAgg P t = some true) (hs : flatT P 8 t 0 = some [(0, .i), (1, .i)]) (hz : tySize P t = some 2) (a b c d : Int) (w : World) :
    (Op.equal t (.agg #[.int .i64 a, .int .i64 b]) (.agg #[.int .i64 c, .int .i64 d])).run P w = .ok (decide ([c, d] = [a, b])) w := by
  have cells : ∀ x y : Int, CellsAt P (fun _ => False) w (fun _ => none) [.int .i64 x, .int .i64 y] t 0 (.agg #[.int .i64 x, .int .i64 y]) := fun x y => by
    unfold CellsAt
    rw [ht, hz]
    refine ⟨_, rfl, fun i u hi hu => ?_⟩
    match i with
    | 0 => simp at hu; subst hu; exact ⟨_, rfl, .int _ _⟩
    | 1 => simp at hu; subst hu; exact ⟨_, rfl, .int _ _⟩
    | i + 2 => omega
  obtain ⟨r, hr, hrun⟩ := flat_run 9992 8 t 0 _ hs _ _ (cells a b) (cells c d) true (fun r => r = (true && (a == c) && (b == d))) ⟨rfl, rfl, rfl⟩
  rw [Bool.true_and] at hr
  rw [show (Op.equal t (.agg #[.int .i64 a, .int .i64 b]) (.agg #[.int .i64 c, .int .i64 d])) = Op.equalIn (9992 + 8) t (.agg #[.int .i64 a, .int .i64 b]) (.agg #[.int .i64 c, .int .i64 d]) from rfl, hrun w, hr]
  congr 1
  rw [Bool.eq_iff_iff]
  simp only [Bool.and_eq_true, Bool.true_and, beq_iff_eq, decide_eq_true_iff, List.cons.injEq, and_true]
  constructor <;> rintro ⟨rfl, rfl⟩ <;> exact ⟨rfl, rfl⟩

theorem pairT_spec {kt : TypeId} {fs : Array Field} (h : pairT P kt fs = true) : tyAgg P kt = some true ∧ tySize P kt = some 2 ∧ flatT P 8 kt 0 = some [(0, .i), (1, .i)] ∧ ∀ f ∈ fs.toList, P.underlying f.type = some (.int .i64) ∧ tyAgg P f.type = some false ∧ f.offset < 2 := by
  unfold pairT at h
  rw [Bool.and_eq_true] at h
  obtain ⟨h1, h2⟩ := h
  split at h1
  · rename_i e1 e2 e3
    refine ⟨e1, e2, e3, fun f hf => ?_⟩
    have := List.all_eq_true.1 h2 f hf
    rw [Bool.and_eq_true, Bool.and_eq_true] at this
    obtain ⟨g1, g2, g3⟩ := this
    refine ⟨?_, ?_, by simp [Nat.blt] at g3; omega⟩
    · unfold isI64 at g1
      split at g1
      · assumption
      · cases g1
    · split at g2
      · assumption
      · cases g2
  · cases h1

/-- A struct of two numbers as a key. -/
theorem KeyLaw.pair {kt : TypeId} {fs : Array Field} (hk : P.underlying kt = some (.struct fs)) (hp : pairT P kt fs = true) (a b : Int) : KeyLaw P kt [a, b] := by
  obtain ⟨p1, p2, p3, p4⟩ := pairT_spec hp
  have hfk : ∀ (l : List MapEntry) (r : Option (Nat × Value)), (∀ w', (Instr.findAsking kt (.agg #[.int .i64 a, .int .i64 b]) l).run P w' = .ok r w') → ∀ w', (Instr.findKey kt (kyV [a, b]) l).run P w' = .ok r w' := fun l r h w' => by
    have e := run_findKey_eq (P := P) w' (k := kt) (by rw [hk]) (kyV [a, b]) l
    rw [e]; exact h w'
  refine ⟨fun em w => run_checkKey_nums (cs := #[.int .i64 a, .int .i64 b]) hk (fun f hf => ⟨(p4 f hf).1, (p4 f hf).2.1, (p4 f hf).2.2⟩) em 9998, fun w => ?_, fun O w z l xs hl hx => ?_⟩
  · simp [Instr.keyThatStays, kyV, Instr.sameBits]
  · rcases find_mget (O := O) (w := w) (R := fun l i r => ∀ w', (Instr.findAsking kt (.agg #[.int .i64 a, .int .i64 b]) l i).run P w' = .ok r w') [a, b] (fun _ _ => rfl)
      (fun en l i he w' => by
        simp only [Instr.findAsking, Sem.run_bind, he, kyV, List.map_cons, List.map_nil, run_equal_pair p1 p3 p2, Result.andThen_ok, decide_true, if_true]
        rfl)
      (fun en l i k r hkl hne he hr w' => by
        match k, hkl with
        | [c, d], _ =>
          simp only [Instr.findAsking, Sem.run_bind, he, kyV, List.map_cons, List.map_nil, run_equal_pair p1 p3 p2, Result.andThen_ok, hne, decide_false, Bool.false_eq_true, if_false]
          exact hr w') z l xs 0 hl hx with ⟨q1, q2⟩ | ⟨idx, val, q1, q2⟩
    · exact .inl ⟨hfk l _ q1, q2⟩
    · rw [Nat.zero_add] at q1
      exact .inr ⟨idx, val, hfk l _ q1, q2⟩

theorem rd_mgetL {t kt el : TypeId} {zv : Value} {z : V} {ok : Bool} {x i : Operand} {key : List Int} {k : Nat} {xs : List (List Int × V)} {vx : Value} {K : V → Prop} (ht : P.underlying t = some (.map kt el)) (hL : KeyLaw P kt key) (hz : (P.info? el).bind (·.zero) = some zv) (hzv : vOf zv = some z)
    (hR : RelS U σ S w n) (hvx : ρ x = vx) (hx : VR (Own U σ S) w σ (.mp k) vx) (hi : ρ i = kyV key) (ho : S.get k = some (.mp (key.length, xs)))
    (hK : match ok with | true => K (.tup [mgetV xs key z, .bool (mhasV xs key)]) | false => K (mgetV xs key z)) : RdOk P U σ S w ρ (.lookup t x i ok) K := by
  cases hx with
  | @mp _ k bl es0 cap hs =>
    have hob := hR.obj k _ ho
    rw [hs] at hob
    obtain ⟨b', hl, es, ck, hh, hsz, hent⟩ := hob
    simp only [Option.some.injEq, Prod.mk.injEq] at hl
    obtain ⟨rfl, -, -⟩ := hl
    have hbl : bl < w.heap.size := (Array.getElem?_eq_some_iff.1 hh).1
    obtain ⟨inf, hinf, hzero⟩ : ∃ inf, P.info? el = some inf ∧ inf.zero = some zv := by
      cases hc : P.info? el with
      | none => simp [hc] at hz
      | some inf => exact ⟨inf, rfl, by simpa [hc] using hz⟩
    have keyr : ∃ cv, VR (Own U σ S) w σ (mgetV xs key z) cv ∧ ∀ (w' : World), Same w w' → (Instr.lookup t (.map (some bl)) (kyV key) ok).run P w' = .ok (if ok = true then .tuple #[cv, .bool (mhasV xs key)] else cv) w' := by
      have run : ∀ (w' : World) (fr : Option (Nat × Value)) (_ : Same w w'), (∀ w', (Instr.findKey kt (kyV key) es.toList).run P w' = .ok fr w') →
          (Instr.lookup t (.map (some bl)) (kyV key) ok).run P w' = .ok (if ok = true then .tuple #[match fr with | some (_, v) => v | none => zv, .bool fr.isSome] else match fr with | some (_, v) => v | none => zv) w' := by
        intro w' fr hs hfr
        have hh' : w'.heap[bl]? = some (.map es ck) := (hs bl hbl).trans hh
        unfold Instr.lookup
        simp only [Sem.run_bind, run_underlying ht, Result.andThen_ok, MapKept.run_getObj_map hh', Sem.run_pure, hL.chk, hfr]
        cases fr with
        | none => cases ok <;> simp [zeroValue, typeInfo, hinf, hzero, Result.andThen]
        | some p => obtain ⟨p1, p2⟩ := p; cases ok <;> simp [Result.andThen]
      rcases hL.find (Own U σ S) w z es.toList xs (by simpa using hsz) (fun i p hp => by simpa using hent i p hp) with ⟨q1, q2, q3, -⟩ | ⟨idx, val, q1, q2, q3, -, -, -⟩
      · refine ⟨zv, by rw [q3]; exact vOf_VR hzv _ _ _, fun w' hs => ?_⟩
        rw [run w' _ hs q1, q2]; rfl
      · refine ⟨val, q3.lift σ, fun w' hs => ?_⟩
        rw [run w' _ hs q1, q2]; rfl
    obtain ⟨cv, hv, hrun⟩ := keyr
    cases ok with
    | true =>
      refine ⟨_, .tuple #[cv, .bool (mhasV xs key)], hK, .tup rfl (fun i y v hy hv' => ?_), fun w' o' ho' hs => ?_⟩
      · match i with
        | 0 => simp at hy hv'; subst hy hv'; exact hv
        | 1 => simp at hy hv'; subst hy hv'; exact .bool _
        | i + 2 => simp at hy
      · simp only [execOp, ho', hvx, hi, Sem.run_bind, hrun w' hs, Result.andThen_ok]; rfl
    | false =>
      refine ⟨_, cv, hK, hv, fun w' o' ho' hs => ?_⟩
      simp only [execOp, ho', hvx, hi, Sem.run_bind, hrun w' hs, Result.andThen_ok]; rfl

theorem rd_mget {t kt el : TypeId} {zv : Value} {z : V} {ok : Bool} {x i : Operand} {a b : A} (ht : P.underlying t = some (.map kt el)) (hk : P.underlying kt = some (.int .i64)) (hz : (P.info? el).bind (·.zero) = some zv) (hzv : vOf zv = some z)
    (hR : RelS U σ S w n) (hx : VR (Own U σ S) w σ (e a) (ρ x)) (hi : VR (Own U σ S) w σ (e b) (ρ i)) (hK : rdK S (.mget z ok a b) e true K) : RdOk P U σ S w ρ (.lookup t x i ok) K := by
  unfold rdK at hK
  simp only at hK
  split at hK
  · rename_i k j hea heb
    rw [hea] at hx
    rw [heb] at hi
    split at hK
    · rename_i xs ho
      refine rd_mgetL ht (KeyLaw.int hk j) hz hzv hR rfl hx ?_ ho hK
      generalize ρ i = vi at hi
      cases hi; rfl
    · exact absurd hK.1 (by simp)
  · exact absurd hK.1 (by simp)

theorem pair_of {O : Nat → Prop} {w : World} {σ : Sg} {a b : Int} {v : Value} (h : VR O w σ (.agg [.int .i64 a, .int .i64 b]) v) : v = kyV [a, b] := by
  cases h with
  | @agg _ _ arr hn hc =>
    rcases arr with ⟨l⟩
    match l, hn with
    | [x, y], _ =>
      have h0 := hc 0 _ x rfl rfl
      have h1 := hc 1 _ y rfl rfl
      cases h0
      cases h1
      rfl

theorem rd_mgetp {t kt el : TypeId} {fs : Array Field} {zv : Value} {z : V} {ok : Bool} {x i : Operand} {a b : A} (ht : P.underlying t = some (.map kt el)) (hk : P.underlying kt = some (.struct fs)) (hp : pairT P kt fs = true) (hz : (P.info? el).bind (·.zero) = some zv) (hzv : vOf zv = some z)
    (hR : RelS U σ S w n) (hx : VR (Own U σ S) w σ (e a) (ρ x)) (hi : VR (Own U σ S) w σ (e b) (ρ i)) (hK : rdK S (.mgetp z ok a b) e true K) : RdOk P U σ S w ρ (.lookup t x i ok) K := by
  unfold rdK at hK
  simp only at hK
  split at hK
  · rename_i k c d hea heb
    rw [hea] at hx
    rw [heb] at hi
    split at hK
    · rename_i xs ho
      exact rd_mgetL ht (KeyLaw.pair hk hp c d) hz hzv hR rfl hx (pair_of hi) ho hK
    · exact absurd hK.1 (by simp)
  · exact absurd hK.1 (by simp)

/-- ALL READING OPERATIONS. -/
theorem rd_sound {o : Op} {i : I} (h : resOp P o = some i) (hc : ∀ v, ρ (.const v) = v) (hR : RelS U σ S w n) (he : ∀ x a, resA x = some a → VR (Own U σ S) w σ (e a) (ρ x)) (hK : rdK S i e true K) : RdOk P U σ S w ρ o K := by
  unfold resOp at h
  split at h
  · simp only [Option.map_eq_some_iff] at h
    obtain ⟨a, h1, rfl⟩ := h
    exact rd_move (.inl rfl) (he _ _ h1) hK
  · simp only [Option.map_eq_some_iff] at h
    obtain ⟨a, h1, rfl⟩ := h
    exact rd_move (.inr rfl) (he _ _ h1) hK
  · split at h
    · obtain rfl := Option.some.inj h; exact hK.elim
    · cases h
  · simp only [Option.map_eq_some_iff] at h
    obtain ⟨a, h1, rfl⟩ := h
    exact rd_un (he _ _ h1) hK
  · split at h
    · rename_i h1 h2 h3
      obtain rfl := Option.some.inj h
      exact rd_bin (he _ _ h2) (he _ _ h3) hK
    · rename_i h1 h2 h3
      split at h
      · obtain rfl := Option.some.inj h; exact rd_eqb h1 rfl (he _ _ h2) (he _ _ h3) hK
      · obtain rfl := Option.some.inj h; exact rd_eqb h1 rfl (he _ _ h2) (he _ _ h3) hK
      · cases h
    · rename_i h1 h2 h3
      split at h
      · rename_i hs; obtain rfl := Option.some.inj h; exact rd_eqs (tyAgg_struct h1) hs rfl (he _ _ h2) (he _ _ h3) hK
      · rename_i hs; obtain rfl := Option.some.inj h; exact rd_eqs (tyAgg_struct h1) hs rfl (he _ _ h2) (he _ _ h3) hK
      · cases h
    · rename_i h1 h2 h3
      split at h
      · rename_i hs; obtain rfl := Option.some.inj h; exact rd_eqs (tyAgg_array h1) hs rfl (he _ _ h2) (he _ _ h3) hK
      · rename_i hs; obtain rfl := Option.some.inj h; exact rd_eqs (tyAgg_array h1) hs rfl (he _ _ h2) (he _ _ h3) hK
      · cases h
    · rename_i h1 h2 h3
      split at h
      · obtain rfl := Option.some.inj h; exact rd_isnil h1 rfl hc (he _ _ h2) hK
      · obtain rfl := Option.some.inj h; exact rd_isnil h1 rfl hc (he _ _ h2) hK
      · cases h
    · cases h
  · split at h
    · rename_i h1 h2 h3
      obtain rfl := Option.some.inj h
      exact rd_conv h1 h2 (he _ _ h3) hK
    · cases h
  · simp only [Option.map_eq_some_iff] at h
    obtain ⟨a, h1, rfl⟩ := h
    exact rd_nilck (he _ _ h1) hK
  · split at h
    · rename_i h1 h2
      split at h
      · rename_i h3
        split at h
        · rename_i h4
          obtain rfl := Option.some.inj h
          exact rd_faddr h1 h3 h4 (he _ _ h2) hK
        · cases h
      · cases h
    · cases h
  · split at h
    · rename_i h1 h2 h3
      split at h
      · rename_i h4
        obtain rfl := Option.some.inj h
        exact rd_load h1 h2 h4 hR (he _ _ h3) hK
      · cases h
    · cases h
  · simp only [Option.map_eq_some_iff] at h
    obtain ⟨a, h1, rfl⟩ := h
    exact rd_extr (he _ _ h1) hK
  · split at h
    · rename_i h1 h2 h3
      split at h
      · rename_i h4 h5
        simp only [Option.map_eq_some_iff] at h
        obtain ⟨z, h6, rfl⟩ := h
        exact rd_mget h1 h4 h5 h6 hR (he _ _ h2) (he _ _ h3) hK
      · rename_i h4 h5
        split at h
        · rename_i hp
          simp only [Option.map_eq_some_iff] at h
          obtain ⟨z, h6, rfl⟩ := h
          exact rd_mgetp h1 h4 hp h5 h6 hR (he _ _ h2) (he _ _ h3) hK
        · cases h
      · cases h
    · cases h
  · split at h
    · rename_i h1 h2 h3
      simp only [Option.map_eq_some_iff] at h
      obtain ⟨z, h4, rfl⟩ := h
      exact rd_iaddr h1 h4 hR (he _ _ h2) (he _ _ h3) hK
    · rename_i h1 h2 h3
      simp only [Option.map_eq_some_iff] at h
      obtain ⟨z, h4, rfl⟩ := h
      exact rd_iarr h1 h4 (he _ _ h2) (he _ _ h3) hK
    · cases h
  · split at h
    · rename_i h1 h2 h3
      split at h
      · rename_i h4
        obtain rfl := Option.some.inj h
        exact rd_aidx h1 h4 (he _ _ h2) (he _ _ h3) hK
      · cases h
    · cases h
  · split at h
    · rename_i h1 h2
      split at h
      · rename_i h3
        split at h
        · rename_i h4 h5
          split at h
          · rename_i h6
            obtain rfl := Option.some.inj h
            exact rd_fget h1 h3 h4 h5 h6 (he _ _ h2) hK
          · cases h
        · cases h
      · cases h
    · cases h
  · split at h
    · rename_i h1
      simp only [Option.map_eq_some_iff] at h
      obtain ⟨z, h4, rfl⟩ := h
      exact rd_mkfn h1 h4 he hK
    · cases h
  · split at h
    · rename_i h1 h2 h3 h4
      split at h
      · rename_i h5
        obtain rfl := Option.some.inj h
        exact rd_slc3 h1 h5 hR (he _ _ h2) trivial (he _ _ h3) (he _ _ h4) hK
      · rename_i h5
        simp only [Option.map_eq_some_iff] at h
        obtain ⟨z, h6, rfl⟩ := h
        exact rd_slc3 h1 h5 hR (he _ _ h2) (he _ _ h6) (he _ _ h3) (he _ _ h4) hK
      · cases h
    · cases h
  · split at h
    · rename_i h1 h2
      split at h
      · rename_i h3
        obtain rfl := Option.some.inj h
        exact rd_slc h1 h3 hR (he _ _ h2) trivial trivial hK
      · rename_i h3
        simp only [Option.map_eq_some_iff] at h
        obtain ⟨z, h4, rfl⟩ := h
        exact rd_slc h1 h3 hR (he _ _ h2) (he _ _ h4) trivial hK
      · rename_i h3
        simp only [Option.map_eq_some_iff] at h
        obtain ⟨z, h4, rfl⟩ := h
        exact rd_slc h1 h3 hR (he _ _ h2) trivial (he _ _ h4) hK
      · rename_i h3
        split at h
        · rename_i h4 h5
          obtain rfl := Option.some.inj h
          exact rd_slc h1 h3 hR (he _ _ h2) (he _ _ h4) (he _ _ h5) hK
        · cases h
      · cases h
    · cases h
  · rename_i args argTypes
    split at h
    · rename_i x t h1 h2
      split at h
      · rename_i h3 h4
        obtain rfl := Option.some.inj h
        obtain rfl : args = #[x] := Array.toList_inj.1 h1
        obtain rfl : argTypes = #[t] := Array.toList_inj.1 h2
        exact rd_len (ty := 0) h3 _ rfl (he _ _ h4) hK
      · cases h
    · cases h
  · rename_i args ts
    split at h
    · rename_i x y h1
      split at h
      · rename_i h3 h4
        obtain rfl := Option.some.inj h
        obtain rfl : args = #[x, y] := Array.toList_inj.1 h1
        exact rd_max _ rfl (he _ _ h3) (he _ _ h4) hK
      · cases h
    · cases h
  · rename_i args ts
    split at h
    · rename_i x y h1
      split at h
      · rename_i h3 h4
        obtain rfl := Option.some.inj h
        obtain rfl : args = #[x, y] := Array.toList_inj.1 h1
        exact rd_min _ rfl (he _ _ h3) (he _ _ h4) hK
      · cases h
    · cases h
  · cases h
end
end Go.Sk
