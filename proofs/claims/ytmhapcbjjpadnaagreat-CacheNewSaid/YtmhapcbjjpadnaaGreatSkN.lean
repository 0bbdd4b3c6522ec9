/- Sk, part N: one operation that sees a part of the store only. -/
import Derived.Test.YtmhapcbjjpadnaaGreatSkP
import Derived.Orders
set_option linter.unusedSimpArgs false
set_option linter.unusedVariables false
set_option linter.unusedSectionVars false
namespace Go.Sk
open Go Go.RowKit
variable [Tab]

theorem binK_det {op : BinOp} {k : IntKind} {a b : Int} {gc : Bool} {K : V → Prop} (h : binK op k a b gc K) : ∃ v, K v ∧ binK op k a b gc fun v' => v' = v := by
  cases op <;> simp only [binK] at h ⊢ <;> first | exact ⟨_, h, rfl⟩ | exact ⟨_, h.2, h.1, rfl⟩

theorem rdK_det {S : Store} {i : I} {e : A → V} {gc : Bool} {K : V → Prop} (h : rdK S i e gc K) : ∃ v, K v ∧ rdK S i e gc fun v' => v' = v := by
  revert h
  unfold rdK
  repeat' split
  all_goals intro h
  all_goals first
    | exact h.elim
    | (obtain ⟨v, h1, h2⟩ := binK_det h.2; exact ⟨v, h1, h.1, h2⟩)
    | (obtain ⟨r, h1, h2⟩ := eqsK_det h; exact ⟨_, h1, eqsK_mono (fun r' e => by subst e; rfl) h2⟩)
    | exact ⟨_, h, rfl⟩
    | exact ⟨_, h.2, h.1, rfl⟩
    | exact ⟨_, h.2.2, h.1, h.2.1, rfl⟩

theorem wrK_det {S : Store} {n : Nat} {i : I} {e : A → V} {K : V → Store → Nat → Prop} (h : wrK S n i e K) : ∃ v S' n', K v S' n' ∧ wrK S n i e fun a b c => a = v ∧ b = S' ∧ c = n' := by
  revert h
  unfold wrK
  repeat' split
  all_goals intro h
  all_goals first
    | exact h.elim
    | exact ⟨_, _, _, h, rfl, rfl, rfl⟩
    | exact ⟨_, _, _, h.2, h.1, rfl, rfl, rfl⟩
    | exact ⟨_, _, _, h.2.2, h.1, h.2.1, rfl, rfl, rfl⟩
    | exact ⟨_, _, _, h.2.2.2, h.1, h.2.1, h.2.2.1, rfl, rfl, rfl⟩
    | exact ⟨_, _, _, h.2.2.2.2, h.1, h.2.1, h.2.2.1, h.2.2.2.1, rfl, rfl, rfl⟩
    | exact ⟨_, _, _, h.2.2.2.2.2, h.1, h.2.1, h.2.2.1, h.2.2.2.1, h.2.2.2.2.1, rfl, rfl, rfl⟩
    | exact ⟨_, _, _, h.2.2.2.2.2.2, h.1, h.2.1, h.2.2.1, h.2.2.2.1, h.2.2.2.2.1, h.2.2.2.2.2.1, rfl, rfl, rfl⟩
    | (obtain ⟨h1, h2, h3⟩ := h
       revert h3
       repeat' split
       all_goals intro h
       all_goals first
         | exact h.elim
         | exact ⟨_, _, _, h.2.2, h1, h2, h.1, h.2.1, rfl, rfl, rfl⟩
         | exact ⟨_, _, _, h.2.2.2.2.2, h1, h2, h.1, h.2.1, h.2.2.1, h.2.2.2.1, h.2.2.2.2.1, rfl, rfl, rfl⟩)

theorem insK_det {P : Program} {st : St} {ch : List (Nat × Bool)} {gc : Bool} {i : I} {K : V → Store → Nat → Prop} (h : insK P st ch gc i K) :
    ∃ v S n, K v S n ∧ insK P st ch gc i fun a b c => a = v ∧ b = S ∧ c = n := by
  have rd : ∀ i, insK P st ch gc i K → (∀ K, insK P st ch gc i K = rdK st.so i (opnd st.sl ch) gc fun v => K v st.so st.nx) → ∃ v S n, K v S n ∧ insK P st ch gc i fun a b c => a = v ∧ b = S ∧ c = n := by
    intro i h he
    rw [he] at h
    obtain ⟨v, h1, h2⟩ := rdK_det h
    exact ⟨v, _, _, h1, by rw [he]; simpa using h2⟩
  have wr : ∀ i, insK P st ch gc i K → (∀ K, insK P st ch gc i K = wrGK st.sl st.so st.nx ch gc i K) → ∃ v S n, K v S n ∧ insK P st ch gc i fun a b c => a = v ∧ b = S ∧ c = n := by
    intro i h he
    rw [he] at h
    unfold wrGK at h
    cases ch with
    | nil =>
      obtain ⟨v, S, n, h1, h2⟩ := wrK_det h
      exact ⟨v, S, n, h1, by rw [he]; exact h2⟩
    | cons g r =>
      cases gc with
      | true =>
        obtain ⟨v, S, n, h1, h2⟩ := wrK_det (h.1 rfl)
        exact ⟨v, S, n, h1, by rw [he]; exact ⟨fun _ => h2, (by intro h; cases h)⟩⟩
      | false => exact ⟨_, _, _, h.2 rfl, by rw [he]; exact ⟨(by intro h; cases h), fun _ => ⟨rfl, rfl, rfl⟩⟩⟩
  cases i with
  | pick c a b =>
    cases c with
    | c v => exact rd _ h fun _ => rfl
    | t tc =>
      simp only [insK, insK'] at h ⊢
      split at h
      · split at h
        · exact ⟨_, _, _, h, rfl, rfl, rfl⟩
        · split at h
          · exact ⟨_, _, _, h, rfl, rfl, rfl⟩
          · exact ⟨_, _, _, h, rfl, rfl, rfl⟩
      · exact ⟨_, _, _, h.2, h.1, rfl, rfl, rfl⟩
  | build z ps =>
    simp only [insK, insK'] at h ⊢
    split at h
    · rename_i cs hcs
      exact ⟨_, _, _, h.2, h.1, rfl, rfl, rfl⟩
    · exact h.elim
  | call f xs =>
    simp only [insK, insK'] at h ⊢
    rcases h with ⟨res, h1, h2, h3⟩ | ⟨ha, hb⟩ | ⟨ha, hb⟩ | ⟨ha, hb⟩
    · exact ⟨_, _, _, h3, .inl ⟨res, h1, h2, rfl, rfl, rfl⟩⟩
    · cases gc with
      | false => exact ⟨_, _, _, hb rfl, .inr ⟨(fun h => by cases h), fun _ => ⟨rfl, rfl, rfl⟩⟩⟩
      | true =>
        obtain ⟨L, ob0, ob1, res, h1, h2, h3, h5, h6, h7⟩ := ha rfl
        exact ⟨_, _, _, h7, .inr ⟨fun _ => ⟨L, ob0, ob1, res, h1, h2, h3, h5, h6, rfl, rfl, rfl⟩, (fun h => by cases h)⟩⟩
    · cases gc with
      | false => exact ⟨_, _, _, hb rfl, .frz ⟨(fun h => by cases h), fun _ => ⟨rfl, rfl, rfl⟩⟩⟩
      | true =>
        obtain ⟨Fz, res, h1, h2, h3⟩ := ha rfl
        exact ⟨_, _, _, h3, .frz ⟨fun _ => ⟨Fz, res, h1, h2, rfl, rfl, rfl⟩, (fun h => by cases h)⟩⟩
    · cases gc with
      | false => exact ⟨_, _, _, hb rfl, .mov ⟨(fun h => by cases h), fun _ => ⟨rfl, rfl, rfl⟩⟩⟩
      | true =>
        obtain ⟨L, ob0, ob1, res, h1, h2, h3, h4, h5⟩ := ha rfl
        exact ⟨_, _, _, h5, .mov ⟨fun _ => ⟨L, ob0, ob1, res, h1, h2, h3, h4, rfl, rfl, rfl⟩, (fun h => by cases h)⟩⟩
  | vcall x xs =>
    simp only [insK, insK'] at h ⊢
    split at h
    · rename_i f caps hx
      obtain ⟨hc, h⟩ := h
      rcases h with ⟨res, h1, h2, h3⟩ | ⟨ha, hb⟩ | ⟨ha, hb⟩ | ⟨ha, hb⟩
      · exact ⟨_, _, _, h3, hc, .inl ⟨res, h1, h2, rfl, rfl, rfl⟩⟩
      · cases gc with
        | false => exact ⟨_, _, _, hb rfl, hc, .inr ⟨(fun h => by cases h), fun _ => ⟨rfl, rfl, rfl⟩⟩⟩
        | true =>
          obtain ⟨L, ob0, ob1, res, h1, h2, h3, h5, h6, h7⟩ := ha rfl
          exact ⟨_, _, _, h7, hc, .inr ⟨fun _ => ⟨L, ob0, ob1, res, h1, h2, h3, h5, h6, rfl, rfl, rfl⟩, (fun h => by cases h)⟩⟩
      · cases gc with
        | false => exact ⟨_, _, _, hb rfl, hc, .frz ⟨(fun h => by cases h), fun _ => ⟨rfl, rfl, rfl⟩⟩⟩
        | true =>
          obtain ⟨Fz, res, h1, h2, h3⟩ := ha rfl
          exact ⟨_, _, _, h3, hc, .frz ⟨fun _ => ⟨Fz, res, h1, h2, rfl, rfl, rfl⟩, (fun h => by cases h)⟩⟩
      · cases gc with
        | false => exact ⟨_, _, _, hb rfl, hc, .mov ⟨(fun h => by cases h), fun _ => ⟨rfl, rfl, rfl⟩⟩⟩
        | true =>
          obtain ⟨L, ob0, ob1, res, h1, h2, h3, h4, h5⟩ := ha rfl
          exact ⟨_, _, _, h5, hc, .mov ⟨fun _ => ⟨L, ob0, ob1, res, h1, h2, h3, h4, rfl, rfl, rfl⟩, (fun h => by cases h)⟩⟩
    · exact ⟨_, _, _, h.2, h.1, rfl, rfl, rfl⟩
  | clr a b c => exact wr _ h fun _ => rfl
  | alloc z => exact wr _ h fun _ => rfl
  | box z => exact wr _ h fun _ => rfl
  | st a b c => exact wr _ h fun _ => rfl
  | mkmap a => exact wr _ h fun _ => rfl
  | mput a b c => exact wr _ h fun _ => rfl
  | mputp a b c => exact wr _ h fun _ => rfl
  | bslice a b c d => exact wr _ h fun _ => rfl
  | mk a b c d e => exact wr _ h fun _ => rfl
  | app a b c d => exact wr _ h fun _ => rfl
  | cpy a b c => exact wr _ h fun _ => rfl
  | s2b a => exact wr _ h fun _ => rfl
  | aslc a b c => exact wr _ h fun _ => rfl
  | cpys a b => exact wr _ h fun _ => rfl
  | _ => exact rd _ h fun _ => rfl

/-! ### Parts of a state -/

def look (sl : Slots) : List Nat → Slots
  | [] => []
  | d :: r => match getS sl d with
    | some s => (d, s) :: look sl r
    | none => look sl r
theorem mem_look {sl : Slots} : ∀ {l : List Nat} {d : Nat} {s : SV}, (d, s) ∈ look sl l → d ∈ l ∧ getS sl d = some s
  | [], _, _, h => by simp [look] at h
  | a :: r, d, s, h => by
    simp only [look] at h
    split at h
    · rename_i q hq
      rcases List.mem_cons.1 h with h | h
      · obtain ⟨rfl, rfl⟩ := Prod.mk.inj h; exact ⟨by simp, hq⟩
      · exact ⟨List.mem_cons_of_mem _ (mem_look h).1, (mem_look h).2⟩
    · exact ⟨List.mem_cons_of_mem _ (mem_look h).1, (mem_look h).2⟩
theorem look_congr {sl sl' : Slots} : ∀ {l : List Nat}, (∀ d ∈ l, getS sl' d = getS sl d) → look sl' l = look sl l
  | [], _ => rfl
  | a :: r, h => by
    simp only [look]
    rw [h a (by simp), look_congr fun d hd => h d (List.mem_cons_of_mem _ hd)]

def lookO (S : Store) : List Nat → Store
  | [] => []
  | k :: r => match S.get k with
    | some o => (k, o) :: lookO S r
    | none => lookO S r
theorem lookO_get {S : Store} : ∀ {l : List Nat} {k : Nat}, (lookO S l).get k = if k ∈ l then S.get k else none
  | [], k => by simp [lookO, Store.get]
  | a :: r, k => by
    simp only [lookO]
    split
    · rename_i o ho
      simp only [Store.get]
      by_cases h : k = a
      · subst h; simp [ho]
      · rw [if_neg h, lookO_get]; simp [h]
    · rename_i ho
      rw [lookO_get]
      by_cases h : k = a
      · subst h; simp [ho]
      · simp [h]
theorem lookO_congr {S S' : Store} : ∀ {l : List Nat}, (∀ k ∈ l, S'.get k = S.get k) → lookO S' l = lookO S l
  | [], _ => rfl
  | a :: r, h => by
    simp only [lookO]
    rw [h a (by simp), lookO_congr fun d hd => h d (List.mem_cons_of_mem _ hd)]

def over (S S1 : Store) : List Nat → Store
  | [] => S
  | k :: r => match S1.get k with
    | some o => (over S S1 r).set k o
    | none => (over S S1 r).del k
theorem over_get {S S1 : Store} : ∀ {l : List Nat} {k : Nat}, (over S S1 l).get k = if k ∈ l then S1.get k else S.get k
  | [], k => by simp [over]
  | a :: r, k => by
    simp only [over]
    split
    · rename_i o ho
      rw [Store.get_set, over_get]
      by_cases h : k = a
      · subst h; simp [ho]
      · simp [h]
    · rename_i ho
      rw [Store.get_del, over_get]
      by_cases h : k = a
      · subst h; simp [ho]
      · simp [h]

theorem RelS.congr {U : Nat → Prop} {σ : Sg} {S S' : Store} {w : World} {n : Nat} (h : ∀ k, S'.get k = S.get k) (hR : RelS U σ S w n) : RelS U σ S' w n := by
  have hO : ∀ b, Own U σ S' b ↔ Own U σ S b := fun b => by unfold Own OwnE; simp only [h]
  have hO' : ∀ b, OwnE σ S' b ↔ OwnE σ S b := fun b => by unfold OwnE; simp only [h]
  have hO2 : Own U σ S' = Own U σ S := funext fun b => propext (hO b)
  exact ⟨fun k o hk => by rw [hO2]; exact hR.obj k o (by rw [← h]; exact hk), fun k k' o o' b es cap es' cap' h1 h2 => hR.inj k k' o o' b es cap es' cap' (by rw [← h]; exact h1) (by rw [← h]; exact h2),
    fun k hk => by rw [h]; exact hR.fresh k hk, fun b hb => hR.disj b ((hO' b).1 hb), hR.ulim, by rw [hO2]; exact hR.gl⟩
theorem RelS.wider {U : Nat → Prop} {σ : Sg} {S : Store} {w : World} {n n' : Nat} (h : n ≤ n') (hR : RelS U σ S w n) : RelS U σ S w n' :=
  ⟨hR.obj, hR.inj, fun k hk => hR.fresh k (by omega), hR.disj, hR.ulim, hR.gl⟩

/-- The blocks of what is not lent. -/
def Uf (U : Nat → Prop) (σ : Sg) (S : Store) (T : List Nat) (b : Nat) : Prop := U b ∨ ∃ k o es cap, k ∉ T ∧ S.get k = some o ∧ σ k = some (some b, es, cap)

section
variable {U : Nat → Prop} {σ : Sg} {S : Store} {w : World} {n : Nat} {T : List Nat}

theorem Uf_own {b : Nat} (h : Own (Uf U σ S T) σ (lookO S T) b) : Own U σ S b := by
  rcases h with (hu | ⟨k, o, es, cap, -, h2, h3⟩) | ⟨k, o, es, cap, h2, h3⟩
  · exact .inl hu
  · exact .inr ⟨k, o, es, cap, h2, h3⟩
  · rw [lookO_get] at h2
    split at h2
    · exact .inr ⟨k, o, es, cap, h2, h3⟩
    · cases h2

theorem ObjR.less {O O' : Nat → Prop} (hO : ∀ b, O' b → O b) {loc : Option (Option Nat × Nat × Nat)} {o : Obj} (h : ObjR O w σ loc o) : ObjR O' w σ loc o := by
  have g0 : ∀ {σ x v}, VR O w σ x v → VR O' w σ x v := fun h => h.mono (Keep.refl _ _) (fun b _ hb => hO b hb) fun _ _ => rfl
  cases o with
  | row es xs =>
    obtain ⟨hl, h⟩ := h
    refine ⟨hl, ?_⟩
    rcases loc with _ | ⟨_ | b, es', cap⟩
    · exact h
    · exact h
    · obtain ⟨rfl, e1, arr, ty, e2, e3, e4⟩ := h
      refine ⟨rfl, e1, arr, ty, e2, e3, fun i x c y hx hy => ?_⟩
      obtain ⟨v, q1, q2, q3⟩ := e4 i x c y hx hy
      exact ⟨v, q1, q2, g0 q3⟩
  | box cs =>
    obtain ⟨b, rfl, arr, ty, e2, e3, e4⟩ := h
    refine ⟨b, rfl, arr, ty, e2, e3, fun c y hy => ?_⟩
    obtain ⟨v, q1, q2, q3⟩ := e4 c y hy
    exact ⟨v, q1, q2, g0 q3⟩
  | mp xs =>
    obtain ⟨b, rfl, es, ck, e2, e3, e4⟩ := h
    refine ⟨b, rfl, es, ck, e2, e3, fun i p hp => ?_⟩
    obtain ⟨en, q1, q2, q3⟩ := e4 i p hp
    exact ⟨en, q1, q2, g0 q3⟩

theorem RelS.part (hR : RelS U σ S w n) (T : List Nat) : RelS (Uf U σ S T) σ (lookO S T) w n := by
  have hg : ∀ k o, (lookO S T).get k = some o → k ∈ T ∧ S.get k = some o := fun k o h => by
    rw [lookO_get] at h
    split at h
    · rename_i hk; exact ⟨hk, h⟩
    · cases h
  refine ⟨fun k o hk => (hR.obj k o (hg k o hk).2).less fun b => Uf_own, fun k k' o o' b es cap es' cap' h1 h2 => hR.inj k k' o o' b es cap es' cap' (hg k o h1).2 (hg k' o' h2).2, fun k hk => ⟨?_, (hR.fresh k hk).2⟩, fun b hb hu => ?_, fun b hu => ?_, hR.gl.less fun b => Uf_own⟩
  · rw [lookO_get, (hR.fresh k hk).1]; simp
  · obtain ⟨k, o, es, cap, h1, h2⟩ := hb
    rcases hu with hu | ⟨k', o', es', cap', h3, h4, h5⟩
    · exact hR.disj b ⟨k, o, es, cap, (hg k o h1).2, h2⟩ hu
    · obtain rfl := hR.inj k k' o o' b es cap es' cap' (hg k o h1).2 h4 h2 h5
      exact h3 (hg k o h1).1
  · rcases hu with hu | ⟨k', o', es', cap', h3, h4, h5⟩
    · exact hR.ulim b hu
    · exact hR.size ⟨k', o', es', cap', h4, h5⟩

/-- Behind an operation that saw a part. -/
theorem RelS.whole (hR : RelS U σ S w n) {σ' : Sg} {S1 S2 : Store} {w' : World} {R : Nat → Prop} (hT : ∀ k ∈ T, R k) (hnew : ∀ k, R k → k ∉ T → S.get k = Option.none) (hin : ∀ k, R k → S2.get k = S1.get k)
    (hout : ∀ k, ¬ R k → S2.get k = S.get k ∧ σ' k = σ k ∧ S1.get k = Option.none) (g : Grow σ (lookO S T) w n σ' S1 w' n) (hR' : RelS (Uf U σ S T) σ' S1 w' n) :
    Grow σ S w n σ' S2 w' n ∧ RelS U σ' S2 w' n ∧ ∀ b, Own U σ' S2 b → Own (Uf U σ S T) σ' S1 b := by
  have own0 : ∀ b, OwnE σ (lookO S T) b → ∃ k o es cap, k ∈ T ∧ S.get k = some o ∧ σ k = some (some b, es, cap) := by
    rintro b ⟨k, o, es, cap, h1, h2⟩
    rw [lookO_get] at h1
    split at h1
    · rename_i hk; exact ⟨k, o, es, cap, hk, h1, h2⟩
    · cases h1
  have cases2 : ∀ k o, S2.get k = some o → (S.get k = some o ∧ k ∉ T ∧ σ' k = σ k) ∨ S1.get k = some o := by
    intro k o hk
    by_cases h : R k
    · rw [hin k h] at hk; exact .inr hk
    · obtain ⟨h1, h2, -⟩ := hout k h
      rw [h1] at hk
      exact .inl ⟨hk, fun hm => h (hT k hm), h2⟩
  have g2 : Grow σ S w n σ' S2 w' n := by
    refine ⟨g.keep.wider fun b hb => by obtain ⟨k, o, es, cap, -, h2, h3⟩ := own0 b hb; exact ⟨k, o, es, cap, h2, h3⟩, fun b hb hO => ?_, g.sg, Nat.le_refl _⟩
    obtain ⟨k, o, es, cap, hk, hs⟩ := hO
    rcases cases2 k o hk with ⟨h1, -, h2⟩ | h1
    · exact ⟨k, o, es, cap, h1, h2 ▸ hs⟩
    · obtain ⟨k, o, es, cap, -, h2, h3⟩ := own0 b (g.own b hb ⟨k, o, es, cap, h1, hs⟩); exact ⟨k, o, es, cap, h2, h3⟩
  have own2 : ∀ b, Own U σ' S2 b → Own (Uf U σ S T) σ' S1 b := by
    rintro b (hu | ⟨k, o, es, cap, hk, hs⟩)
    · exact .inl (.inl hu)
    · rcases cases2 k o hk with ⟨h1, h3, h2⟩ | h1
      · exact .inl (.inr ⟨k, o, es, cap, h3, h1, h2 ▸ hs⟩)
      · exact .inr ⟨k, o, es, cap, h1, hs⟩
  have apart : ∀ b k o es cap, k ∉ T → S.get k = some o → σ k = some (some b, es, cap) → ¬ OwnE σ' S1 b := by
    intro b k o es cap hk h1 h2 hO
    have hb := hR.size ⟨k, o, es, cap, h1, h2⟩
    obtain ⟨k', o', es', cap', hk', h1', h2'⟩ := own0 b (g.own b hb hO)
    obtain rfl := hR.inj k k' o o' b es cap es' cap' h1 h1' h2 h2'
    exact hk hk'
  refine ⟨g2, hR.step g2 (fun k hk => ?_) (fun k k' o o' b es cap es' cap' hk hk' hs hs' => ?_) (fun k o hk => ?_), own2⟩
  · refine ⟨?_, (hR'.fresh k hk).2⟩
    by_cases h : R k
    · rw [hin k h]; exact (hR'.fresh k hk).1
    · rw [(hout k h).1]; exact (hR.fresh k hk).1
  · rcases cases2 k o hk with ⟨h1, h3, h2⟩ | h1 <;> rcases cases2 k' o' hk' with ⟨h1', h3', h2'⟩ | h1'
    · exact hR.inj k k' o o' b es cap es' cap' h1 h1' (h2 ▸ hs) (h2' ▸ hs')
    · exact absurd ⟨k', o', es', cap', h1', hs'⟩ (apart b k o es cap h3 h1 (h2 ▸ hs))
    · exact absurd ⟨k, o, es, cap, h1, hs⟩ (apart b k' o' es' cap' h3' h1' (h2' ▸ hs'))
    · exact hR'.inj k k' o o' b es cap es' cap' h1 h1' hs hs'
  · rcases cases2 k o hk with ⟨h1, h3, h2⟩ | h1
    · left
      refine ⟨h1, fun b es cap hs => g.keep.block b (hR.size ⟨k, o, es, cap, h1, hs⟩) fun hO => ?_⟩
      obtain ⟨k', o', es', cap', hk', h1', h2'⟩ := own0 b hO
      obtain rfl := hR.inj k k' o o' b es cap es' cap' h1 h1' hs h2'
      exact h3 hk'
    · right
      exact (hR'.obj k o h1).less own2
end
end Go.Sk
