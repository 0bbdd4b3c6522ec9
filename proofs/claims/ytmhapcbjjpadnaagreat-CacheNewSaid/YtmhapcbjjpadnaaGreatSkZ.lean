/- Sk, part Z: the evaluator that runs calls and loops by itself: operations, code, functions. -/
import Derived.Test.YtmhapcbjjpadnaaGreatSkY
set_option linter.unusedSimpArgs false
set_option linter.unusedVariables false
set_option linter.unusedSectionVars false
namespace Go.Sk
open Go Go.RowKit
variable [Tab]

theorem binK_mono {op : BinOp} {k : IntKind} {a b : Int} {gc : Bool} {K K' : V → Prop} (hm : ∀ v, K v → K' v) (h : binK op k a b gc K) : binK op k a b gc K' := by
  cases op <;> simp only [binK] at h ⊢ <;> first | exact hm _ h | exact ⟨h.1, hm _ h.2⟩
theorem rdK_mono {S : Store} {i : I} {e : A → V} {gc : Bool} {K K' : V → Prop} (hm : ∀ v, K v → K' v) (h : rdK S i e gc K) : rdK S i e gc K' := by
  revert h
  unfold rdK
  repeat' split
  all_goals intro h
  all_goals first
    | exact h.elim
    | exact ⟨h.1, binK_mono hm h.2⟩
    | exact eqsK_mono (fun r => hm _) h
    | exact hm _ h
    | exact ⟨h.1, hm _ h.2⟩
    | exact ⟨h.1, h.2.1, hm _ h.2.2⟩
theorem wrK_mono {S : Store} {n : Nat} {i : I} {e : A → V} {K K' : V → Store → Nat → Prop} (hm : ∀ a b c, K a b c → K' a b c) (h : wrK S n i e K) : wrK S n i e K' := by
  revert h
  unfold wrK
  repeat' split
  all_goals intro h
  all_goals first
    | exact h.elim
    | exact hm _ _ _ h
    | exact ⟨h.1, hm _ _ _ h.2⟩
    | exact ⟨h.1, h.2.1, hm _ _ _ h.2.2⟩
    | exact ⟨h.1, h.2.1, h.2.2.1, hm _ _ _ h.2.2.2⟩
    | exact ⟨h.1, h.2.1, h.2.2.1, h.2.2.2.1, hm _ _ _ h.2.2.2.2⟩
    | exact ⟨h.1, h.2.1, h.2.2.1, h.2.2.2.1, h.2.2.2.2.1, hm _ _ _ h.2.2.2.2.2⟩
    | (obtain ⟨h1, h2, h3⟩ := h
       revert h3
       repeat' split
       all_goals intro h
       all_goals first
         | exact h.elim
         | exact ⟨h1, h2, h.1, h.2.1, hm _ _ _ h.2.2⟩
         | exact ⟨h1, h2, h.1, h.2.1, h.2.2.1, h.2.2.2.1, h.2.2.2.2.1, hm _ _ _ h.2.2.2.2.2⟩)
theorem insK'_mono {P : Program} {ssl : Slots} {sso : Store} {snx : Nat} {ch : List (Nat × Bool)} {gc : Bool} {i : I} {K K' : V → Store → Nat → Prop} (hm : ∀ a b c, K a b c → K' a b c) (h : insK' P ssl sso snx ch gc i K) : insK' P ssl sso snx ch gc i K' := by
  have rd : ∀ i, insK' P ssl sso snx ch gc i K → (∀ K, insK' P ssl sso snx ch gc i K = rdK sso i (opnd ssl ch) gc fun v => K v sso snx) → insK' P ssl sso snx ch gc i K' := by
    intro i h he
    rw [he] at h ⊢
    exact rdK_mono (fun v => hm _ _ _) h
  have wr : ∀ i, insK' P ssl sso snx ch gc i K → (∀ K, insK' P ssl sso snx ch gc i K = wrGK ssl sso snx ch gc i K) → insK' P ssl sso snx ch gc i K' := by
    intro i h he
    rw [he] at h ⊢
    unfold wrGK at h ⊢
    cases ch with
    | nil => exact wrK_mono hm h
    | cons g r => exact ⟨fun e => wrK_mono hm (h.1 e), fun e => hm _ _ _ (h.2 e)⟩
  have alt : ∀ f (args : List V), CallAlt (pcallK P f args sso gc fun v => K v sso snx) ((gc = true → ucallK P f args sso snx K) ∧ (gc = false → K .any sso snx)) ((gc = true → fcallK P f args sso snx K) ∧ (gc = false → K .any sso snx)) ((gc = true → mcallK P f args sso snx K) ∧ (gc = false → K .any sso snx)) →
      CallAlt (pcallK P f args sso gc fun v => K' v sso snx) ((gc = true → ucallK P f args sso snx K') ∧ (gc = false → K' .any sso snx)) ((gc = true → fcallK P f args sso snx K') ∧ (gc = false → K' .any sso snx)) ((gc = true → mcallK P f args sso snx K') ∧ (gc = false → K' .any sso snx)) := by
    rintro f args (⟨res, h1, h2, h3⟩ | ⟨h1, h2⟩ | ⟨h1, h2⟩ | ⟨h1, h2⟩)
    · exact .inl ⟨res, h1, h2, hm _ _ _ h3⟩
    · exact .inr ⟨fun e => by obtain ⟨L, ob0, ob1, res, a1, a2, a3, a4, a5, a6⟩ := h1 e; exact ⟨L, ob0, ob1, res, a1, a2, a3, a4, a5, hm _ _ _ a6⟩, fun e => hm _ _ _ (h2 e)⟩
    · exact .frz ⟨fun e => by obtain ⟨Fz, res, a1, a2, a3⟩ := h1 e; exact ⟨Fz, res, a1, a2, hm _ _ _ a3⟩, fun e => hm _ _ _ (h2 e)⟩
    · exact .mov ⟨fun e => by obtain ⟨L, ob0, ob1, res, a1, a2, a3, a4, a5⟩ := h1 e; exact ⟨L, ob0, ob1, res, a1, a2, a3, a4, hm _ _ _ a5⟩, fun e => hm _ _ _ (h2 e)⟩
  cases i with
  | pick c a b =>
    cases c with
    | c v => exact rd _ h fun _ => rfl
    | t tc =>
      simp only [insK'] at h ⊢
      split at h
      · split at h
        · exact hm _ _ _ h
        · split at h
          · exact hm _ _ _ h
          · exact hm _ _ _ h
      · exact ⟨h.1, hm _ _ _ h.2⟩
  | build z ps =>
    simp only [insK'] at h ⊢
    split at h
    · exact ⟨h.1, hm _ _ _ h.2⟩
    · exact h.elim
  | call f xs => exact alt _ _ h
  | vcall x xs =>
    simp only [insK'] at h ⊢
    split at h
    · exact ⟨h.1, alt _ _ h.2⟩
    · exact ⟨h.1, hm _ _ _ h.2⟩
  | clr a b c => exact wr _ h fun _ => rfl
  | alloc z => exact wr _ h fun _ => rfl
  | box z => exact wr _ h fun _ => rfl
  | st a b c => exact wr _ h fun _ => rfl
  | mkmap a => exact wr _ h fun _ => rfl
  | mput a b c => exact wr _ h fun _ => rfl
  | mputp a b c => exact wr _ h fun _ => rfl
  | bslice a b c d => exact wr _ h fun _ => rfl
  | mk a b c d e => exact wr _ h fun _ => rfl
  | app a b c d => exact wr _ h fun _ => rfl
  | cpy a b c => exact wr _ h fun _ => rfl
  | s2b a => exact wr _ h fun _ => rfl
  | aslc a b c => exact wr _ h fun _ => rfl
  | cpys a b => exact wr _ h fun _ => rfl
  | _ => exact rd _ h fun _ => rfl

/-! ### What stays as it was -/
def chgI (e : A → V) : I → List Nat
  | .st _ x _ => ids2 (e x)
  | .cpy _ x _ => ids2 (e x)
  | .cpys x _ => ids2 (e x)
  | .clr _ _ x => ids2 (e x)
  | .mput x _ _ => ids2 (e x)
  | .mputp x _ _ => ids2 (e x)
  | .aslc _ x _ => ids2 (e x)
  | .app _ _ x _ => ids2 (e x)
  | _ => []
theorem ids2_unk {v : V} {k off len : Nat} (h : unk v = .sl k off len) : ids2 v = [k] := by
  cases v <;> simp [unk] at h
  · obtain ⟨rfl, rfl, rfl⟩ := h; rfl
  · obtain ⟨rfl, rfl, rfl⟩ := h; rfl
theorem ids2_unkx {v : V} {k off len : Nat} (h : unk v = .slx k off len) : ids2 v = [k] := by
  cases v <;> simp [unk] at h
  obtain ⟨rfl, rfl, rfl⟩ := h; rfl
theorem wrK_same {S0 S : Store} {m n : Nat} {i : I} {e : A → V} {v : V} (h : wrK S0 m i e fun a b c => a = v ∧ b = S ∧ c = n) {k : Nat} (hk : k ≠ m) (hc : k ∉ chgI e i) : S.get k = S0.get k := by
  revert h
  unfold wrK
  repeat' split
  all_goals intro h
  all_goals first
    | exact h.elim
    | (obtain ⟨-, rfl, -⟩ := h; simp [Store.get_set, Store.get_del, hk]; done)
    | (obtain ⟨-, -, rfl, -⟩ := h; simp [Store.get_set, Store.get_del, hk]; done)
    | (obtain ⟨-, -, -, -, -, rfl, -⟩ := h; simp [Store.get_set, Store.get_del, hk]; done)
    | (obtain ⟨-, -, rfl, -⟩ := h
       rename_i e1 _ _ _
       simp only [chgI, e1, ids2, ids1, List.mem_singleton] at hc
       simp [Store.get_set, Store.get_del, hc]; done)
    | skip
  all_goals
    try exact h.2.2.elim
  all_goals
    have hc' : k ∉ chgI e _ := hc
    simp only [chgI] at hc'
    first
      | rw [‹e _ = V.ptr _ _ _›] at hc'
      | rw [‹e _ = V.mp _›] at hc'
      | rw [ids2_unk ‹unk (e _) = V.sl _ _ _›] at hc'
      | rw [ids2_unkx ‹unk (e _) = V.slx _ _ _›] at hc'
      | skip
    simp only [ids2, ids1, List.mem_singleton] at hc'
    first
      | (obtain rfl := h.2.2.1; simp [Store.get_set, Store.get_del, hk, hc']; done)
      | (obtain rfl := h.2.2.2.1; simp [Store.get_set, Store.get_del, hk, hc']; done)
      | (obtain rfl := h.2.2.2.2.2.1; simp [Store.get_set, Store.get_del, hk, hc']; done)
      | (obtain rfl := h.2.2.2.2.2.2.2.2.1; simp [Store.get_set, Store.get_del, hk, hc']; done)

/-! ### Comparing -/
def eqL {α : Type} (f : α → α → Bool) : List α → List α → Bool
  | [], [] => true
  | x :: r, y :: q => f x y && eqL f r q
  | _, _ => false
theorem eqL_ok {α : Type} {f : α → α → Bool} (hf : ∀ x y, f x y = true → x = y) : ∀ {l m : List α}, eqL f l m = true → l = m
  | [], [], _ => rfl
  | x :: r, y :: q, h => by
    simp only [eqL, Bool.and_eq_true] at h
    rw [hf _ _ h.1, eqL_ok hf h.2]
  | [], _ :: _, h => by cases h
  | _ :: _, [], h => by cases h
def eqU (a b : UInt8) : Bool := Nat.beq a.toNat b.toNat
theorem eqU_ok (a b : UInt8) (h : eqU a b = true) : a = b := UInt8.toNat_inj.1 (Nat.eq_of_beq_eq_true h)
def eqBy (a b : ByteArray) : Bool := eqL eqU a.data.toList b.data.toList
theorem eqBy_ok (a b : ByteArray) (h : eqBy a b = true) : a = b := by
  have := eqL_ok eqU_ok h
  cases a; cases b
  congr 1
  exact Array.toList_inj.1 this
def eqV : Nat → V → V → Bool
  | 0, _, _ => false
  | n + 1, a, b => match a, b with
    | .any, .any => true
    | .int k x, .int k' y => decide (k = k') && decide (x = y)
    | .bool x, .bool y => x == y
    | .str x, .str y => eqBy x y
    | .agg x, .agg y => eqL (eqV n) x y
    | .tup x, .tup y => eqL (eqV n) x y
    | .nil, .nil => true
    | .ptr k i c, .ptr k' i' c' => Nat.beq k k' && (Nat.beq i i' && Nat.beq c c')
    | .sl k i c, .sl k' i' c' => Nat.beq k k' && (Nat.beq i i' && Nat.beq c c')
    | .lst e t x, .lst e' t' y => Nat.beq e e' && ((t == t') && eqL (eqL (eqV n)) x y)
    | .mp k, .mp k' => Nat.beq k k'
    | _, _ => false
theorem eqV_ok : ∀ (n : Nat) (a b : V), eqV n a b = true → a = b
  | 0, _, _, h => by cases h
  | n + 1, a, b, h => by
    unfold eqV at h
    split at h <;> (try simp only [Bool.and_eq_true, decide_eq_true_eq, beq_iff_eq] at h) <;> (try cases h; done)
    · rfl
    · rw [h.1, h.2]
    · rw [h]
    · rw [eqBy_ok _ _ h]
    · rw [eqL_ok (eqV_ok n) h]
    · rw [eqL_ok (eqV_ok n) h]
    · rfl
    · rw [Nat.eq_of_beq_eq_true h.1, Nat.eq_of_beq_eq_true h.2.1, Nat.eq_of_beq_eq_true h.2.2]
    · rw [Nat.eq_of_beq_eq_true h.1, Nat.eq_of_beq_eq_true h.2.1, Nat.eq_of_beq_eq_true h.2.2]
    · rw [Nat.eq_of_beq_eq_true h.1, h.2.1, eqL_ok (fun x y => eqL_ok (eqV_ok n)) h.2.2]
    · rw [Nat.eq_of_beq_eq_true h]
def eqOO : Option Obj → Option Obj → Bool
  | none, none => true
  | some (.row e x), some (.row e' y) => Nat.beq e e' && eqL (eqL (eqV 12)) x y
  | some (.box x), some (.box y) => eqL (eqV 12) x y
  | _, _ => false
theorem eqOO_ok {a b : Option Obj} (h : eqOO a b = true) : a = b := by
  unfold eqOO at h
  split at h
  · rfl
  · rw [Bool.and_eq_true] at h
    rw [Nat.eq_of_beq_eq_true h.1, eqL_ok (fun x y => eqL_ok (eqV_ok 12)) h.2]
  · rw [eqL_ok (eqV_ok 12) h]
  · cases h
def sameB (SO S1 : Store) (W : List Nat) : List Nat → Bool
  | [] => true
  | k :: r => (hasN k W || eqOO (S1.get k) (SO.get k)) && sameB SO S1 W r
theorem sameB_ok {SO S1 : Store} {W : List Nat} : ∀ {T : List Nat}, sameB SO S1 W T = true → ∀ k ∈ T, k ∉ W → S1.get k = SO.get k
  | [], _, k, hk, _ => by cases hk
  | j :: r, h, k, hk, hw => by
    simp only [sameB, Bool.and_eq_true, Bool.or_eq_true] at h
    rcases List.mem_cons.1 hk with rfl | hk
    · rcases h.1 with h1 | h1
      · exact absurd (hasN_mem.1 h1) hw
      · exact eqOO_ok h1
    · exact sameB_ok h.2 k hk hw
/-- What a call of a function that is said to leave all as it is has to show. -/
def samX (i : I) (SO S1 : Store) (W T : List Nat) : Bool :=
  match i with
  | .call f _ => match hasN f Tab.ro with
    | true => sameB SO S1 W T
    | false => true
  | _ => true

/-! ### Operations -/
/-- What runs a call: the calling place, function, arguments. -/
abbrev Cx := Nat → FuncId → List V → Store → Nat → (V → Store → Nat → Prop) → Prop
/-- It keeps to what a call may do. -/
def CxOK (P : Program) (cx : Cx) : Prop := ∀ d f args S m K, cx d f args S m K → ∃ v S' n', K v S' n' ∧ ((S' = S ∧ n' = m ∧ ∀ K' : V → Prop, K' v → pcallK P f args S true K') ∨ (n' = m + 16 ∧ ∀ K' : V → Store → Nat → Prop, K' v S' n' → ucallK P f args S m K') ∨ (n' = m + 1 ∧ ∀ K' : V → Store → Nat → Prop, K' v S' n' → fcallK P f args S m K') ∨ (n' = m + 16 ∧ ∀ K' : V → Store → Nat → Prop, K' v S' n' → mcallK P f args S m K'))
def callableB (P : Program) (f : FuncId) : Bool :=
  match P.funcs[f]? with
  | some fn => fn.body.isSome && !(fn.name == "runtime.NumGoroutine")
  | none => false
theorem callableB_ok {P : Program} {f : FuncId} (h : callableB P f = true) : Callable P f := by
  unfold callableB at h
  split at h
  · rename_i fn hf
    rw [Bool.and_eq_true, Bool.not_eq_true'] at h
    exact ⟨fn, hf, h.1, h.2⟩
  · cases h
def insX (P : Program) (cx : FuncId → List V → Store → Nat → (V → Store → Nat → Prop) → Prop) (ssl : Slots) (sso : Store) (snx : Nat) (ch : List (Nat × Bool)) (gc : Bool) (i : I) (K : V → Store → Nat → Prop) : Prop :=
  match i with
  | .call f xs => match gc with
    | true => forceVL (xs.map (opnd ssl ch)) fun a => cx f a sso snx K
    | false => K .any sso snx
  | .vcall x xs => match opnd ssl ch x with
    | .fn f caps => rq (callableB P f) (match gc with
      | true => forceVL (xs.map (opnd ssl ch) ++ caps) fun a => cx f a sso snx K
      | false => K .any sso snx)
    | _ => rq (!gc) (K .any sso snx)
  | i => insF P ssl sso snx ch gc i K
def isCall : I → Bool
  | .call _ _ => true
  | .vcall _ _ => true
  | _ => false
theorem insX_det {P : Program} {cx : Cx} (hcx : CxOK P cx) {d : Nat} {ssl : Slots} {sso : Store} {snx : Nat} {ch : List (Nat × Bool)} {gc : Bool} {i : I} {K : V → Store → Nat → Prop} (h : insX P (cx d) ssl sso snx ch gc i K) :
    ∃ v S n, K v S n ∧ insK' P ssl sso snx ch gc i (fun a b c => a = v ∧ b = S ∧ c = n) ∧ (isCall i = true → (S = sso ∧ n = snx) ∨ n = snx + 16 ∨ n = snx + 1) := by
  have alt : ∀ f (a : List V), cx d f a sso snx K → ∃ v S n, K v S n ∧ CallAlt (pcallK P f a sso true fun v' => v' = v ∧ sso = S ∧ snx = n) ((true = true → ucallK P f a sso snx fun a b c => a = v ∧ b = S ∧ c = n) ∧ (true = false → .any = v ∧ sso = S ∧ snx = n)) ((true = true → fcallK P f a sso snx fun a b c => a = v ∧ b = S ∧ c = n) ∧ (true = false → .any = v ∧ sso = S ∧ snx = n)) ((true = true → mcallK P f a sso snx fun a b c => a = v ∧ b = S ∧ c = n) ∧ (true = false → .any = v ∧ sso = S ∧ snx = n)) ∧ ((S = sso ∧ n = snx) ∨ n = snx + 16 ∨ n = snx + 1) := by
    intro f a h
    obtain ⟨v, S', n', hk, ⟨rfl, rfl, h1⟩ | ⟨h0, h1⟩ | ⟨h0, h1⟩ | ⟨h0, h1⟩⟩ := hcx d f a sso snx K h
    · exact ⟨v, _, _, hk, .inl (h1 _ ⟨rfl, rfl, rfl⟩), .inl ⟨rfl, rfl⟩⟩
    · exact ⟨v, S', n', hk, .inr ⟨fun _ => h1 _ ⟨rfl, rfl, rfl⟩, (by intro h; cases h)⟩, .inr (.inl h0)⟩
    · exact ⟨v, S', n', hk, .frz ⟨fun _ => h1 _ ⟨rfl, rfl, rfl⟩, (by intro h; cases h)⟩, .inr (.inr h0)⟩
    · exact ⟨v, S', n', hk, .mov ⟨fun _ => h1 _ ⟨rfl, rfl, rfl⟩, (by intro h; cases h)⟩, .inr (.inl h0)⟩
  have plain : insF P ssl sso snx ch gc i K → isCall i = false → ∃ v S n, K v S n ∧ insK' P ssl sso snx ch gc i (fun a b c => a = v ∧ b = S ∧ c = n) ∧ (isCall i = true → (S = sso ∧ n = snx) ∨ n = snx + 16 ∨ n = snx + 1) := by
    intro h hc
    rw [insF_eq] at h
    obtain ⟨v, S, n, h1, h2⟩ := insK_det (st := ⟨ssl, sso, snx⟩) h
    exact ⟨v, S, n, h1, h2, fun h => by rw [hc] at h; cases h⟩
  cases i with
  | call f xs =>
    simp only [insX] at h
    cases gc with
    | true =>
      simp only [forceVL_eq] at h
      obtain ⟨v, S, n, h1, h2, h3⟩ := alt _ _ h
      exact ⟨v, S, n, h1, h2, fun _ => h3⟩
    | false => exact ⟨_, _, _, h, .inr ⟨(by intro h; cases h), fun _ => ⟨rfl, rfl, rfl⟩⟩, fun _ => .inl ⟨rfl, rfl⟩⟩
  | vcall x xs =>
    simp only [insX] at h
    split at h
    · rename_i f caps hx
      rw [rqb_eq] at h
      obtain ⟨hc, h⟩ := h
      have hc := callableB_ok hc
      cases gc with
      | true =>
        simp only [forceVL_eq] at h
        obtain ⟨v, S, n, h1, h2, h3⟩ := alt _ _ h
        refine ⟨v, S, n, h1, ?_, fun _ => h3⟩
        unfold insK'
        dsimp only
        rw [hx]
        exact ⟨hc, h2⟩
      | false =>
        refine ⟨_, _, _, h, ?_, fun _ => .inl ⟨rfl, rfl⟩⟩
        unfold insK'
        dsimp only
        rw [hx]
        exact ⟨hc, .inr ⟨(by intro h; cases h), fun _ => ⟨rfl, rfl, rfl⟩⟩⟩
    · rename_i hx
      rw [rqn_eq] at h
      refine ⟨_, _, _, h.2, ?_, fun _ => .inl ⟨rfl, rfl⟩⟩
      unfold insK'
      dsimp only
      split
      · rename_i f caps e; exact absurd e (hx f caps)
      · exact ⟨h.1, rfl, rfl, rfl⟩
  | _ => exact plain h rfl

def opsX (P : Program) (cx : Cx) : List Ins → St → (St → Prop) → Prop
  | [], st, K => K st
  | ⟨d, g, i⟩ :: r, ⟨ssl, sso, snx⟩, K => guardF ssl g fun ch gc => insX P (cx (d.getD 0)) ssl sso snx ch gc i fun v S n => forceV v fun v => forceSt S fun S => forceNat 64 0 n fun n => putSF ssl d ⟨ch, gc, v⟩ fun sl => opsX P cx r ⟨sl, S, n⟩ K
theorem opsX_det {P : Program} {cx : Cx} (hcx : CxOK P cx) : ∀ (l : List Ins) (st : St) (K : St → Prop), opsX P cx l st K → ∃ st', K st' ∧ ∀ K' : St → Prop, K' st' → opsK P l st K'
  | [], st, K, h => ⟨st, h, fun _ h => h⟩
  | ⟨d, g, i⟩ :: r, ⟨ssl, sso, snx⟩, K, h => by
    simp only [opsX, guardF_eq] at h
    simp only [opsK]
    cases hg : guardOf ssl g with
    | none => rw [hg] at h; exact h.elim
    | some p =>
      obtain ⟨ch, gc⟩ := p
      rw [hg] at h
      obtain ⟨v, S, n, h1, h2, -⟩ := insX_det hcx h
      simp only [forceV_eq, forceSt_eq, forceNat_eq, putSF_eq] at h1
      obtain ⟨st', h3, h4⟩ := opsX_det hcx r _ K h1
      refine ⟨st', h3, fun K' hK' => ?_⟩
      refine insK'_mono (fun a b c e => ?_) h2
      obtain ⟨rfl, rfl, rfl⟩ := e
      exact h4 K' hK'

theorem insK'_same {P : Program} {ssl : Slots} {sso S : Store} {m n : Nat} {ch : List (Nat × Bool)} {gc : Bool} {i : I} {v : V} (h : insK' P ssl sso m ch gc i fun a b c => a = v ∧ b = S ∧ c = n) (hi : isCall i = false) {k : Nat} (hk : k ≠ m) (hc : k ∉ chgI (opnd ssl ch) i) : S.get k = sso.get k := by
  have rd : ∀ i, insK' P ssl sso m ch gc i (fun a b c => a = v ∧ b = S ∧ c = n) → (∀ K, insK' P ssl sso m ch gc i K = rdK sso i (opnd ssl ch) gc fun v => K v sso m) → S.get k = sso.get k := by
    intro i h he
    rw [he] at h
    obtain ⟨u, h1, -⟩ := rdK_det h
    obtain ⟨-, rfl, -⟩ := h1
    rfl
  have wr : ∀ i, insK' P ssl sso m ch gc i (fun a b c => a = v ∧ b = S ∧ c = n) → (∀ K, insK' P ssl sso m ch gc i K = wrGK ssl sso m ch gc i K) → k ∉ chgI (opnd ssl ch) i → S.get k = sso.get k := by
    intro i h he hc
    rw [he] at h
    unfold wrGK at h
    cases ch with
    | nil => exact wrK_same h hk hc
    | cons g r =>
      cases gc with
      | true => exact wrK_same (h.1 rfl) hk hc
      | false => obtain ⟨-, rfl, -⟩ := h.2 rfl; rfl
  cases i with
  | pick c a b =>
    cases c with
    | c v => exact rd _ h fun _ => rfl
    | t tc =>
      simp only [insK'] at h
      split at h
      · split at h
        · obtain ⟨-, rfl, -⟩ := h; rfl
        · split at h
          · obtain ⟨-, rfl, -⟩ := h; rfl
          · obtain ⟨-, rfl, -⟩ := h; rfl
      · obtain ⟨-, -, rfl, -⟩ := h; rfl
  | build z ps =>
    simp only [insK'] at h
    split at h
    · obtain ⟨-, -, rfl, -⟩ := h; rfl
    · exact h.elim
  | call f xs => cases hi
  | vcall x xs => cases hi
  | clr a b c => exact wr _ h (fun _ => rfl) hc
  | alloc z => exact wr _ h (fun _ => rfl) hc
  | box z => exact wr _ h (fun _ => rfl) hc
  | st a b c => exact wr _ h (fun _ => rfl) hc
  | mkmap a => exact wr _ h (fun _ => rfl) hc
  | mput a b c => exact wr _ h (fun _ => rfl) hc
  | mputp a b c => exact wr _ h (fun _ => rfl) hc
  | bslice a b c d => exact wr _ h (fun _ => rfl) hc
  | mk a b c d e => exact wr _ h (fun _ => rfl) hc
  | app a b c d => exact wr _ h (fun _ => rfl) hc
  | cpy a b c => exact wr _ h (fun _ => rfl) hc
  | s2b a => exact wr _ h (fun _ => rfl) hc
  | aslc a b c => exact wr _ h (fun _ => rfl) hc
  | cpys a b => exact wr _ h (fun _ => rfl) hc
  | _ => exact rd _ h fun _ => rfl
theorem sameK_intro {SO S1 : Store} {W : List Nat} {K : Prop} (hK : K) : ∀ {T : List Nat}, (∀ k ∈ T, k ∉ W → S1.get k = SO.get k) → sameK SO S1 W K T
  | [], _ => hK
  | k :: r, h => by
    simp only [sameK]
    split
    · exact sameK_intro hK fun j hj => h j (List.mem_cons_of_mem _ hj)
    · rename_i hn
      exact ⟨h k (by simp) (fun hm => by rw [hasN_mem.2 hm] at hn; cases hn), sameK_intro hK fun j hj => h j (List.mem_cons_of_mem _ hj)⟩

def dinsX (P : Program) (cx : Cx) : St → Nat → Option Nat → Option (Nat × Bool) → I → (Rec → St → Prop) → Prop
  | ⟨ssl, sso, snx⟩, m, d, g, i, K =>
  forceNL (gsl g ++ tmpsI i) fun rds => forceSl (look ssl rds) fun SL => guardF SL g fun ch gc => forceNL (idsC i SL sso) fun T => forceSt (lookO sso T) fun SO => forceNL (gsl g ++ chs SL) fun G =>
    insX P (cx (d.getD 0)) SL SO m ch gc i fun v S1 n1 => forceV v fun v => forceSt S1 fun S1 => forceNL (wrI SL T m n1 i) fun W => forceNL (W ++ newK m S1) fun ids =>
      rq ((keysOK T m S1 && (notIn d G && (allLt (m + 16) ids && (subN W T && (subN (chT ch) G && (awayN m T && Nat.ble n1 (m + 16))))))) && (subN (chgI (opnd SL ch) i) W && samX i SO S1 W T))
      (putSF ssl d ⟨ch, gc, v⟩ fun sl => forceSt (over sso S1 ids) fun so => K ⟨m, rds ++ G, chT ch, d, ⟨ch, gc, v⟩, T, ids, S1⟩ ⟨sl, so, snx⟩)
def dopsX (P : Program) (cx : Cx) : List Ins → List Nat → St → (List Rec → St → Prop) → Prop
  | [], [], st, K => K [] st
  | ⟨d, g, i⟩ :: r, m :: ms, st, K => dinsX P cx st m d g i fun rc st' => dopsX P cx r ms st' fun rs st'' => K (rc :: rs) st''
  | _, _, _, _ => False

theorem dinsX_det {P : Program} {cx : Cx} (hcx : CxOK P cx) : ∀ (st : St) (m : Nat) (d : Option Nat) (g : Option (Nat × Bool)) (i : I) (K : Rec → St → Prop), dinsX P cx st m d g i K → ∃ rc st', K rc st' ∧ ∀ K' : Rec → St → Prop, K' rc st' → dinsK P st m d g i K'
  | ⟨ssl, sso, snx⟩, m, d, g, i, K, h => by
    simp only [dinsX, forceNL_eq, forceSl_eq, guardF_eq, forceSt_eq] at h
    simp only [dinsK, forceNL_eq, forceSl_eq, guardF_eq, forceSt_eq]
    generalize hSL : look ssl (gsl g ++ tmpsI i) = SL at h ⊢
    cases hg : guardOf SL g with
    | none => rw [hg] at h; exact h.elim
    | some p =>
      obtain ⟨ch, gc⟩ := p
      rw [hg] at h
      dsimp only at h ⊢
      obtain ⟨v, S1, n1, h1, h2, h3⟩ := insX_det hcx h
      simp only [forceV_eq, rqb_eq, Bool.and_eq_true, putSF_eq] at h1
      obtain ⟨⟨⟨a1, a2, a3, a4, a5, a6, a7⟩, a8, a9⟩, hkK⟩ := h1
      refine ⟨_, _, hkK, fun K' hK' => ?_⟩
      refine insK'_mono (fun a b c e => ?_) h2
      obtain ⟨rfl, rfl, rfl⟩ := e
      simp only [forceV_eq, Bool.and_eq_true, putSF_eq]
      refine ⟨⟨a1, a2, a3, a4, a5, a6, a7⟩, sameK_intro hK' fun k hk hw => ?_⟩
      have hkm : k ≠ m := fun e => awayN_spec a6 k hk ⟨by omega, by omega⟩
      cases hc : isCall i with
      | false => exact insK'_same h2 hc hkm fun hm => hw (subN_spec a8 k hm)
      | true =>
        have go : ∀ j, c = m + (j + 1) → b.get k = (lookO sso (idsC i SL sso)).get k := by
          intro j e
          have hb : Nat.beq (m + (j + 1)) m = false := by
            cases hq : Nat.beq (m + (j + 1)) m with
            | false => rfl
            | true => have := Nat.eq_of_beq_eq_true hq; omega
          subst e
          cases i <;> try (cases hc; done)
          · rename_i f xs
            cases hr : hasN f Tab.ro with
            | true =>
              simp only [samX, hr] at a9
              exact sameB_ok a9 k hk hw
            | false =>
              exfalso
              apply hw
              simp only [wrI, hb, hr]; exact hk
          · exfalso
            apply hw
            simp only [wrI, hb]; exact hk
        rcases h3 hc with ⟨e, -⟩ | e | e
        · rw [e]
        · exact go 15 e
        · exact go 0 e
theorem dopsX_det {P : Program} {cx : Cx} (hcx : CxOK P cx) : ∀ (l : List Ins) (ms : List Nat) (st : St) (K : List Rec → St → Prop), dopsX P cx l ms st K → ∃ rs st', K rs st' ∧ ∀ K' : List Rec → St → Prop, K' rs st' → dopsK P l ms st K'
  | [], [], st, K, h => ⟨_, _, h, fun _ h => h⟩
  | [], _ :: _, st, K, h => h.elim
  | ⟨d, g, i⟩ :: r, [], st, K, h => h.elim
  | ⟨d, g, i⟩ :: r, m :: ms, st, K, h => by
    simp only [dopsX] at h
    simp only [dopsK]
    obtain ⟨rc, st', h1, h2⟩ := dinsX_det hcx _ _ _ _ _ _ h
    obtain ⟨rs, st'', h3, h4⟩ := dopsX_det hcx r ms st' _ h1
    exact ⟨rc :: rs, st'', h3, fun K' hK' => h2 _ (h4 _ hK')⟩

/-! ### Code -/
def ul : RC → RC
  | .seq a b => .seq (ul a) (ul b)
  | .cond c a b => .cond c (ul a) (ul b)
  | .block id a => .block id (ul a)
  | .loop a => .uloop (ul a)
  | .uloop a => .uloop (ul a)
  | rc => rc
theorem ul_strip : ∀ rc : RC, strip (ul rc) = strip rc
  | .seq a b => by simp only [ul, strip, ul_strip a, ul_strip b]
  | .cond c a b => by simp only [ul, strip, ul_strip a, ul_strip b]
  | .block id a => by simp only [ul, strip, ul_strip a]
  | .loop a => by simp only [ul, strip, ul_strip a]
  | .uloop a => by simp only [ul, strip, ul_strip a]
  | .skip => rfl
  | .reg _ _ => rfl
  | .dreg .. => rfl
  | .cut _ _ => rfl
  | .regc .. => rfl
  | .regv .. => rfl
  | .exit _ => rfl
  | .ret => rfl
  | .bad => rfl
def codeX (P : Program) (cx : Cx) (lf : Nat) : RC → St → (Ex → St → Prop) → Prop
  | .skip, st, K => K .normal st
  | .reg l kill, st, K => opsX P cx l st fun | ⟨sl0, so0, nx0⟩ => cleanF kill sl0 fun sl => K .normal ⟨sl, so0, nx0⟩
  | .dreg b0 n l kill an ms, st, K => match Nat.ble st.nx b0 with
    | true => dopsX P cx l ms ⟨st.sl, st.so, n⟩ fun | recs, ⟨sl0, so0, nx0⟩ => rq (commB recs an 0) <| cleanF kill (look sl0 (keysS sl0)) fun sl => K .normal ⟨sl, so0, nx0⟩
    | false => dopsX P cx l (shM st.nx ms) ⟨st.sl, st.so, n + st.nx⟩ fun | recs, ⟨sl0, so0, nx0⟩ => rq (commB recs an 0) <| cleanF kill (look sl0 (keysS sl0)) fun sl => K .normal ⟨sl, so0, nx0⟩
  | .seq a b, st, K => codeX P cx lf a st fun e st' => match e with
    | .normal => codeX P cx lf b st' K
    | .exit id => K (.exit id) st'
    | .ret => K .ret st'
  | .cond c a b, st, K => match opnd st.sl [] c with
    | .bool x => cq x (codeX P cx lf a st K) (codeX P cx lf b st K)
    | _ => False
  | .block id c, st, K => codeX P cx lf c st fun e st' => match e with
    | .exit j => match Nat.beq j id with
      | true => K .normal st'
      | false => K (.exit j) st'
    | .normal => K .normal st'
    | .ret => K .ret st'
  | .loop c, st, K => iterK (codeX P cx lf c) K lf st
  | .uloop c, st, K => iterK (codeX P cx lf c) K lf st
  | .exit id, st, K => K (.exit id) st
  | .ret, st, K => K .ret st
  | _, _, _ => False
def DetC (f g : St → (Ex → St → Prop) → Prop) : Prop := ∀ st K, f st K → ∃ e st', K e st' ∧ ∀ K' : Ex → St → Prop, K' e st' → g st K'
theorem iter_det {f g : St → (Ex → St → Prop) → Prop} (h : DetC f g) : ∀ (n : Nat) (st : St) (K : Ex → St → Prop), iterK f K n st → ∃ e st', K e st' ∧ ∀ K' : Ex → St → Prop, K' e st' → ∃ n', iterK g K' n' st
  | 0, _, _, hi => hi.elim
  | n + 1, st, K, hi => by
    obtain ⟨e, st', h1, h2⟩ := h st _ hi
    cases e with
    | normal =>
      obtain ⟨e2, st2, h3, h4⟩ := iter_det h n st' K h1
      refine ⟨e2, st2, h3, fun K' hK' => ?_⟩
      obtain ⟨n', h5⟩ := h4 K' hK'
      exact ⟨n' + 1, h2 _ h5⟩
    | exit id => exact ⟨_, _, h1, fun K' hK' => ⟨1, h2 _ hK'⟩⟩
    | ret => exact ⟨_, _, h1, fun K' hK' => ⟨1, h2 _ hK'⟩⟩
theorem codeX_det {P : Program} {cx : Cx} (hcx : CxOK P cx) (lf n0 : Nat) : ∀ rc : RC, DetC (codeX P cx lf rc) (codeK P n0 (ul rc)) := by
  intro rc
  induction rc with
  | skip => intro st K h; exact ⟨_, _, h, fun _ h => h⟩
  | exit id => intro st K h; exact ⟨_, _, h, fun _ h => h⟩
  | ret => intro st K h; exact ⟨_, _, h, fun _ h => h⟩
  | reg l kill =>
    intro st K h
    simp only [codeX, cleanF_eq] at h
    obtain ⟨⟨sl0, so0, nx0⟩, h1, h2⟩ := opsX_det hcx l st _ h
    exact ⟨_, _, h1, fun K' hK' => h2 _ hK'⟩
  | dreg b0 n l kill an ms =>
    intro st K h
    simp only [codeX, cleanF_eq, rqb_eq] at h
    split at h
    · rename_i hb
      obtain ⟨rs, ⟨sl0, so0, nx0⟩, h1, h2⟩ := dopsX_det hcx l ms _ _ h
      exact ⟨_, _, h1.2, fun K' hK' => by simp only [ul, codeK, hb]; exact h2 _ ⟨h1.1, hK'⟩⟩
    · rename_i hb
      obtain ⟨rs, ⟨sl0, so0, nx0⟩, h1, h2⟩ := dopsX_det hcx l _ _ _ h
      exact ⟨_, _, h1.2, fun K' hK' => by simp only [ul, codeK, hb]; exact h2 _ ⟨h1.1, hK'⟩⟩
  | seq a b iha ihb =>
    intro st K h
    obtain ⟨e, st', h1, h2⟩ := iha st _ h
    cases e with
    | normal =>
      obtain ⟨e2, st2, h3, h4⟩ := ihb st' K h1
      exact ⟨e2, st2, h3, fun K' hK' => h2 _ (h4 _ hK')⟩
    | exit id => exact ⟨_, _, h1, fun K' hK' => h2 _ hK'⟩
    | ret => exact ⟨_, _, h1, fun K' hK' => h2 _ hK'⟩
  | cond c a b iha ihb =>
    intro st K h
    simp only [codeX] at h
    split at h
    · rename_i x hx
      cases x with
      | true =>
        obtain ⟨e, st', h1, h2⟩ := iha st K h
        refine ⟨e, st', h1, fun K' hK' => ?_⟩
        simp only [ul, codeK, hx]
        exact ⟨fun _ => h2 _ hK', (by intro h; cases h)⟩
      | false =>
        obtain ⟨e, st', h1, h2⟩ := ihb st K h
        refine ⟨e, st', h1, fun K' hK' => ?_⟩
        simp only [ul, codeK, hx]
        exact ⟨(by intro h; cases h), fun _ => h2 _ hK'⟩
    · exact h.elim
  | block id c ih =>
    intro st K h
    obtain ⟨e, st', h1, h2⟩ := ih st _ h
    cases e with
    | normal => exact ⟨_, _, h1, fun K' hK' => h2 _ hK'⟩
    | ret => exact ⟨_, _, h1, fun K' hK' => h2 _ hK'⟩
    | exit j =>
      dsimp only at h1
      split at h1
      · rename_i hj
        exact ⟨_, _, h1, fun K' hK' => h2 _ (by show if j = id then K' .normal st' else K' (.exit j) st'; rw [if_pos (Nat.eq_of_beq_eq_true hj)]; exact hK')⟩
      · rename_i hj
        exact ⟨_, _, h1, fun K' hK' => h2 _ (by show if j = id then K' .normal st' else K' (.exit j) st'; rw [if_neg (Nat.ne_of_beq_eq_false hj)]; exact hK')⟩
  | loop c ih => intro st K h; exact iter_det ih lf st K h
  | uloop c ih => intro st K h; exact iter_det ih lf st K h
  | _ => intro st K h; exact h.elim
end Go.Sk
