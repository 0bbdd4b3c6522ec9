/- Sk, part M: a call that is lent objects, and hands back new ones. -/
import Derived.Test.YtmhapcbjjpadnaaGreatSkH
set_option linter.unusedSimpArgs false
set_option linter.unusedVariables false
set_option linter.unusedSectionVars false
namespace Go.Sk
open Go Go.RowKit
variable [Tab]

def hasN (d : Nat) : List Nat → Bool
  | [] => false
  | h :: t => d == h || hasN d t

def posOf (k : Nat) : List Nat → Nat → Option Nat
  | [], _ => none
  | h :: t, j => match Nat.beq k h with
    | true => some j
    | false => posOf k t (j + 1)
theorem posOf_get : ∀ {k : Nat} {L : List Nat} {i j : Nat}, posOf k L i = some j → i ≤ j ∧ L[j - i]? = some k
  | _, [], _, _, h => by simp [posOf] at h
  | k, h :: t, i, j, hp => by
    simp only [posOf] at hp
    split at hp
    · rename_i hb
      obtain rfl := Option.some.inj hp
      have := Nat.eq_of_beq_eq_true hb
      subst this
      simp
    · obtain ⟨h1, h2⟩ := posOf_get hp
      refine ⟨by omega, ?_⟩
      rw [show j - i = (j - (i + 1)) + 1 by omega, List.getElem?_cons_succ]; exact h2

/-- An argument, with the numbers that the callee knows. -/
def arg1 (L : List Nat) : V → V
  | .ptr k i c => match posOf k L 0 with | some j => .ptr j i c | none => .any
  | .sl k off len => match posOf k L 0 with | some j => .sl j off len | none => .any
  | .slk k off len c => match posOf k L 0 with | some j => .slk j off len c | none => .any
  | .mp k => match posOf k L 0 with | some j => .mp j | none => .any
  | .int k n => .int k n
  | .bool b => .bool b
  | .str s => .str s
  | .nil => .nil
  | .rp es cs c => .rp es cs c
  | .lst es t xs => .lst es t xs
  | .val v => .val v
  | _ => .any
def arg2 (L : List Nat) : V → V
  | .agg cs => .agg (cs.map (arg1 L))
  | .fn f cs => .fn f (cs.map (arg1 L))
  | v => arg1 L v

def closedO : Obj → Bool
  | .row _ _ => true
  | .box cs => cs.all flatV
  | .mp _ => true

/-- An object under the callee's names. -/
def argO (L : List Nat) : Obj → Obj
  | .row es xs => .row es xs
  | .box cs => .box (cs.map (arg1 L))
  | .mp xs => .mp xs
def lentOK (S : Store) (L0 : List Nat) : List Nat → List Obj → Prop
  | [], [] => True
  | k :: L, o :: obs => (match S.get k with | some p => argO L0 p = o | none => False) ∧ lentOK S L0 L obs
  | _, _ => False
def nodupN : List Nat → Bool
  | [] => true
  | k :: r => !hasN k r && nodupN r

def setL : Store → List Nat → List Obj → Nat → Store
  | S, _, [], _ => S
  | S, k :: L, o :: obs, m => setL (S.set k o) L obs m
  | S, [], o :: obs, m => setL (S.set m o) [] obs (m + 1)

def renK (L : List Nat) (m j : Nat) : Nat := if j < L.length then L.getD j 0 else m + (j - L.length)
def ren1 (L : List Nat) (m : Nat) : V → V
  | .ptr k i c => .ptr (renK L m k) i c
  | .sl k off len => .sl (renK L m k) off len
  | .slk k off len c => .slk (renK L m k) off len c
  | .mp k => .mp (renK L m k)
  | .int k n => .int k n
  | .bool b => .bool b
  | .str s => .str s
  | .nil => .nil
  | .rp es cs c => .rp es cs c
  | .lst es t xs => .lst es t xs
  | .val v => .val v
  | _ => .any
def ren2 (L : List Nat) (m : Nat) : V → V
  | .agg cs => .agg (cs.map (ren1 L m))
  | .fn f cs => .fn f (cs.map (ren1 L m))
  | v => ren1 L m v
def ren3 (L : List Nat) (m : Nat) : V → V
  | .tup cs => .tup (cs.map (ren2 L m))
  | v => ren2 L m v

/-- An object under the caller's names. -/
def renO (L : List Nat) (m : Nat) : Obj → Obj
  | .row es xs => .row es xs
  | .box cs => .box (cs.map (ren1 L m))
  | .mp xs => .mp xs

/-- A call that is lent the objects L. -/
def ucallK (P : Program) (f : FuncId) (args : List V) (S : Store) (m : Nat) (K : V → Store → Nat → Prop) : Prop :=
  ∃ (L : List Nat) (ob0 ob1 : List Obj) (res : V), FnC P f ob0 (args.map (arg2 L)) res ob1 ∧ lentOK S L L ob0 ∧ nodupN L = true ∧ Nat.ble L.length ob1.length = true ∧ Nat.ble ob1.length (L.length + 16) = true ∧
    K (ren3 L m res) (setL S L (ob1.map (renO L m)) m) (m + 16)

theorem hasN_mem : ∀ {d : Nat} {l : List Nat}, hasN d l = true ↔ d ∈ l
  | d, [] => by simp [hasN]
  | d, h :: t => by simp only [hasN, Bool.or_eq_true, beq_iff_eq, List.mem_cons]; exact or_congr Iff.rfl hasN_mem

theorem nodupN_inj : ∀ {L : List Nat}, nodupN L = true → ∀ (i j k : Nat), L[i]? = some k → L[j]? = some k → i = j
  | [], _, i, j, k, h, _ => by simp at h
  | a :: r, hn, i, j, k, hi, hj => by
    simp only [nodupN, Bool.and_eq_true, Bool.not_eq_true'] at hn
    have hna : a ∉ r := fun hm => by rw [hasN_mem.2 hm] at hn; exact absurd hn.1 (by simp)
    cases i with
    | zero =>
      simp only [List.getElem?_cons_zero, Option.some.injEq] at hi
      subst hi
      cases j with
      | zero => rfl
      | succ j => exact absurd (List.mem_of_getElem? (by simpa using hj)) hna
    | succ i =>
      cases j with
      | zero =>
        simp only [List.getElem?_cons_zero, Option.some.injEq] at hj
        subst hj
        exact absurd (List.mem_of_getElem? (by simpa using hi)) hna
      | succ j => rw [nodupN_inj hn.2 i j k (by simpa using hi) (by simpa using hj)]

theorem lentOK_get {S : Store} {L0 : List Nat} : ∀ {L : List Nat} {obs : List Obj}, lentOK S L0 L obs → L.length = obs.length ∧ ∀ (j k : Nat), L[j]? = some k → ∃ p, obs[j]? = some (argO L0 p) ∧ S.get k = some p
  | [], [], _ => by simp
  | [], _ :: _, h => h.elim
  | _ :: _, [], h => h.elim
  | a :: L, o :: obs, h => by
    obtain ⟨h1, h3⟩ := h
    obtain ⟨h4, h5⟩ := lentOK_get h3
    refine ⟨by simp [h4], fun j k hj => ?_⟩
    cases j with
    | zero =>
      simp only [List.getElem?_cons_zero, Option.some.injEq] at hj
      subst hj
      split at h1
      · rename_i p hp; subst h1; exact ⟨p, rfl, hp⟩
      · exact h1.elim
    | succ j => exact h5 j k (by simpa using hj)

theorem setL_nil_get : ∀ (obs : List Obj) (S : Store) (m k : Nat), (setL S [] obs m).get k = if m ≤ k ∧ k < m + obs.length then obs[k - m]? else S.get k
  | [], S, m, k => by simp [setL]; omega
  | o :: obs, S, m, k => by
    simp only [setL]
    rw [setL_nil_get obs (S.set m o) (m + 1) k, Store.get_set]
    simp only [List.length_cons]
    by_cases h : k = m
    · subst h; rw [if_neg (by omega), if_pos rfl, if_pos (by omega)]; simp
    · by_cases h2 : m ≤ k ∧ k < m + (obs.length + 1)
      · rw [if_pos (by omega), if_pos h2, show k - m = (k - (m + 1)) + 1 by omega, List.getElem?_cons_succ]
      · rw [if_neg (by omega), if_neg h, if_neg h2]

theorem setL_get : ∀ (L : List Nat) (obs : List Obj) (S : Store) (m : Nat), L.length ≤ obs.length → nodupN L = true → (∀ k ∈ L, ¬ (m ≤ k ∧ k < m + (obs.length - L.length))) → ∀ k : Nat,
    (∀ j : Nat, L[j]? = some k → (setL S L obs m).get k = obs[j]?) ∧
    (m ≤ k ∧ k < m + (obs.length - L.length) → (setL S L obs m).get k = obs[L.length + (k - m)]?) ∧
    (k ∉ L → ¬ (m ≤ k ∧ k < m + (obs.length - L.length)) → (setL S L obs m).get k = S.get k)
  | [], obs, S, m, _, _, _, k => by
    rw [setL_nil_get]
    simp only [List.length_nil, Nat.sub_zero, Nat.zero_add]
    refine ⟨by simp, fun h => by rw [if_pos h], fun _ h => by rw [if_neg h]⟩
  | a :: L, [], S, m, h, _, _, k => by simp at h
  | a :: L, o :: obs, S, m, h, hn, hf, k => by
    have hn' := hn
    simp only [nodupN, Bool.and_eq_true, Bool.not_eq_true'] at hn
    have hna : a ∉ L := fun hm => by rw [hasN_mem.2 hm] at hn; exact absurd hn.1 (by simp)
    simp only [List.length_cons] at h hf
    have e1 : obs.length + 1 - (L.length + 1) = obs.length - L.length := by omega
    rw [e1] at hf
    obtain ⟨h1, h2, h3⟩ := setL_get L obs (S.set a o) m (by omega) hn.2 (fun k hk => hf k (List.mem_cons_of_mem _ hk)) k
    simp only [setL, List.length_cons, e1]
    refine ⟨fun j hj => ?_, fun hk => ?_, fun hk hk2 => ?_⟩
    · cases j with
      | zero =>
        simp only [List.getElem?_cons_zero, Option.some.injEq] at hj
        subst hj
        rw [h3 hna (hf a (by simp)), Store.get_set, if_pos rfl]; rfl
      | succ j => rw [h1 j (by simpa using hj)]; rfl
    · rw [h2 hk, show L.length + 1 + (k - m) = (L.length + (k - m)) + 1 by omega, List.getElem?_cons_succ]
    · rw [h3 (fun hm => hk (List.mem_cons_of_mem _ hm)) hk2, Store.get_set, if_neg (fun e => hk (by simp [e]))]

section
variable {P : Program} {U : Nat → Prop} {σ : Sg} {S : Store} {w : World} {n m : Nat}

/-- The callee's placing of objects. -/
def sgL (σ : Sg) (L : List Nat) : Sg := fun j => match L[j]? with | some k => σ k | none => none
/-- The caller's, behind the call. -/
def sgR (σ σ' : Sg) (L : List Nat) (m c : Nat) : Sg := fun k => if m ≤ k ∧ k < m + c then σ' (L.length + (k - m)) else σ k

theorem arg1_VR {O : Nat → Prop} {L : List Nat} {x : V} {v : Value} (hv : VR O w σ x v) : VR O w (sgL σ L) (arg1 L x) v := by
  cases x with
  | ptr k i c =>
    simp only [arg1]
    split
    · rename_i j hj
      have := (posOf_get hj).2
      simp only [Nat.sub_zero] at this
      cases hv with
      | ptr hs => exact .ptr (by simp only [sgL, this]; exact hs)
    · exact .any _
  | sl k off len =>
    simp only [arg1]
    split
    · rename_i j hj
      have := (posOf_get hj).2
      simp only [Nat.sub_zero] at this
      cases hv with
      | sl hs hle ha => exact .sl (by simp only [sgL, this]; exact hs) hle ha
      | sl0 hs => exact .sl0 (by simp only [sgL, this]; exact hs)
    · exact .any _
  | slk k off len c =>
    simp only [arg1]
    split
    · rename_i j hj
      have := (posOf_get hj).2
      simp only [Nat.sub_zero] at this
      cases hv with
      | slk hs hle ha hc => exact .slk (by simp only [sgL, this]; exact hs) hle ha hc
      | slk0 hs => exact .slk0 (by simp only [sgL, this]; exact hs)
    · exact .any _
  | mp k =>
    simp only [arg1]
    split
    · rename_i j hj
      have := (posOf_get hj).2
      simp only [Nat.sub_zero] at this
      cases hv with
      | mp hs => exact .mp (by simp only [sgL, this]; exact hs)
    · exact .any _
  | int k n => exact (flatV_lift hv rfl).lift _
  | bool b => exact (flatV_lift hv rfl).lift _
  | str s => exact (flatV_lift hv rfl).lift _
  | nil => exact (flatV_lift hv rfl).lift _
  | rp es cs c => exact (flatV_lift hv rfl).lift _
  | lst es t xs => exact (flatV_lift hv rfl).lift _
  | val u => cases hv; exact .val _
  | _ => exact .any _

theorem arg2_VR {O : Nat → Prop} {L : List Nat} {x : V} {v : Value} (hv : VR O w σ x v) : VR O w (sgL σ L) (arg2 L x) v := by
  by_cases ha : ∃ cs, x = .agg cs
  · obtain ⟨cs, rfl⟩ := ha
    cases hv with
    | agg hn hc =>
      simp only [arg2]
      refine .agg (by simpa using hn) fun i y u hy hu => ?_
      rw [List.getElem?_map, Option.map_eq_some_iff] at hy
      obtain ⟨y', hy', rfl⟩ := hy
      exact arg1_VR (hc i y' u hy' hu)
  by_cases hb : ∃ f cs, x = .fn f cs
  · obtain ⟨f, cs, rfl⟩ := hb
    cases hv with
    | fn hn hc =>
      simp only [arg2]
      refine .fn (by simpa using hn) fun i y u hy hu => ?_
      rw [List.getElem?_map, Option.map_eq_some_iff] at hy
      obtain ⟨y', hy', rfl⟩ := hy
      exact arg1_VR (hc i y' u hy' hu)
  · have h1 : arg2 L x = arg1 L x := by unfold arg2; split; exact absurd ⟨_, rfl⟩ ha; exact absurd ⟨_, _, rfl⟩ hb; rfl
    rw [h1]; exact arg1_VR hv

theorem ren1_VR {O : Nat → Prop} {L : List Nat} {σ' σ2 : Sg} (hσ : ∀ j, σ' j ≠ none → σ2 (renK L m j) = σ' j) {x : V} {v : Value} (hv : VR O w σ' x v) : VR O w σ2 (ren1 L m x) v := by
  cases x with
  | ptr k i c => cases hv with | ptr hs => exact .ptr ((hσ _ (by rw [hs]; simp)).trans hs)
  | sl k off len =>
    cases hv with
    | sl hs hle ha => exact .sl ((hσ _ (by rw [hs]; simp)).trans hs) hle ha
    | sl0 hs => exact .sl0 ((hσ _ (by rw [hs]; simp)).trans hs)
  | slk k off len c =>
    cases hv with
    | slk hs hle ha hc => exact .slk ((hσ _ (by rw [hs]; simp)).trans hs) hle ha hc
    | slk0 hs => exact .slk0 ((hσ _ (by rw [hs]; simp)).trans hs)
  | mp k => cases hv with | mp hs => exact .mp ((hσ _ (by rw [hs]; simp)).trans hs)
  | int k n => exact (flatV_lift hv rfl).lift _
  | bool b => exact (flatV_lift hv rfl).lift _
  | str s => exact (flatV_lift hv rfl).lift _
  | nil => exact (flatV_lift hv rfl).lift _
  | rp es cs c => exact (flatV_lift hv rfl).lift _
  | lst es t xs => exact (flatV_lift hv rfl).lift _
  | val u => cases hv; exact .val _
  | _ => exact .any _

theorem ren2_VR {O : Nat → Prop} {L : List Nat} {σ' σ2 : Sg} (hσ : ∀ j, σ' j ≠ none → σ2 (renK L m j) = σ' j) {x : V} {v : Value} (hv : VR O w σ' x v) : VR O w σ2 (ren2 L m x) v := by
  by_cases ha : ∃ cs, x = .agg cs
  · obtain ⟨cs, rfl⟩ := ha
    cases hv with
    | agg hn hc =>
      simp only [ren2]
      refine .agg (by simpa using hn) fun i y u hy hu => ?_
      rw [List.getElem?_map, Option.map_eq_some_iff] at hy
      obtain ⟨y', hy', rfl⟩ := hy
      exact ren1_VR hσ (hc i y' u hy' hu)
  by_cases hb : ∃ f cs, x = .fn f cs
  · obtain ⟨f, cs, rfl⟩ := hb
    cases hv with
    | fn hn hc =>
      simp only [ren2]
      refine .fn (by simpa using hn) fun i y u hy hu => ?_
      rw [List.getElem?_map, Option.map_eq_some_iff] at hy
      obtain ⟨y', hy', rfl⟩ := hy
      exact ren1_VR hσ (hc i y' u hy' hu)
  · have h1 : ren2 L m x = ren1 L m x := by unfold ren2; split; exact absurd ⟨_, rfl⟩ ha; exact absurd ⟨_, _, rfl⟩ hb; rfl
    rw [h1]; exact ren1_VR hσ hv
theorem ren3_VR {O : Nat → Prop} {L : List Nat} {σ' σ2 : Sg} (hσ : ∀ j, σ' j ≠ none → σ2 (renK L m j) = σ' j) {x : V} {v : Value} (hv : VR O w σ' x v) : VR O w σ2 (ren3 L m x) v := by
  by_cases ha : ∃ cs, x = .tup cs
  · obtain ⟨cs, rfl⟩ := ha
    cases hv with
    | tup hn hc =>
      simp only [ren3]
      refine .tup (by simpa using hn) fun i y u hy hu => ?_
      rw [List.getElem?_map, Option.map_eq_some_iff] at hy
      obtain ⟨y', hy', rfl⟩ := hy
      exact ren2_VR hσ (hc i y' u hy' hu)
  · have h1 : ren3 L m x = ren2 L m x := by unfold ren3; split; exact absurd ⟨_, rfl⟩ ha; rfl
    rw [h1]; exact ren2_VR hσ hv

theorem ObjR.via {O O' : Nat → Prop} (hO : ∀ b, O' b → O b) {σ σ' : Sg} {loc : Option (Option Nat × Nat × Nat)} {o o' : Obj}
    (ho : match o, o' with | .row es xs, .row es' xs' => es' = es ∧ xs' = xs | .mp xs, .mp xs' => xs' = xs | .box cs, .box cs' => cs'.length = cs.length ∧ ∀ (c : Nat) (y' : V) (v : Value), cs'[c]? = some y' → (∀ y, cs[c]? = some y → VR O w σ y v) → VR O w σ' y' v | _, _ => False)
    (h : ObjR O w σ loc o) : ObjR O' w σ' loc o' := by
  cases o with
  | row es xs =>
    cases o' with
    | row es' xs' =>
      obtain ⟨rfl, rfl⟩ := ho
      obtain ⟨hl, h⟩ := h
      refine ⟨hl, ?_⟩
      rcases loc with _ | ⟨_ | b, es', cap⟩
      · exact h
      · exact h
      · obtain ⟨rfl, e1, arr, ty, e2, e3, e4⟩ := h
        refine ⟨rfl, e1, arr, ty, e2, e3, fun i x c y hx hy => ?_⟩
        obtain ⟨v, q1, q2, q3⟩ := e4 i x c y hx hy
        exact ⟨v, q1, q2, q3.mono (Keep.refl _ _) (fun b _ h => hO b h) fun _ _ => rfl⟩
    | box _ => exact ho.elim
    | mp _ => exact ho.elim
  | box cs =>
    cases o' with
    | row _ _ => exact ho.elim
    | mp _ => exact ho.elim
    | box cs' =>
      obtain ⟨hl, hc⟩ := ho
      obtain ⟨b, rfl, arr, ty, e2, e3, e4⟩ := h
      refine ⟨b, by rw [hl], arr, ty, e2, by omega, fun c y' hy' => ?_⟩
      obtain ⟨hlt, -⟩ := List.getElem?_eq_some_iff.1 hy'
      obtain ⟨v, q1, q2, q3⟩ := e4 c _ (List.getElem?_eq_getElem (show c < cs.length by omega))
      refine ⟨v, q1, q2, (hc c y' v hy' fun y hy => ?_).mono (Keep.refl _ _) (fun b _ h => hO b h) fun _ _ => rfl⟩
      rw [List.getElem?_eq_getElem (show c < cs.length by omega)] at hy
      obtain rfl := Option.some.inj hy
      exact q3
  | mp xs =>
    cases o' with
    | row _ _ => exact ho.elim
    | box _ => exact ho.elim
    | mp xs' =>
      obtain rfl := ho
      obtain ⟨b, rfl, es, ck, e2, e3, e4⟩ := h
      refine ⟨b, rfl, es, ck, e2, e3, fun i p hp => ?_⟩
      obtain ⟨en, q1, q2, q3⟩ := e4 i p hp
      exact ⟨en, q1, q2, q3.mono (Keep.refl _ _) (fun b _ h => hO b h) fun _ _ => rfl⟩
theorem ObjR.arg {O O' : Nat → Prop} (hO : ∀ b, O' b → O b) {σ : Sg} {L : List Nat} {loc : Option (Option Nat × Nat × Nat)} {o : Obj} (h : ObjR O w σ loc o) : ObjR O' w (sgL σ L) loc (argO L o) := by
  refine ObjR.via hO ?_ h
  cases o with
  | row es xs => exact ⟨rfl, rfl⟩
  | mp xs => rfl
  | box cs =>
    refine ⟨List.length_map _, fun c y' v hy' hv => ?_⟩
    rw [List.getElem?_map, Option.map_eq_some_iff] at hy'
    obtain ⟨y, hy, rfl⟩ := hy'
    exact arg1_VR (hv y hy)
theorem ObjR.ren {O O' : Nat → Prop} (hO : ∀ b, O' b → O b) {σ' σ2 : Sg} {L : List Nat} {m : Nat} (hσ : ∀ j, σ' j ≠ none → σ2 (renK L m j) = σ' j) {loc : Option (Option Nat × Nat × Nat)} {o : Obj} (h : ObjR O w σ' loc o) : ObjR O' w σ2 loc (renO L m o) := by
  refine ObjR.via hO ?_ h
  cases o with
  | row es xs => exact ⟨rfl, rfl⟩
  | mp xs => rfl
  | box cs =>
    refine ⟨List.length_map _, fun c y' v hy' hv => ?_⟩
    rw [List.getElem?_map, Option.map_eq_some_iff] at hy'
    obtain ⟨y, hy, rfl⟩ := hy'
    exact ren1_VR hσ (hv y hy)

theorem ucall_sound {f : FuncId} (hR : RelS U σ S w n) (hfree : ∀ i, i < 16 → S.get (m + i) = none ∧ σ (m + i) = none) {args : List V} {cargs : Array Value} (hl : cargs.size = args.length)
    (ha : ∀ (i : Nat) v c, args[i]? = some v → cargs[i]? = some c → VR (Own U σ S) w σ v c) {L : List Nat} {ob0 ob1 : List Obj} {res : V} (hf : FnC P f ob0 (args.map (arg2 L)) res ob1) (hlent : lentOK S L L ob0) (hnd : nodupN L = true)
    (hle : L.length ≤ ob1.length) (hle2 : ob1.length ≤ L.length + 16) :
    Calls P f cargs w fun e w' => ∃ cv σ', e = .returned cv ∧ (∀ k, ¬ (m ≤ k ∧ k < m + 16) → σ' k = σ k) ∧ Grow σ S w n σ' (setL S L (ob1.map (renO L m)) m) w' (max n (m + 16)) ∧ RelS U σ' (setL S L (ob1.map (renO L m)) m) w' (max n (m + 16)) ∧ VR (Own U σ' (setL S L (ob1.map (renO L m)) m)) w' σ' (ren3 L m res) cv := by
  obtain ⟨hlen, hget⟩ := lentOK_get hlent
  have hLfree : ∀ k ∈ L, ¬ (m ≤ k ∧ k < m + (ob1.length - L.length)) := fun k hk ⟨h1, h2⟩ => by
    obtain ⟨j, hj⟩ := List.getElem?_of_mem hk
    obtain ⟨o, -, h3⟩ := hget j k hj
    have := (hfree (k - m) (by omega)).1
    rw [show m + (k - m) = k by omega, h3] at this
    cases this
  let U' : Nat → Prop := fun b => U b ∨ ∃ k o es cap, k ∉ L ∧ S.get k = some o ∧ σ k = some (some b, es, cap)
  have get0 : ∀ j o, (mkFrom 0 ob0).get j = some o → ∃ k p, L[j]? = some k ∧ S.get k = some p ∧ sgL σ L j = σ k ∧ o = argO L p := by
    intro j o hj
    rw [get_mkFrom, if_pos (Nat.zero_le _), Nat.sub_zero] at hj
    obtain ⟨hjl, -⟩ := List.getElem?_eq_some_iff.1 hj
    have hk := List.getElem?_eq_getElem (l := L) (i := j) (by omega)
    obtain ⟨p, h1, h2⟩ := hget j _ hk
    rw [hj] at h1
    exact ⟨_, p, hk, h2, by simp only [sgL, hk], Option.some.inj h1⟩
  have own0 : ∀ b, OwnE (sgL σ L) (mkFrom 0 ob0) b → ∃ k o es cap, k ∈ L ∧ S.get k = some o ∧ σ k = some (some b, es, cap) := by
    rintro b ⟨j, o, es, cap, hj, hs⟩
    obtain ⟨k, p, h1, h2, h3, -⟩ := get0 j o hj
    exact ⟨k, p, es, cap, List.mem_of_getElem? h1, h2, h3 ▸ hs⟩
  have own0' : ∀ b, Own U' (sgL σ L) (mkFrom 0 ob0) b → Own U σ S b := by
    rintro b ((hu | ⟨k, o, es, cap, -, h2, h3⟩) | h)
    · exact .inl hu
    · exact .inr ⟨k, o, es, cap, h2, h3⟩
    · obtain ⟨k, o, es, cap, -, h2, h3⟩ := own0 b h; exact .inr ⟨k, o, es, cap, h2, h3⟩
  have hR0 : RelS U' (sgL σ L) (mkFrom 0 ob0) w ob0.length := by
    refine ⟨fun j o hj => ?_, fun j j' o o' b es cap es' cap' hj hj' hs hs' => ?_, fun j hj => ⟨by rw [get_mkFrom, if_pos (Nat.zero_le _), Nat.sub_zero, List.getElem?_eq_none (by omega)], by simp [sgL, List.getElem?_eq_none (show L.length ≤ j by omega)]⟩, fun b hb hu => ?_, fun b hu => ?_, hR.gl.less fun b h => own0' b h⟩
    · obtain ⟨k, p, h1, h2, h3, rfl⟩ := get0 j o hj
      rw [h3]
      exact (hR.obj k p h2).arg own0'
    · obtain ⟨k, p, h1, h2, h3, -⟩ := get0 j o hj
      obtain ⟨k', p', h1', h2', h3', -⟩ := get0 j' o' hj'
      obtain rfl := hR.inj k k' p p' b es cap es' cap' h2 h2' (h3 ▸ hs) (h3' ▸ hs')
      exact nodupN_inj hnd j j' k h1 h1'
    · obtain ⟨k, o, es, cap, hk, h2, h3⟩ := own0 b hb
      rcases hu with hu | ⟨k', o', es', cap', hk', h2', h3'⟩
      · exact hR.disj b ⟨k, o, es, cap, h2, h3⟩ hu
      · obtain rfl := hR.inj k k' o o' b es cap es' cap' h2 h2' h3 h3'
        exact hk' hk
    · rcases hu with hu | ⟨k', o', es', cap', hk', h2', h3'⟩
      · exact hR.ulim b hu
      · exact hR.size ⟨k', o', es', cap', h2', h3'⟩
  refine (hf U' (sgL σ L) w cargs hR0 (by simpa using hl) fun i v c hv hc => ?_).mono fun e w' ⟨cv, σ', he, hR', hv, g⟩ => ?_
  · rw [List.getElem?_map, Option.map_eq_some_iff] at hv
    obtain ⟨v', hv', rfl⟩ := hv
    exact (arg2_VR (ha i v' c hv' hc)).mono (Keep.refl _ _) (fun b _ h => own0' b h) fun _ _ => rfl
  · -- behind the call
    obtain ⟨S2, hS2⟩ : ∃ S2, S2 = setL S L (ob1.map (renO L m)) m := ⟨_, rfl⟩
    have hlm : (ob1.map (renO L m)).length = ob1.length := List.length_map _
    have gS := setL_get L (ob1.map (renO L m)) S m (by omega) hnd (by rw [hlm]; exact hLfree)
    rw [← hS2] at gS ⊢
    obtain ⟨c, hc⟩ : ∃ c, ob1.length - L.length = c := ⟨_, rfl⟩
    rw [hlm] at gS
    rw [hc] at hLfree gS
    let σ2 := sgR σ σ' L m c
    have hL1 : ∀ j k, L[j]? = some k → σ' j = σ k ∧ σ2 k = σ k ∧ σ k ≠ none := by
      intro j k hj
      obtain ⟨o, h1, h2⟩ := hget j k hj
      have hne := hR.loc h2
      refine ⟨?_, ?_, hne⟩
      · rw [g.sg j (by simp only [sgL, hj]; exact hne)]; simp only [sgL, hj]
      · simp only [σ2, sgR, if_neg (hLfree k (List.mem_of_getElem? hj))]
    have hnew : ∀ k, m ≤ k ∧ k < m + c → σ2 k = σ' (L.length + (k - m)) := fun k hk => by simp only [σ2, sgR, if_pos hk]
    have hold : ∀ k, ¬ (m ≤ k ∧ k < m + c) → σ2 k = σ k := fun k hk => by simp only [σ2, sgR, if_neg hk]
    have hσ : ∀ j, σ' j ≠ none → σ2 (renK L m j) = σ' j := by
      intro j hj
      have hj1 : j < ob1.length := Nat.lt_of_not_le fun hle => hj (hR'.fresh j hle).2
      unfold renK
      split
      · rename_i h
        have hk := List.getElem?_eq_getElem h
        have : L.getD j 0 = L[j] := by simp [List.getD_eq_getElem?_getD, hk]
        rw [this, (hL1 j _ hk).2.1, (hL1 j _ hk).1]
      · rename_i h
        rw [hnew _ ⟨by omega, by omega⟩]
        congr 1; omega
    -- every object of S2 is an old one or one of the callee's
    have cases2 : ∀ k o, S2.get k = some o → (S.get k = some o ∧ k ∉ L ∧ σ2 k = σ k) ∨ (∃ j p, (mkFrom 0 ob1).get j = some p ∧ σ2 k = σ' j ∧ k = renK L m j ∧ o = renO L m p) := by
      intro k o hk
      have cl : ∀ j : Nat, (ob1.map (renO L m))[j]? = some o → ∃ p, (mkFrom 0 ob1).get j = some p ∧ o = renO L m p := fun j hj => by
        rw [List.getElem?_map, Option.map_eq_some_iff] at hj
        obtain ⟨p, hp, rfl⟩ := hj
        exact ⟨p, by rw [get_mkFrom, if_pos (Nat.zero_le _), Nat.sub_zero]; exact hp, rfl⟩
      by_cases h1 : k ∈ L
      · obtain ⟨j, hj⟩ := List.getElem?_of_mem h1
        rw [(gS k).1 j hj] at hk
        obtain ⟨hjl, -⟩ := List.getElem?_eq_some_iff.1 hj
        right
        obtain ⟨p, hp1, hp2⟩ := cl j hk
        refine ⟨j, p, hp1, by rw [(hL1 j k hj).2.1, (hL1 j k hj).1], ?_, hp2⟩
        unfold renK
        rw [if_pos hjl, List.getD_eq_getElem?_getD, hj]; rfl
      · by_cases h2 : m ≤ k ∧ k < m + c
        · rw [(gS k).2.1 h2] at hk
          right
          obtain ⟨p, hp1, hp2⟩ := cl _ hk
          refine ⟨_, p, hp1, hnew k h2, ?_, hp2⟩
          unfold renK
          rw [if_neg (by omega)]; omega
        · rw [(gS k).2.2 h1 h2] at hk
          exact .inl ⟨hk, h1, hold k h2⟩
    have g2 : Grow σ S w n σ2 S2 w' (max n (m + 16)) := by
      refine ⟨g.keep.wider fun b hb => by obtain ⟨k, o, es, cap, -, h2, h3⟩ := own0 b hb; exact ⟨k, o, es, cap, h2, h3⟩, fun b hb hO => ?_, fun k hk => hold k fun h => hk (by have := (hfree (k - m) (by omega)).2; rwa [show m + (k - m) = k by omega] at this), by omega⟩
      obtain ⟨k, o, es, cap, hk, hs⟩ := hO
      rcases cases2 k o hk with ⟨h1, -, h2⟩ | ⟨j, p, h1, h2, -, -⟩
      · exact ⟨k, o, es, cap, h1, h2 ▸ hs⟩
      · obtain ⟨k, o, es, cap, -, h2, h3⟩ := own0 b (g.own b hb ⟨j, p, es, cap, h1, h2 ▸ hs⟩); exact ⟨k, o, es, cap, h2, h3⟩
    have own2 : ∀ b, Own U σ2 S2 b → Own U' σ' (mkFrom 0 ob1) b := by
      rintro b (hu | ⟨k, o, es, cap, hk, hs⟩)
      · exact .inl (.inl hu)
      · rcases cases2 k o hk with ⟨h1, h3, h2⟩ | ⟨j, p, h1, h2, -, -⟩
        · exact .inl (.inr ⟨k, o, es, cap, h3, h1, h2 ▸ hs⟩)
        · exact .inr ⟨j, p, es, cap, h1, h2 ▸ hs⟩
    have apart : ∀ b k o es cap, k ∉ L → S.get k = some o → σ k = some (some b, es, cap) → ¬ OwnE σ' (mkFrom 0 ob1) b := by
      intro b k o es cap hk h1 h2 hO
      have hb := hR.size ⟨k, o, es, cap, h1, h2⟩
      obtain ⟨k', o', es', cap', hk', h1', h2'⟩ := own0 b (g.own b hb hO)
      obtain rfl := hR.inj k k' o o' b es cap es' cap' h1 h1' h2 h2'
      exact hk hk'
    refine ⟨cv, σ2, he, fun k hk => hold k (by omega), g2, hR.step g2 (fun k hk => ?_) (fun k k' o o' b es cap es' cap' hk hk' hs hs' => ?_) (fun k o hk => ?_), (ren3_VR hσ hv).mono (Keep.refl _ _) (fun b _ h => own2 b h) fun _ _ => rfl⟩
    · have h1 : k ∉ L := fun hm => by
        obtain ⟨j, hj⟩ := List.getElem?_of_mem hm
        obtain ⟨o, -, h3⟩ := hget j k hj
        rw [(hR.fresh k (by omega)).1] at h3; cases h3
      have h2 : ¬ (m ≤ k ∧ k < m + c) := by omega
      rw [(gS k).2.2 h1 h2, hold k h2]
      exact hR.fresh k (by omega)
    · rcases cases2 k o hk with ⟨h1, h3, h2⟩ | ⟨j, p, h1, h2, h4, -⟩ <;> rcases cases2 k' o' hk' with ⟨h1', h3', h2'⟩ | ⟨j', p', h1', h2', h4', -⟩
      · exact hR.inj k k' o o' b es cap es' cap' h1 h1' (h2 ▸ hs) (h2' ▸ hs')
      · exact absurd ⟨j', p', es', cap', h1', h2' ▸ hs'⟩ (apart b k o es cap h3 h1 (h2 ▸ hs))
      · exact absurd ⟨j, p, es, cap, h1, h2 ▸ hs⟩ (apart b k' o' es' cap' h3' h1' (h2' ▸ hs'))
      · rw [h4, h4', hR'.inj j j' p p' b es cap es' cap' h1 h1' (h2 ▸ hs) (h2' ▸ hs')]
    · rcases cases2 k o hk with ⟨h1, h3, h2⟩ | ⟨j, p, h1, h2, -, rfl⟩
      · left
        refine ⟨h1, fun b es cap hs => g.keep.block b (hR.size ⟨k, o, es, cap, h1, hs⟩) fun hO => ?_⟩
        obtain ⟨k', o', es', cap', hk', h1', h2'⟩ := own0 b hO
        obtain rfl := hR.inj k k' o o' b es cap es' cap' h1 h1' hs h2'
        exact h3 hk'
      · right
        rw [h2]
        exact (hR'.obj j p h1).ren own2 hσ
/-! ### A call that is handed objects for good: it reads them, and what it hands back may lie in them. -/
def borIn1 (Fz : List Nat) : V → Bool
  | .sl k _ _ => hasN k Fz
  | .slk k _ _ _ => hasN k Fz
  | .ptr _ _ _ => false
  | _ => true
def borIn (Fz : List Nat) : V → Bool
  | .agg cs => cs.all (borIn1 Fz)
  | .fn _ cs => cs.all (borIn1 Fz)
  | v => borIn1 Fz v
def frzOK (S : Store) (Fz : List Nat) : List V → Prop
  | [] => True
  | v :: r => (purOK S v ∧ borIn Fz v = true) ∧ frzOK S Fz r
theorem frzOK_mem {S : Store} {Fz : List Nat} : ∀ {l : List V}, frzOK S Fz l → ∀ v ∈ l, purOK S v ∧ borIn Fz v = true
  | [], _, v, h => by simp at h
  | a :: r, h, v, hv => by
    rcases List.mem_cons.1 hv with rfl | hv
    · exact h.1
    · exact frzOK_mem h.2 v hv
def fcallK (P : Program) (f : FuncId) (args : List V) (S : Store) (m : Nat) (K : V → Store → Nat → Prop) : Prop :=
  ∃ (Fz : List Nat) (res : V), FnC P f [] (args.map (pur S)) res [] ∧ frzOK S Fz args ∧ K res (delL S Fz) (m + 1)

theorem frz1_VR (hR : RelS U σ S w n) {Fz : List Nat} {x : V} {v : Value} (hv : VR (Own U σ S) w σ x v) (hok : purOK1 S x) (hb : borIn1 Fz x = true) : VR (Own U σ (delL S Fz)) w (fun _ => none) (pur1 S x) v := by
  have sub : ∀ {x v}, VR (Own U σ S) w (fun _ => none) x v → VR (Own U σ (delL S Fz)) w (fun _ => none) x v := fun h => h.mono (Keep.refl _ _) (fun b _ h => delL_own h) fun _ _ => rfl
  have out : ∀ k o, S.get k = some o → hasN k Fz = true → ∀ b es cap, σ k = some (some b, es, cap) → ¬ Own U σ (delL S Fz) b := fun k o ho hk b es cap hs hO => by
    rcases hO with hu | ⟨k', o', es', cap', h1, h2⟩
    · exact hR.disj b ⟨k, o, es, cap, ho, hs⟩ hu
    · obtain ⟨h3, h4⟩ := delL_get h1
      obtain rfl := hR.inj k k' o o' b es cap es' cap' ho h3 hs h2
      exact h4 (hasN_mem.1 hk)
  cases x with
  | sl k off len =>
    simp only [pur1]
    split
    · rename_i es xs ho
      have hle : off + len ≤ xs.length := by simpa [purOK1, ho] using hok
      exact sl_lst hR (fun b h => delL_own h) hv ho hle (out k _ ho hb)
    · exact .any _
  | slk k off len c =>
    simp only [pur1]
    split
    · rename_i es xs ho
      have hle : off + len ≤ xs.length := by simpa [purOK1, ho] using hok
      exact slk_lst hR (fun b h => delL_own h) hv ho hle (out k _ ho hb) _ (fun h => Nat.eq_of_beq_eq_true h)
    · exact .any _
  | ptr k i c => simp [borIn1] at hb
  | _ => exact sub (nb1_VR (S := S) hv rfl)
theorem frz_VR (hR : RelS U σ S w n) {Fz : List Nat} {x : V} {v : Value} (hv : VR (Own U σ S) w σ x v) (hok : purOK S x) (hb : borIn Fz x = true) : VR (Own U σ (delL S Fz)) w (fun _ => none) (pur S x) v := by
  by_cases ha : ∃ cs, x = .agg cs
  · obtain ⟨cs, rfl⟩ := ha
    cases hv with
    | agg hn hc =>
      simp only [pur]
      refine .agg (by simpa using hn) fun i y u hy hu => ?_
      rw [List.getElem?_map, Option.map_eq_some_iff] at hy
      obtain ⟨y', hy', rfl⟩ := hy
      exact frz1_VR hR (hc i y' u hy' hu) (hok y' (List.mem_of_getElem? hy')) (List.all_eq_true.1 hb y' (List.mem_of_getElem? hy'))
  by_cases hb' : ∃ f cs, x = .fn f cs
  · obtain ⟨f, cs, rfl⟩ := hb'
    cases hv with
    | fn hn hc =>
      simp only [pur]
      refine .fn (by simpa using hn) fun i y u hy hu => ?_
      rw [List.getElem?_map, Option.map_eq_some_iff] at hy
      obtain ⟨y', hy', rfl⟩ := hy
      exact frz1_VR hR (hc i y' u hy' hu) (hok y' (List.mem_of_getElem? hy')) (List.all_eq_true.1 hb y' (List.mem_of_getElem? hy'))
  · have h1 : pur S x = pur1 S x := by unfold pur; split; exact absurd ⟨_, rfl⟩ ha; exact absurd ⟨_, _, rfl⟩ hb'; rfl
    rw [h1]
    refine frz1_VR hR hv ?_ ?_
    · unfold purOK at hok
      split at hok
      · exact absurd ⟨_, rfl⟩ ha
      · exact absurd ⟨_, _, rfl⟩ hb'
      · exact hok
    · unfold borIn at hb
      split at hb
      · exact absurd ⟨_, rfl⟩ ha
      · exact absurd ⟨_, _, rfl⟩ hb'
      · exact hb
theorem fcall_sound {f : FuncId} (hR : RelS U σ S w n) {args : List V} {cargs : Array Value} {res : V} {Fz : List Nat} (hl : cargs.size = args.length) (ha : ∀ (i : Nat) v c, args[i]? = some v → cargs[i]? = some c → VR (Own U σ S) w σ v c)
    (hok : frzOK S Fz args) (hf : FnC P f [] (args.map (pur S)) res []) :
    Calls P f cargs w fun e w' => ∃ cv, e = .returned cv ∧ VR (Own U σ (delL S Fz)) w' σ res cv ∧ Keep (fun _ => False) w w' := by
  have hR' := hR.frz Fz
  have ownlt : ∀ b, Own U σ (delL S Fz) b → b < w.heap.size := fun b h => h.elim (hR.ulim b) hR'.size
  have noown : ∀ (σ' : Sg) (b : Nat), ¬ OwnE σ' ([] : Store) b := fun σ' b ⟨k, o, es, cap, h, _⟩ => by simp [Store.get] at h
  refine (hf (Own U σ (delL S Fz)) (fun _ => none) w cargs (RelS.none _ w ownlt hR'.gl) (by simpa using hl) fun i v c hv hc => ?_).mono fun e w' ⟨cv, σ', he, hR2, hv, g⟩ => ⟨cv, he, ?_, ?_⟩
  · rw [List.getElem?_map, Option.map_eq_some_iff] at hv
    obtain ⟨v', hv', rfl⟩ := hv
    obtain ⟨o1, o2⟩ := frzOK_mem hok v' (List.mem_of_getElem? hv')
    exact (frz_VR hR (ha i v' c hv' hc) o1 o2).mono (Keep.refl _ _) (fun b _ h => h.elim id fun h => absurd h (noown _ b)) fun _ _ => rfl
  · exact hv.mono (Keep.refl _ _) (fun b _ h => .inl h) fun k hr => absurd (hR2.fresh k (Nat.zero_le _)).2 (hv.refs k hr)
  · exact g.keep.wider fun b h => (noown _ b h).elim

/-! ### A call that is given objects for good -/
def mcallK (P : Program) (f : FuncId) (args : List V) (S : Store) (m : Nat) (K : V → Store → Nat → Prop) : Prop :=
  ∃ (L : List Nat) (ob0 ob1 : List Obj) (res : V), FnM P f ob0 (args.map (arg2 L)) res ob1 ∧ lentOK S L L ob0 ∧ nodupN L = true ∧ Nat.ble ob1.length 16 = true ∧
    K (ren3 [] m res) (setL (delL S L) [] (ob1.map (renO [] m)) m) (m + 16)
theorem mcall_sound {f : FuncId} (hR : RelS U σ S w n) (hfree : ∀ i, i < 16 → S.get (m + i) = none ∧ σ (m + i) = none) {args : List V} {cargs : Array Value} (hl : cargs.size = args.length)
    (ha : ∀ (i : Nat) v c, args[i]? = some v → cargs[i]? = some c → VR (Own U σ S) w σ v c) {L : List Nat} {ob0 ob1 : List Obj} {res : V} (hf : FnM P f ob0 (args.map (arg2 L)) res ob1) (hlent : lentOK S L L ob0) (hnd : nodupN L = true)
    (hle2 : ob1.length ≤ 16) :
    Calls P f cargs w fun e w' => ∃ cv σ', e = .returned cv ∧ (∀ k, ¬ (m ≤ k ∧ k < m + 16) → σ' k = σ k) ∧ Grow σ S w n σ' (setL (delL S L) [] (ob1.map (renO [] m)) m) w' (max n (m + 16)) ∧
      RelS U σ' (setL (delL S L) [] (ob1.map (renO [] m)) m) w' (max n (m + 16)) ∧ VR (Own U σ' (setL (delL S L) [] (ob1.map (renO [] m)) m)) w' σ' (ren3 [] m res) cv := by
  obtain ⟨hlen, hget⟩ := lentOK_get hlent
  let U' : Nat → Prop := fun b => U b ∨ ∃ k o es cap, k ∉ L ∧ S.get k = some o ∧ σ k = some (some b, es, cap)
  have get0 : ∀ j o, (mkFrom 0 ob0).get j = some o → ∃ k p, L[j]? = some k ∧ S.get k = some p ∧ sgL σ L j = σ k ∧ o = argO L p := by
    intro j o hj
    rw [get_mkFrom, if_pos (Nat.zero_le _), Nat.sub_zero] at hj
    obtain ⟨hjl, -⟩ := List.getElem?_eq_some_iff.1 hj
    have hk := List.getElem?_eq_getElem (l := L) (i := j) (by omega)
    obtain ⟨p, h1, h2⟩ := hget j _ hk
    rw [hj] at h1
    exact ⟨_, p, hk, h2, by simp only [sgL, hk], Option.some.inj h1⟩
  have own0 : ∀ b, OwnE (sgL σ L) (mkFrom 0 ob0) b → ∃ k o es cap, k ∈ L ∧ S.get k = some o ∧ σ k = some (some b, es, cap) := by
    rintro b ⟨j, o, es, cap, hj, hs⟩
    obtain ⟨k, p, h1, h2, h3, -⟩ := get0 j o hj
    exact ⟨k, p, es, cap, List.mem_of_getElem? h1, h2, h3 ▸ hs⟩
  have own0' : ∀ b, Own U' (sgL σ L) (mkFrom 0 ob0) b → Own U σ S b := by
    rintro b ((hu | ⟨k, o, es, cap, -, h2, h3⟩) | h)
    · exact .inl hu
    · exact .inr ⟨k, o, es, cap, h2, h3⟩
    · obtain ⟨k, o, es, cap, -, h2, h3⟩ := own0 b h; exact .inr ⟨k, o, es, cap, h2, h3⟩
  have hR0 : RelS U' (sgL σ L) (mkFrom 0 ob0) w ob0.length := by
    refine ⟨fun j o hj => ?_, fun j j' o o' b es cap es' cap' hj hj' hs hs' => ?_, fun j hj => ⟨by rw [get_mkFrom, if_pos (Nat.zero_le _), Nat.sub_zero, List.getElem?_eq_none (by omega)], by simp [sgL, List.getElem?_eq_none (show L.length ≤ j by omega)]⟩, fun b hb hu => ?_, fun b hu => ?_, hR.gl.less fun b h => own0' b h⟩
    · obtain ⟨k, p, h1, h2, h3, rfl⟩ := get0 j o hj
      rw [h3]
      exact (hR.obj k p h2).arg own0'
    · obtain ⟨k, p, h1, h2, h3, -⟩ := get0 j o hj
      obtain ⟨k', p', h1', h2', h3', -⟩ := get0 j' o' hj'
      obtain rfl := hR.inj k k' p p' b es cap es' cap' h2 h2' (h3 ▸ hs) (h3' ▸ hs')
      exact nodupN_inj hnd j j' k h1 h1'
    · obtain ⟨k, o, es, cap, hk, h2, h3⟩ := own0 b hb
      rcases hu with hu | ⟨k', o', es', cap', hk', h2', h3'⟩
      · exact hR.disj b ⟨k, o, es, cap, h2, h3⟩ hu
      · obtain rfl := hR.inj k k' o o' b es cap es' cap' h2 h2' h3 h3'
        exact hk' hk
    · rcases hu with hu | ⟨k', o', es', cap', hk', h2', h3'⟩
      · exact hR.ulim b hu
      · exact hR.size ⟨k', o', es', cap', h2', h3'⟩
  refine (hf U' (sgL σ L) w cargs hR0 (by simpa using hl) fun i v c hv hc => ?_).mono fun e w' ⟨cv, σ', he, hR', hv, g⟩ => ?_
  · rw [List.getElem?_map, Option.map_eq_some_iff] at hv
    obtain ⟨v', hv', rfl⟩ := hv
    exact (arg2_VR (ha i v' c hv' hc)).mono (Keep.refl _ _) (fun b _ h => own0' b h) fun _ _ => rfl
  · obtain ⟨S2, hS2⟩ : ∃ S2, S2 = setL (delL S L) [] (ob1.map (renO [] m)) m := ⟨_, rfl⟩
    have hlm : (ob1.map (renO [] m)).length = ob1.length := List.length_map _
    have gS := fun k => setL_nil_get (ob1.map (renO [] m)) (delL S L) m k
    rw [← hS2] at gS ⊢
    obtain ⟨c, hc⟩ : ∃ c, ob1.length = c := ⟨_, rfl⟩
    rw [hlm, hc] at gS
    let σ2 : Sg := fun k => if m ≤ k ∧ k < m + c then σ' (k - m) else σ k
    have hnew : ∀ k, m ≤ k ∧ k < m + c → σ2 k = σ' (k - m) := fun k hk => by simp only [σ2, if_pos hk]
    have hold : ∀ k, ¬ (m ≤ k ∧ k < m + c) → σ2 k = σ k := fun k hk => by simp only [σ2, if_neg hk]
    have hσ : ∀ j, σ' j ≠ none → σ2 (renK [] m j) = σ' j := by
      intro j hj
      have hj1 : j < ob1.length := Nat.lt_of_not_le fun hle => hj (hR'.fresh j hle).2
      have : renK [] m j = m + j := by simp [renK]
      rw [this, hnew _ ⟨by omega, by omega⟩]
      congr 1; omega
    have cases2 : ∀ k o, S2.get k = some o → (S.get k = some o ∧ k ∉ L ∧ σ2 k = σ k) ∨ (∃ j p, (mkFrom 0 ob1).get j = some p ∧ σ2 k = σ' j ∧ k = m + j ∧ o = renO [] m p) := by
      intro k o hk
      rw [gS k] at hk
      split at hk
      · rename_i h2
        right
        rw [List.getElem?_map, Option.map_eq_some_iff] at hk
        obtain ⟨p, hp, rfl⟩ := hk
        exact ⟨k - m, p, by rw [get_mkFrom, if_pos (Nat.zero_le _), Nat.sub_zero]; exact hp, hnew k h2, by omega, rfl⟩
      · rename_i h2
        obtain ⟨h3, h4⟩ := delL_get hk
        exact .inl ⟨h3, h4, hold k h2⟩
    have g2 : Grow σ S w n σ2 S2 w' (max n (m + 16)) := by
      refine ⟨g.keep.wider fun b hb => by obtain ⟨k, o, es, cap, -, h2, h3⟩ := own0 b hb; exact ⟨k, o, es, cap, h2, h3⟩, fun b hb hO => ?_, fun k hk => hold k fun h => hk (by have := (hfree (k - m) (by omega)).2; rwa [show m + (k - m) = k by omega] at this), by omega⟩
      obtain ⟨k, o, es, cap, hk, hs⟩ := hO
      rcases cases2 k o hk with ⟨h1, -, h2⟩ | ⟨j, p, h1, h2, -, -⟩
      · exact ⟨k, o, es, cap, h1, h2 ▸ hs⟩
      · obtain ⟨k, o, es, cap, -, h2, h3⟩ := own0 b (g.own b hb ⟨j, p, es, cap, h1, h2 ▸ hs⟩); exact ⟨k, o, es, cap, h2, h3⟩
    have own2 : ∀ b, Own U σ2 S2 b → Own U' σ' (mkFrom 0 ob1) b := by
      rintro b (hu | ⟨k, o, es, cap, hk, hs⟩)
      · exact .inl (.inl hu)
      · rcases cases2 k o hk with ⟨h1, h3, h2⟩ | ⟨j, p, h1, h2, -, -⟩
        · exact .inl (.inr ⟨k, o, es, cap, h3, h1, h2 ▸ hs⟩)
        · exact .inr ⟨j, p, es, cap, h1, h2 ▸ hs⟩
    have apart : ∀ b k o es cap, k ∉ L → S.get k = some o → σ k = some (some b, es, cap) → ¬ OwnE σ' (mkFrom 0 ob1) b := by
      intro b k o es cap hk h1 h2 hO
      have hb := hR.size ⟨k, o, es, cap, h1, h2⟩
      obtain ⟨k', o', es', cap', hk', h1', h2'⟩ := own0 b (g.own b hb hO)
      obtain rfl := hR.inj k k' o o' b es cap es' cap' h1 h1' h2 h2'
      exact hk hk'
    refine ⟨cv, σ2, he, fun k hk => hold k (by omega), g2, hR.step g2 (fun k hk => ?_) (fun k k' o o' b es cap es' cap' hk hk' hs hs' => ?_) (fun k o hk => ?_), (ren3_VR hσ hv).mono (Keep.refl _ _) (fun b _ h => own2 b h) fun _ _ => rfl⟩
    · have h2 : ¬ (m ≤ k ∧ k < m + c) := by omega
      refine ⟨?_, by rw [hold k h2]; exact (hR.fresh k (by omega)).2⟩
      rw [gS k, if_neg h2]
      cases hd : (delL S L).get k with
      | none => rfl
      | some o =>
        have := (delL_get hd).1
        rw [(hR.fresh k (by omega)).1] at this
        cases this
    · rcases cases2 k o hk with ⟨h1, h3, h2⟩ | ⟨j, p, h1, h2, h4, -⟩ <;> rcases cases2 k' o' hk' with ⟨h1', h3', h2'⟩ | ⟨j', p', h1', h2', h4', -⟩
      · exact hR.inj k k' o o' b es cap es' cap' h1 h1' (h2 ▸ hs) (h2' ▸ hs')
      · exact absurd ⟨j', p', es', cap', h1', h2' ▸ hs'⟩ (apart b k o es cap h3 h1 (h2 ▸ hs))
      · exact absurd ⟨j, p, es, cap, h1, h2 ▸ hs⟩ (apart b k' o' es' cap' h3' h1' (h2' ▸ hs'))
      · rw [h4, h4', hR'.inj j j' p p' b es cap es' cap' h1 h1' (h2 ▸ hs) (h2' ▸ hs')]
    · rcases cases2 k o hk with ⟨h1, h3, h2⟩ | ⟨j, p, h1, h2, -, rfl⟩
      · left
        refine ⟨h1, fun b es cap hs => g.keep.block b (hR.size ⟨k, o, es, cap, h1, hs⟩) fun hO => ?_⟩
        obtain ⟨k', o', es', cap', hk', h1', h2'⟩ := own0 b hO
        obtain rfl := hR.inj k k' o o' b es cap es' cap' h1 h1' hs h2'
        exact h3 hk'
      · right
        rw [h2]
        exact (hR'.obj j p h1).ren own2 hσ
end
end Go.Sk
