/- Sk, part J: one state seen as another. -/
import Derived.Test.YtmhapcbjjpadnaaGreatSkI
set_option linter.unusedSimpArgs false
set_option linter.unusedVariables false
set_option linter.unusedSectionVars false
namespace Go.Sk
open Go Go.RowKit
variable [Tab]

def hasO (k : Nat) : List (Option Nat) → Bool
  | [] => false
  | some j :: r => Nat.beq k j || hasO k r
  | none :: r => hasO k r
theorem hasO_not : ∀ {k : Nat} {l : List (Option Nat)}, hasO k l = false → some k ∉ l
  | _, [], _ => by simp
  | k, some j :: r, h => by
    simp only [hasO, Bool.or_eq_false_iff] at h
    have h1 : k ≠ j := Nat.ne_of_beq_eq_false h.1
    have h2 := hasO_not h.2
    simp [h1, h2]
  | k, none :: r, h => by
    simp only [hasO] at h
    have h2 := hasO_not h
    simp [h2]
def nodupB : List (Option Nat) → Bool
  | [] => true
  | none :: r => nodupB r
  | some k :: r => !hasO k r && nodupB r

/-- x may be seen as y; 'ids' says which object the new number j stands for ('none': an empty row that lies nowhere). -/
def vw1 (S : Store) (ids : List (Option Nat)) (x y : V) : Prop :=
  match y with
  | .any => True
  | .sl j off len => match x with
    | .sl k off' len' => ids[j]? = some (some k) ∧ off' = off ∧ len' = len
    | .slk k off' len' _ => ids[j]? = some (some k) ∧ off' = off ∧ len' = len
    | .lst _ t xs => ids[j]? = some none ∧ t = true ∧ xs = [] ∧ off = 0 ∧ len = 0
    | _ => False
  | .slk j off len c => match x with
    | .slk k off' len' c' => ids[j]? = some (some k) ∧ off' = off ∧ len' = len ∧ c' = c
    | _ => False
  | .ptr j i c => match x with
    | .ptr k i' c' => ids[j]? = some (some k) ∧ i' = i ∧ c' = c
    | _ => False
  | .mp j => match x with
    | .mp k => ids[j]? = some (some k)
    | _ => False
  | .lst es t xs => match x with
    | .lst es' t' xs' => (es' = es ∨ xs = []) ∧ (t = true → t' = true) ∧ xs' = xs
    | .sl k off len => match S.get k with
      | some (.row es' xs') => es' = es ∧ t = false ∧ off + len ≤ xs'.length ∧ (xs'.drop off).take len = xs ∧ hasO k ids = false
      | _ => False
    | .slk k off len c => match S.get k with
      | some (.row es' xs') => es' = es ∧ (t = true → c = len) ∧ off + len ≤ xs'.length ∧ (xs'.drop off).take len = xs ∧ hasO k ids = false
      | _ => False
    | _ => False
  | .int k m => match x with
    | .int k' m' => k' = k ∧ m' = m
    | _ => False
  | .bool b => match x with
    | .bool b' => b' = b
    | _ => False
  | .str s => x = .str s
  | .nil => x = .nil
  | .val v => x = .val v
  | .rp es cs c => x = .rp es cs c
  | _ => False

def all2 (p : V → V → Prop) : List V → List V → Prop
  | [], [] => True
  | x :: xs, y :: ys => p x y ∧ all2 p xs ys
  | _, _ => False
theorem all2_get {p : V → V → Prop} : ∀ {xs ys : List V}, all2 p xs ys → xs.length = ys.length ∧ ∀ (i : Nat) y, ys[i]? = some y → ∃ x, xs[i]? = some x ∧ p x y
  | [], [], _ => by simp
  | [], _ :: _, h => h.elim
  | _ :: _, [], h => h.elim
  | x :: xs, y :: ys, h => by
    obtain ⟨h1, h2⟩ := h
    obtain ⟨h3, h4⟩ := all2_get h2
    refine ⟨by simp [h3], fun i z hz => ?_⟩
    cases i with
    | zero => simp only [List.getElem?_cons_zero, Option.some.injEq] at hz; subst hz; exact ⟨x, rfl, h1⟩
    | succ i => exact h4 i z (by simpa using hz)

def vw2 (S : Store) (ids : List (Option Nat)) (x y : V) : Prop :=
  match y with
  | .agg ys => match x with
    | .agg xs => all2 (vw1 S ids) xs ys
    | _ => False
  | .fn g ys => match x with
    | .fn f xs => f = g ∧ all2 (vw1 S ids) xs ys
    | _ => False
  | y => vw1 S ids x y
def vw3 (S : Store) (ids : List (Option Nat)) (x y : V) : Prop :=
  match y with
  | .tup ys => match x with
    | .tup xs => all2 (vw2 S ids) xs ys
    | _ => False
  | y => vw2 S ids x y

def vwObj (S : Store) (ids : List (Option Nat)) (x y : Obj) : Prop :=
  match x, y with
  | .row es xs, .row es' ys => es = es' ∧ xs = ys
  | .box xs, .box ys => all2 (vw1 S ids) xs ys
  | .mp xs, .mp ys => xs = ys
  | .box xs, .row es rows => es = xs.length ∧ rows = [xs] ∧ xs.all flatV = true
  | _, _ => False

def vwObs (S : Store) (ids : List (Option Nat)) : List (Option Nat) → List Obj → Prop
  | [], [] => True
  | some k :: r, o :: os => (match S.get k with | some p => vwObj S ids p o | none => False) ∧ vwObs S ids r os
  | none :: r, o :: os => (match o with | .row _ xs => xs = [] | _ => False) ∧ vwObs S ids r os
  | _, _ => False

def nodupS : List (Option Nat) → Prop
  | [] => True
  | none :: r => nodupS r
  | some k :: r => some k ∉ r ∧ nodupS r

theorem nodupB_S : ∀ {l : List (Option Nat)}, nodupB l = true → nodupS l
  | [], _ => trivial
  | none :: r, h => nodupB_S (l := r) h
  | some k :: r, h => by
    simp only [nodupB, Bool.and_eq_true, Bool.not_eq_true'] at h
    exact ⟨hasO_not h.1, nodupB_S h.2⟩

/-- The first objects keep their numbers. -/
def firstOK : Nat → Nat → List (Option Nat) → Prop
  | _, 0, _ => True
  | i, m + 1, some k :: r => k = i ∧ firstOK (i + 1) m r
  | _, _ + 1, _ => False
theorem firstOK_get : ∀ (m i : Nat) (ids : List (Option Nat)), firstOK i m ids → ∀ j, j < m → ids[j]? = some (some (i + j))
  | 0, _, _, _, j, hj => by omega
  | m + 1, i, some k :: r, h, j, hj => by
    obtain ⟨rfl, h⟩ := h
    cases j with
    | zero => rfl
    | succ j =>
      have := firstOK_get m (k + 1) r h j (by omega)
      rw [List.getElem?_cons_succ, this]
      congr 2; omega
  | m + 1, i, [], h, j, hj => h.elim
  | m + 1, i, none :: r, h, j, hj => h.elim

theorem nodupS_inj : ∀ {l : List (Option Nat)}, nodupS l → ∀ (i j k : Nat), l[i]? = some (some k) → l[j]? = some (some k) → i = j
  | [], _, i, j, k, h, _ => by simp at h
  | a :: r, hn, i, j, k, hi, hj => by
    have hr : nodupS r := by cases a <;> first | exact hn | exact hn.2
    cases i with
    | zero =>
      simp only [List.getElem?_cons_zero, Option.some.injEq] at hi
      subst hi
      cases j with
      | zero => rfl
      | succ j => exact absurd (List.mem_of_getElem? (by simpa using hj)) hn.1
    | succ i =>
      cases j with
      | zero =>
        simp only [List.getElem?_cons_zero, Option.some.injEq] at hj
        subst hj
        exact absurd (List.mem_of_getElem? (by simpa using hi)) hn.1
      | succ j => rw [nodupS_inj hr i j k (by simpa using hi) (by simpa using hj)]

theorem vwObs_get {S : Store} {ids : List (Option Nat)} : ∀ {l : List (Option Nat)} {obs : List Obj}, vwObs S ids l obs → l.length = obs.length ∧ ∀ (j : Nat) o, obs[j]? = some o →
    (∃ k p, l[j]? = some (some k) ∧ S.get k = some p ∧ vwObj S ids p o) ∨ (l[j]? = some none ∧ ∃ es, o = .row es [])
  | [], [], _ => by simp
  | [], _ :: _, h => h.elim
  | some _ :: _, [], h => h.elim
  | none :: _, [], h => h.elim
  | some k :: r, o :: os, h => by
    obtain ⟨h1, h2⟩ := h
    obtain ⟨h3, h4⟩ := vwObs_get h2
    refine ⟨by simp [h3], fun j q hq => ?_⟩
    cases j with
    | zero =>
      simp only [List.getElem?_cons_zero, Option.some.injEq] at hq
      subst hq
      split at h1
      · rename_i p hp; exact .inl ⟨k, p, rfl, hp, h1⟩
      · cases h1
    | succ j => simpa using h4 j q (by simpa using hq)
  | none :: r, o :: os, h => by
    obtain ⟨h1, h2⟩ := h
    obtain ⟨h3, h4⟩ := vwObs_get h2
    refine ⟨by simp [h3], fun j q hq => ?_⟩
    cases j with
    | zero =>
      simp only [List.getElem?_cons_zero, Option.some.injEq] at hq
      subst hq
      split at h1
      · subst h1; exact .inr ⟨rfl, _, rfl⟩
      · cases h1
    | succ j => simpa using h4 j q (by simpa using hq)

/-- Where the objects lie under their new numbers. -/
def sgV (σ : Sg) (ids : List (Option Nat)) (obs : List Obj) : Sg := fun j =>
  match ids[j]? with
  | some (some k) => σ k
  | some none => match obs[j]? with
    | some (.row es _) => some (none, es, 0)
    | _ => none
  | none => none

section
variable {U : Nat → Prop} {σ : Sg} {S : Store} {w : World} {n : Nat} {ids : List (Option Nat)} {obs : List Obj}

theorem own_view (hobs : vwObs S ids ids obs) {b : Nat} (h : OwnE (sgV σ ids obs) (mkFrom 0 obs) b) : ∃ (j k : Nat) (p : Obj) (es cap : Nat), ids[j]? = some (some k) ∧ S.get k = some p ∧ σ k = some (some b, es, cap) := by
  obtain ⟨j, o, es, cap, hj, hs⟩ := h
  rw [get_mkFrom, if_pos (Nat.zero_le _), Nat.sub_zero] at hj
  rcases (vwObs_get hobs).2 j o hj with ⟨k, p, h1, h2, h3⟩ | ⟨h1, es', rfl⟩
  · simp only [sgV, h1] at hs
    exact ⟨j, k, p, es, cap, h1, h2, hs⟩
  · simp [sgV, h1, hj] at hs

theorem own_view' (hobs : vwObs S ids ids obs) {b : Nat} (h : Own U (sgV σ ids obs) (mkFrom 0 obs) b) : Own U σ S b :=
  h.imp id fun h => by obtain ⟨j, k, p, es, cap, -, h2, h3⟩ := own_view hobs h; exact ⟨k, p, es, cap, h2, h3⟩

theorem vw1_VR (hR : RelS U σ S w n) (hobs : vwObs S ids ids obs) {x y : V} {v : Value} (h : vw1 S ids x y) (hv : VR (Own U σ S) w σ x v) : VR (Own U (sgV σ ids obs) (mkFrom 0 obs)) w (sgV σ ids obs) y v := by
  have sub : ∀ {x v}, VR (Own U σ S) w (fun _ => none) x v → ∀ σ', VR (Own U (sgV σ ids obs) (mkFrom 0 obs)) w σ' x v := fun h σ' => (h.mono (Keep.refl _ _) (fun b _ h => own_view' hobs h) fun _ _ => rfl : VR _ _ (fun _ => none) _ _).lift σ'
  have hlen := (vwObs_get hobs).1
  unfold vw1 at h
  split at h
  · exact .any _
  · split at h
    · obtain ⟨h1, rfl, rfl⟩ := h
      have hσ : ∀ j k, ids[j]? = some (some k) → sgV σ ids obs j = σ k := fun j k h => by simp [sgV, h]
      cases hv with
      | sl hs hle ha => exact .sl ((hσ _ _ h1).trans hs) hle ha
      | sl0 hs => exact .sl0 ((hσ _ _ h1).trans hs)
    · obtain ⟨h1, rfl, rfl⟩ := h
      have hσ : ∀ j k, ids[j]? = some (some k) → sgV σ ids obs j = σ k := fun j k h => by simp [sgV, h]
      cases hv with
      | slk hs hle ha hc => subst hc; exact .sl ((hσ _ _ h1).trans hs) hle ha
      | slk0 hs => exact .sl0 ((hσ _ _ h1).trans hs)
    · obtain ⟨h1, rfl, rfl, rfl, rfl⟩ := h
      cases hv with
      | lst b o cv ha hes hcap ht hc1 hc3 hc2 =>
        have hcap0 := ht rfl
        subst hcap0
        obtain ⟨hj, -⟩ := List.getElem?_eq_some_iff.1 h1
        rcases (vwObs_get hobs).2 _ _ (List.getElem?_eq_getElem (hlen ▸ hj)) with ⟨k, p, h1', -⟩ | ⟨-, es, he⟩
        · rw [h1] at h1'; cases h1'
        · exact .sl0 (es := es) (by simp [sgV, h1, List.getElem?_eq_getElem (hlen ▸ hj), he])
    · cases h
  · split at h
    · obtain ⟨h1, rfl, rfl, rfl⟩ := h
      have hσ : ∀ j k, ids[j]? = some (some k) → sgV σ ids obs j = σ k := fun j k h => by simp [sgV, h]
      cases hv with
      | slk hs hle ha hc => exact .slk ((hσ _ _ h1).trans hs) hle ha hc
      | slk0 hs => exact .slk0 ((hσ _ _ h1).trans hs)
    · cases h
  · split at h
    · obtain ⟨h1, rfl, rfl⟩ := h
      have hσ : ∀ j k, ids[j]? = some (some k) → sgV σ ids obs j = σ k := fun j k h => by simp [sgV, h]
      cases hv with
      | ptr hs => exact .ptr ((hσ _ _ h1).trans hs)
    · cases h
  · split at h
    · have hσ : ∀ j k, ids[j]? = some (some k) → sgV σ ids obs j = σ k := fun j k h => by simp [sgV, h]
      cases hv with
      | mp hs => exact .mp ((hσ _ _ h).trans hs)
    · cases h
  · split at h
    · obtain ⟨h1, h2, rfl⟩ := h
      refine sub ?_ _
      cases hv with
      | @lst _ _ _ _ ad cap b o cv ha hes hcap ht hc1 hc3 hc2 =>
        rcases h1 with rfl | rfl
        · exact .lst b o cv ha hes hcap (fun hh => ht (h2 hh)) hc1 hc3 hc2
        · exact .lst (xs := []) b o cv (by simp) (by simp) hcap (fun hh => ht (h2 hh)) (by simp) (by simp) (by simp)
    · split at h
      · rename_i k off len _ es' xs' ho
        obtain ⟨rfl, rfl, hle, rfl, hk⟩ := h
        exact (sl_lst hR (fun b h => own_view' hobs h) hv ho hle fun b es cap hs hown => by
          rcases hown with hu | hown
          · exact hR.disj b ⟨k, _, _, _, ho, hs⟩ hu
          · obtain ⟨j, k', p, es', cap', h1, h2, h3⟩ := own_view hobs hown
            obtain rfl := hR.inj k k' _ _ b es cap es' cap' ho h2 hs h3
            exact hasO_not hk (List.mem_of_getElem? h1)).lift _
      · cases h
    · split at h
      · rename_i k off len c _ es' xs' ho
        obtain ⟨rfl, ht, hle, rfl, hk⟩ := h
        exact (slk_lst hR (fun b h => own_view' hobs h) hv ho hle (fun b es cap hs hown => by
          rcases hown with hu | hown
          · exact hR.disj b ⟨k, _, _, _, ho, hs⟩ hu
          · obtain ⟨j, k', p, es', cap', h1, h2, h3⟩ := own_view hobs hown
            obtain rfl := hR.inj k k' _ _ b es cap es' cap' ho h2 hs h3
            exact hasO_not hk (List.mem_of_getElem? h1)) _ ht).lift _
      · cases h
    · cases h
  · split at h
    · obtain ⟨rfl, rfl⟩ := h; cases hv; exact .int _ _
    · cases h
  · split at h
    · obtain rfl := h; cases hv; exact .bool _
    · cases h
  · subst h; exact sub (flatV_lift hv rfl) _
  · subst h; exact sub (flatV_lift hv rfl) _
  · subst h; cases hv; exact .val _
  · subst h; exact sub (flatV_lift hv rfl) _
  · cases h

theorem vw2_VR (hR : RelS U σ S w n) (hobs : vwObs S ids ids obs) {x y : V} {v : Value} (h : vw2 S ids x y) (hv : VR (Own U σ S) w σ x v) : VR (Own U (sgV σ ids obs) (mkFrom 0 obs)) w (sgV σ ids obs) y v := by
  unfold vw2 at h
  split at h
  · split at h
    · obtain ⟨h1, h2⟩ := all2_get h
      cases hv with
      | agg hn hc =>
        refine .agg (by rw [hn, h1]) fun i y u hy hu => ?_
        obtain ⟨x, hx, hxy⟩ := h2 i y hy
        exact vw1_VR hR hobs hxy (hc i x u hx hu)
    · cases h
  · split at h
    · obtain ⟨rfl, h⟩ := h
      obtain ⟨h1, h2⟩ := all2_get h
      cases hv with
      | fn hn hc =>
        refine .fn (by rw [hn, h1]) fun i y u hy hu => ?_
        obtain ⟨x, hx, hxy⟩ := h2 i y hy
        exact vw1_VR hR hobs hxy (hc i x u hx hu)
    · cases h
  · exact vw1_VR hR hobs h hv

theorem vw3_VR (hR : RelS U σ S w n) (hobs : vwObs S ids ids obs) {x y : V} {v : Value} (h : vw3 S ids x y) (hv : VR (Own U σ S) w σ x v) : VR (Own U (sgV σ ids obs) (mkFrom 0 obs)) w (sgV σ ids obs) y v := by
  unfold vw3 at h
  split at h
  · split at h
    · obtain ⟨h1, h2⟩ := all2_get h
      cases hv with
      | tup hn hc =>
        refine .tup (by rw [hn, h1]) fun i y u hy hu => ?_
        obtain ⟨x, hx, hxy⟩ := h2 i y hy
        exact vw2_VR hR hobs hxy (hc i x u hx hu)
    · cases h
  · exact vw2_VR hR hobs h hv

theorem RelS.view (hR : RelS U σ S w n) (hobs : vwObs S ids ids obs) (hnd : nodupS ids) : RelS U (sgV σ ids obs) (mkFrom 0 obs) w obs.length where
  obj := fun j o hj => by
    rw [get_mkFrom, if_pos (Nat.zero_le _), Nat.sub_zero] at hj
    rcases (vwObs_get hobs).2 j o hj with ⟨k, p, h1, h2, h3⟩ | ⟨h1, es', rfl⟩
    · have hob := hR.obj k p h2
      have hs : sgV σ ids obs j = σ k := by simp [sgV, h1]
      rw [hs]
      unfold vwObj at h3
      split at h3
      · obtain ⟨rfl, rfl⟩ := h3
        obtain ⟨hl, h⟩ := hob
        refine ⟨hl, ?_⟩
        rcases hσ : σ k with _ | ⟨_ | b, es', cap⟩
        · rw [hσ] at h; exact h
        · rw [hσ] at h; exact h
        · rw [hσ] at h
          obtain ⟨e1, e2, arr, ty, e3, e4, e5⟩ := h
          refine ⟨e1, e2, arr, ty, e3, e4, fun i x c y hx hy => ?_⟩
          obtain ⟨u, q1, q2, q3⟩ := e5 i x c y hx hy
          exact ⟨u, q1, q2, q3.mono (Keep.refl _ _) (fun b _ h => own_view' hobs h) fun _ _ => rfl⟩
      · obtain ⟨hl, hg⟩ := all2_get h3
        obtain ⟨b, e1, arr, ty, e3, e4, e5⟩ := hob
        refine ⟨b, by rw [e1, hl], arr, ty, e3, by rw [e4, hl], fun c y hy => ?_⟩
        obtain ⟨x, hx, hxy⟩ := hg c y hy
        obtain ⟨u, q1, q2, q3⟩ := e5 c x hx
        exact ⟨u, q1, q2, vw1_VR hR hobs hxy q3⟩
      · subst h3
        obtain ⟨b, e1, es, ck, e3, e4, e5⟩ := hob
        refine ⟨b, e1, es, ck, e3, e4, fun i p hp => ?_⟩
        obtain ⟨en, q1, q2, q3⟩ := e5 i p hp
        exact ⟨en, q1, q2, q3.mono (Keep.refl _ _) (fun b _ h => own_view' hobs h) fun _ _ => rfl⟩
      · rename_i xs es rows
        obtain ⟨rfl, rfl, hf⟩ := h3
        obtain ⟨b, e1, arr, ty, e3, e4, e5⟩ := hob
        refine ⟨fun x hx => by rw [List.mem_singleton.1 hx], ?_⟩
        rw [e1]
        refine ⟨rfl, ⟨by simp, by omega⟩, arr, (ty, false), e3, by rw [Nat.one_mul, e4]; exact Nat.le_refl _, fun i x c y hx hy => ?_⟩
        cases i with
        | succ i => simp at hx
        | zero =>
          simp only [List.getElem?_cons_zero, Option.some.injEq] at hx
          subst hx
          obtain ⟨u, q1, q2, q3⟩ := e5 c y hy
          exact ⟨u, by rw [Nat.zero_mul, Nat.zero_add]; exact q1, q2, (flatV_lift q3 (List.all_eq_true.1 hf y (List.mem_of_getElem? hy))).mono (Keep.refl _ _) (fun b _ h => own_view' hobs h) fun _ _ => rfl⟩
      · cases h3
    · exact ⟨by simp, by simp [sgV, h1, hj]⟩
  inj := fun j j' o o' b es cap es' cap' hj hj' hs hs' => by
    rw [get_mkFrom, if_pos (Nat.zero_le _), Nat.sub_zero] at hj hj'
    rcases (vwObs_get hobs).2 j o hj with ⟨k, p, h1, h2, h3⟩ | ⟨h1, es1, rfl⟩
    · rcases (vwObs_get hobs).2 j' o' hj' with ⟨k', p', h1', h2', h3'⟩ | ⟨h1', es1, rfl⟩
      · simp only [sgV, h1] at hs
        simp only [sgV, h1'] at hs'
        obtain rfl := hR.inj k k' p p' b es cap es' cap' h2 h2' hs hs'
        exact nodupS_inj hnd j j' k h1 h1'
      · simp [sgV, h1', hj'] at hs'
    · simp [sgV, h1, hj] at hs
  fresh := fun j hj => by
    have hlen := (vwObs_get hobs).1
    refine ⟨by rw [get_mkFrom, if_pos (Nat.zero_le _), Nat.sub_zero, List.getElem?_eq_none (by omega)], ?_⟩
    simp [sgV, List.getElem?_eq_none (show ids.length ≤ j by omega)]
  disj := fun b hb hu => by
    obtain ⟨j, k, p, es, cap, -, h2, h3⟩ := own_view hobs hb
    exact hR.disj b ⟨k, p, es, cap, h2, h3⟩ hu
  ulim := hR.ulim
  gl := hR.gl.less fun b h => own_view' hobs h
end
end Go.Sk
