/- Sk, part Le: a value of which less is said. -/
import Derived.Test.YtmhapcbjjpadnaaGreatSkW
set_option linter.unusedSimpArgs false
set_option linter.unusedVariables false
set_option linter.unusedSectionVars false
namespace Go.Sk
open Go Go.RowKit
variable [Tab]

/-- The second says no more than the first. -/
def LeV (x y : V) : Prop := ∀ (O : Nat → Prop) (w : World) (σ : Sg) (v : Value), VR O w σ x v → VR O w σ y v
theorem LeV.refl (v : V) : LeV v v := fun _ _ _ _ h => h
theorem LeV.trans {x y z : V} (h : LeV x y) (g : LeV y z) : LeV x z := fun O w σ v hv => g O w σ v (h O w σ v hv)
theorem LeV.any (v : V) : LeV v .any := fun _ _ _ _ _ => .any _
theorem VR.le {O : Nat → Prop} {w : World} {σ : Sg} {x y : V} {v : Value} (hv : VR O w σ x v) (h : LeV x y) : VR O w σ y v := h O w σ v hv
def LeVs (xs ys : List V) : Prop := xs.length = ys.length ∧ ∀ (c : Nat) (u v : V), xs[c]? = some u → ys[c]? = some v → LeV u v
theorem LeVs.refl (xs : List V) : LeVs xs xs := ⟨rfl, fun c u v hu hv => by rw [hu] at hv; obtain rfl := Option.some.inj hv; exact .refl u⟩
theorem LeVs.nil : LeVs [] [] := .refl []
theorem LeVs.cons {x y : V} {xs ys : List V} (h : LeV x y) (hs : LeVs xs ys) : LeVs (x :: xs) (y :: ys) := by
  refine ⟨by simp [hs.1], fun c u v hu hv => ?_⟩
  cases c with
  | zero =>
    simp only [List.getElem?_cons_zero, Option.some.injEq] at hu hv
    subst hu hv; exact h
  | succ c => exact hs.2 c u v (by simpa using hu) (by simpa using hv)
theorem LeVs.get {xs ys : List V} (h : LeVs xs ys) (i : Nat) (y : V) (hy : ys[i]? = some y) : ∃ x, xs[i]? = some x ∧ LeV x y := by
  obtain ⟨hi, -⟩ := List.getElem?_eq_some_iff.1 hy
  have hx := List.getElem?_eq_getElem (l := xs) (i := i) (by rw [h.1]; exact hi)
  exact ⟨_, hx, h.2 i _ y hx hy⟩
theorem LeV.lst {es es' : Nat} {t t' : Bool} {xs ys : List (List V)} (he : es' = es ∨ xs = []) (ht : t = true → t' = true) (hl : xs.length = ys.length)
    (h : ∀ (i : Nat) (x y : List V), xs[i]? = some x → ys[i]? = some y → LeVs x y) : LeV (.lst es' t' xs) (.lst es t ys) := by
  intro O w σ v hv
  cases hv with
  | @lst _ _ _ _ a cap b o cv ha hes hcap ht' hc1 hc3 hc2 =>
    have hy : ∀ (i : Nat) (y : List V), ys[i]? = some y → ∃ x, xs[i]? = some x ∧ i < xs.length := fun i y hy => by
      obtain ⟨hi, -⟩ := List.getElem?_eq_some_iff.1 hy
      have := List.getElem?_eq_getElem (l := xs) (i := i) (by omega)
      exact ⟨_, this, by omega⟩
    rcases he with rfl | rfl
    · rw [hl]
      refine .lst b o cv (fun hne => ha (fun e => hne (List.length_eq_zero_iff.1 (by rw [← hl, e]; rfl)))) (fun y hy' => ?_) (by omega) (fun hh => by rw [← hl]; exact ht' (ht hh)) (fun i c hi hc => hc1 i c (by omega) hc) (fun i c hi hc => hc3 i c (by omega) hc) fun i y c v' hy' hv' => ?_
      · obtain ⟨i, hi⟩ := List.getElem?_of_mem hy'
        obtain ⟨x, hx, -⟩ := hy i y hi
        rw [← (h i x y hx hi).1]; exact hes x (List.mem_of_getElem? hx)
      · obtain ⟨x, hx, -⟩ := hy i y hy'
        obtain ⟨u, hu, hle⟩ := (h i x y hx hy').get c v' hv'
        exact (hc2 i x c u hx hu).le hle
    · obtain rfl : ys = [] := List.length_eq_zero_iff.1 (by rw [← hl]; rfl)
      exact .lst (xs := []) b o cv (by simp) (by simp) hcap (fun hh => ht' (ht hh)) (by simp) (by simp) (by simp)
theorem LeV.aggs {xs ys : List V} (h : LeVs xs ys) : LeV (.agg xs) (.agg ys) := fun O w σ v hv => by
  cases hv with
  | agg hn hc =>
    refine .agg (by rw [hn, h.1]) fun i y u hy hu => ?_
    obtain ⟨x, hx, hle⟩ := h.get i y hy
    exact (hc i x u hx hu).le hle
theorem LeV.tups {xs ys : List V} (h : LeVs xs ys) : LeV (.tup xs) (.tup ys) := fun O w σ v hv => by
  cases hv with
  | tup hn hc =>
    refine .tup (by rw [hn, h.1]) fun i y u hy hu => ?_
    obtain ⟨x, hx, hle⟩ := h.get i y hy
    exact (hc i x u hx hu).le hle
/-- A list, its elements made from something. -/
theorem LeV.rows {α : Type} {es : Nat} {t t' : Bool} {l : List α} {f g : α → List V} (ht : t = true → t' = true) (h : ∀ x ∈ l, LeVs (f x) (g x)) : LeV (.lst es t' (l.map f)) (.lst es t (l.map g)) := by
  refine .lst (.inl rfl) ht (by simp) fun i x y hx hy => ?_
  rw [List.getElem?_map, Option.map_eq_some_iff] at hx hy
  obtain ⟨a, ha, rfl⟩ := hx
  obtain ⟨b, hb, rfl⟩ := hy
  rw [ha] at hb
  obtain rfl := Option.some.inj hb
  exact h a (List.mem_of_getElem? ha)
theorem LeV.weak {es : Nat} {t : Bool} {xs : List (List V)} : LeV (.lst es t xs) (.lst es false xs) :=
  .lst (.inl rfl) (by simp) rfl fun i x y hx hy => by rw [hx] at hy; obtain rfl := Option.some.inj hy; exact LeVs.refl x
theorem LeV.nils {es es' : Nat} {t : Bool} : LeV (.lst es' t []) (.lst es false []) := .lst (.inr rfl) (by simp) rfl (by simp)

/-- Objects of which less is said. -/
def LeO : Obj → Obj → Prop
  | .row es xs, .row es' ys => es' = es ∧ xs.length = ys.length ∧ ∀ (i : Nat) (x y : List V), xs[i]? = some x → ys[i]? = some y → LeVs x y
  | .box xs, .box ys => LeVs xs ys
  | .mp xs, .mp ys => ys = xs
  | _, _ => False
def LeOs : List Obj → List Obj → Prop
  | [], [] => True
  | x :: xs, y :: ys => LeO x y ∧ LeOs xs ys
  | _, _ => False
theorem LeO.refl (o : Obj) : LeO o o := by
  cases o with
  | row es xs => exact ⟨rfl, rfl, fun i x y hx hy => by rw [hx] at hy; obtain rfl := Option.some.inj hy; exact LeVs.refl x⟩
  | box xs => exact LeVs.refl xs
  | mp xs => rfl
theorem LeOs.refl : ∀ l : List Obj, LeOs l l
  | [] => trivial
  | o :: r => ⟨LeO.refl o, LeOs.refl r⟩
theorem LeOs.get : ∀ {xs ys : List Obj}, LeOs xs ys → xs.length = ys.length ∧ ∀ (i : Nat) (y : Obj), ys[i]? = some y → ∃ x, xs[i]? = some x ∧ LeO x y
  | [], [], _ => ⟨rfl, by simp⟩
  | [], _ :: _, h => h.elim
  | _ :: _, [], h => h.elim
  | x :: xs, y :: ys, h => by
    obtain ⟨h1, h2⟩ := LeOs.get h.2
    refine ⟨by simp [h1], fun i z hz => ?_⟩
    cases i with
    | zero => simp only [List.getElem?_cons_zero, Option.some.injEq] at hz; subst hz; exact ⟨x, rfl, h.1⟩
    | succ i => exact h2 i z (by simpa using hz)
theorem ObjR.le {O : Nat → Prop} {w : World} {σ : Sg} {loc : Option (Option Nat × Nat × Nat)} {x y : Obj} (h : ObjR O w σ loc x) (hle : LeO x y) : ObjR O w σ loc y := by
  cases x with
  | row es xs =>
    cases y with
    | box _ => exact hle.elim
    | mp _ => exact hle.elim
    | row es' ys =>
      obtain ⟨rfl, hl, hxy⟩ := hle
      obtain ⟨h1, h2⟩ := h
      have get : ∀ (i : Nat) (y : List V), ys[i]? = some y → ∃ x, xs[i]? = some x ∧ LeVs x y := fun i y hy => by
        obtain ⟨hi, -⟩ := List.getElem?_eq_some_iff.1 hy
        have := List.getElem?_eq_getElem (l := xs) (i := i) (by omega)
        exact ⟨_, this, hxy i _ y this hy⟩
      refine ⟨fun y hy => ?_, ?_⟩
      · obtain ⟨i, hi⟩ := List.getElem?_of_mem hy
        obtain ⟨x, hx, hle⟩ := get i y hi
        rw [← hle.1]; exact h1 x (List.mem_of_getElem? hx)
      · rcases loc with _ | ⟨_ | b, es', cap⟩
        · exact h2
        · obtain ⟨e1, e2, e3⟩ := h2
          subst e3
          exact ⟨e1, e2, List.length_eq_zero_iff.1 (by rw [← hl]; rfl)⟩
        · obtain ⟨e1, e2, arr, ty, e3, e4, e5⟩ := h2
          refine ⟨e1, by rw [← hl]; exact e2, arr, ty, e3, e4, fun i y c v hy hv => ?_⟩
          obtain ⟨x, hx, hle⟩ := get i y hy
          obtain ⟨hc, -⟩ := List.getElem?_eq_some_iff.1 hv
          have hu := List.getElem?_eq_getElem (l := x) (i := c) (by rw [hle.1]; exact hc)
          obtain ⟨u, q1, q2, q3⟩ := e5 i x c _ hx hu
          exact ⟨u, q1, q2, q3.le (hle.2 c _ v hu hv)⟩
  | box xs =>
    cases y with
    | row _ _ => exact hle.elim
    | mp _ => exact hle.elim
    | box ys =>
      obtain ⟨b, e1, arr, ty, e2, e3, e4⟩ := h
      refine ⟨b, by rw [e1, hle.1], arr, ty, e2, by rw [e3, hle.1], fun c v hv => ?_⟩
      obtain ⟨hc, -⟩ := List.getElem?_eq_some_iff.1 hv
      have hu := List.getElem?_eq_getElem (l := xs) (i := c) (by rw [hle.1]; exact hc)
      obtain ⟨u, q1, q2, q3⟩ := e4 c _ hu
      exact ⟨u, q1, q2, q3.le (hle.2 c _ v hu hv)⟩
  | mp xs =>
    cases y with
    | row _ _ => exact hle.elim
    | box _ => exact hle.elim
    | mp ys => obtain rfl := hle; exact h

/-- A contract of which less is said: of arguments that say more, a result that says less. -/
theorem FnC.le {P : Program} {f : FuncId} {ob0 ob1 ob1' : List Obj} {args args' : List V} {res res' : V} (h : FnC P f ob0 args res ob1) (ha : LeVs args' args) (hr : LeV res res') (ho : LeOs ob1 ob1') : FnC P f ob0 args' res' ob1' := by
  intro U σ w cargs hR hl hargs
  obtain ⟨hol, hog⟩ := ho.get
  have get : ∀ (j : Nat) (o : Obj), (mkFrom 0 ob1').get j = some o → ∃ o', (mkFrom 0 ob1).get j = some o' ∧ LeO o' o := by
    intro j o hj
    rw [get_mkFrom, if_pos (Nat.zero_le _), Nat.sub_zero] at hj
    obtain ⟨x, hx, hle⟩ := hog j o hj
    exact ⟨x, by rw [get_mkFrom, if_pos (Nat.zero_le _), Nat.sub_zero]; exact hx, hle⟩
  refine (h U σ w cargs hR (by rw [hl, ha.1]) fun i v c hv hc => ?_).mono fun e w' ⟨cv, σ', he, hR', hv, g⟩ => ?_
  · obtain ⟨hi, -⟩ := List.getElem?_eq_some_iff.1 hv
    have hu := List.getElem?_eq_getElem (l := args') (i := i) (by rw [ha.1]; exact hi)
    exact (hargs i _ c hu hc).le (ha.2 i _ v hu hv)
  · have own : ∀ b, OwnE σ' (mkFrom 0 ob1') b → OwnE σ' (mkFrom 0 ob1) b := fun b ⟨k, o, es, cap, h1, h2⟩ => by
      obtain ⟨o', h3, -⟩ := get k o h1
      exact ⟨k, o', es, cap, h3, h2⟩
    have ownU : ∀ b, Own U σ' (mkFrom 0 ob1') b → Own U σ' (mkFrom 0 ob1) b := fun b h => h.imp id (own b)
    refine ⟨cv, σ', he, ⟨fun k o hk => ?_, fun k k' o o' b es cap es' cap' h1 h2 => ?_, fun k hk => ?_, fun b hb => hR'.disj b (own b hb), hR'.ulim, hR'.gl.less ownU⟩, (hv.le hr).mono (Keep.refl _ _) (fun b _ h => ownU b h) fun _ _ => rfl, ⟨g.keep, fun b hb hO => g.own b hb (own b hO), g.sg, by rw [← hol]; exact g.nx⟩⟩
    · obtain ⟨o', h1, h2⟩ := get k o hk
      exact (((hR'.obj k o' h1).less ownU).le h2)
    · obtain ⟨p, h3, -⟩ := get k o h1
      obtain ⟨p', h4, -⟩ := get k' o' h2
      exact hR'.inj k k' p p' b es cap es' cap' h3 h4
    · refine ⟨?_, (hR'.fresh k (by omega)).2⟩
      rw [get_mkFrom, if_pos (Nat.zero_le _), Nat.sub_zero, List.getElem?_eq_none (by omega)]
end Go.Sk
