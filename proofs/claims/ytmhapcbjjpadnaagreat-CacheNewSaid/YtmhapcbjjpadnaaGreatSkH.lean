/- Sk, part H: what a function is said to do; calls. -/
import Derived.Test.YtmhapcbjjpadnaaGreatSkG
set_option linter.unusedSimpArgs false
set_option linter.unusedVariables false
set_option linter.unusedSectionVars false
namespace Go.Sk
open Go Go.RowKit
variable [Tab]

def mkFrom : Nat → List Obj → Store
  | _, [] => []
  | k, o :: r => (k, o) :: mkFrom (k + 1) r

theorem get_mkFrom : ∀ (obs : List Obj) (k j : Nat), (mkFrom k obs).get j = if k ≤ j then obs[j - k]? else none
  | [], k, j => by simp [mkFrom, Store.get]
  | o :: r, k, j => by
    simp only [mkFrom, Store.get]
    by_cases h : j = k
    · subst h; simp
    · rw [if_neg h, get_mkFrom r (k + 1) j]
      by_cases h2 : k ≤ j
      · rw [if_pos (by omega), if_pos h2, show j - k = (j - (k + 1)) + 1 by omega, List.getElem?_cons_succ]
      · rw [if_neg (by omega), if_neg h2]

/-- THE CONTRACT OF A FUNCTION: with these objects (numbered from 0) and these arguments it returns this value; the objects are then as said, those behind the first ones are new. -/
def FnC (P : Program) (f : FuncId) (ob0 : List Obj) (args : List V) (res : V) (ob1 : List Obj) : Prop :=
  ∀ (U : Nat → Prop) (σ : Sg) (w : World) (cargs : Array Value), RelS U σ (mkFrom 0 ob0) w ob0.length → cargs.size = args.length →
    (∀ (i : Nat) v c, args[i]? = some v → cargs[i]? = some c → VR (Own U σ (mkFrom 0 ob0)) w σ v c) →
    Calls P f cargs w fun e w' => ∃ cv σ', e = .returned cv ∧ RelS U σ' (mkFrom 0 ob1) w' ob1.length ∧ VR (Own U σ' (mkFrom 0 ob1)) w' σ' res cv ∧
      Grow σ (mkFrom 0 ob0) w ob0.length σ' (mkFrom 0 ob1) w' ob1.length

/-- The contract of a function that is given objects for good: what it hands back is all that is left of them. -/
def FnM (P : Program) (f : FuncId) (ob0 : List Obj) (args : List V) (res : V) (ob1 : List Obj) : Prop :=
  ∀ (U : Nat → Prop) (σ : Sg) (w : World) (cargs : Array Value), RelS U σ (mkFrom 0 ob0) w ob0.length → cargs.size = args.length →
    (∀ (i : Nat) v c, args[i]? = some v → cargs[i]? = some c → VR (Own U σ (mkFrom 0 ob0)) w σ v c) →
    Calls P f cargs w fun e w' => ∃ cv σ', e = .returned cv ∧ RelS U σ' (mkFrom 0 ob1) w' ob1.length ∧ VR (Own U σ' (mkFrom 0 ob1)) w' σ' res cv ∧
      GrowB (OwnE σ (mkFrom 0 ob0)) (fun _ => none) w 0 σ' (mkFrom 0 ob1) w' ob1.length

/-- A value without the names of objects: what it says is what they hold now. -/
def pur1 (S : Store) : V → V
  | .sl k off len => match S.get k with
    | some (.row es xs) => .lst es false ((xs.drop off).take len)
    | _ => .any
  | .slk k off len c => match S.get k with
    | some (.row es xs) => .lst es (Nat.beq c len) ((xs.drop off).take len)
    | _ => .any
  | .ptr k _ c => match S.get k with
    | some (.box cs) => .rp cs.length cs c
    | _ => .any
  | .int k n => .int k n
  | .bool b => .bool b
  | .str s => .str s
  | .nil => .nil
  | .rp es cs c => .rp es cs c
  | .lst es t xs => .lst es t xs
  | .val v => .val v
  | _ => .any
def pur (S : Store) : V → V
  | .agg cs => .agg (cs.map (pur1 S))
  | .fn f cs => .fn f (cs.map (pur1 S))
  | v => pur1 S v
def purOK1 (S : Store) : V → Prop
  | .sl k off len => match S.get k with
    | some (.row _ xs) => off + len ≤ xs.length
    | _ => True
  | .slk k off len _ => match S.get k with
    | some (.row _ xs) => off + len ≤ xs.length
    | _ => True
  | .ptr k i _ => match S.get k with
    | some (.box cs) => i = 0 ∧ cs.all flatV = true
    | _ => True
  | _ => True
def purOK (S : Store) : V → Prop
  | .agg cs => ∀ c ∈ cs, purOK1 S c
  | .fn _ cs => ∀ c ∈ cs, purOK1 S c
  | v => purOK1 S v
def noBor1 : V → Bool
  | .sl _ _ _ => false
  | .slk _ _ _ _ => false
  | .ptr _ _ _ => false
  | _ => true
def noBor : V → Bool
  | .agg cs => cs.all noBor1
  | .fn _ cs => cs.all noBor1
  | v => noBor1 v
/-- Values that say all by themselves. -/
def solid1 : V → Bool
  | .int _ _ => true | .bool _ => true | .str _ => true | .nil => true | .val _ => true | .any => true
  | _ => false
def solid2 : V → Bool
  | .agg cs => cs.all solid1
  | v => solid1 v
def solidV : V → Bool
  | .tup vs => vs.all solid2
  | v => solid2 v

theorem solid1_VR {O O' : Nat → Prop} {w w' : World} {σ σ' : Sg} {x : V} {v : Value} (h : solid1 x = true) (hv : VR O w σ x v) : VR O' w' σ' x v := by
  cases hv <;> first | exact .any _ | exact .int _ _ | exact .bool _ | exact .str _ | exact .nil | exact .val _ | (simp [solid1] at h)
theorem solid2_VR {O O' : Nat → Prop} {w w' : World} {σ σ' : Sg} {x : V} {v : Value} (h : solid2 x = true) (hv : VR O w σ x v) : VR O' w' σ' x v := by
  by_cases ha : ∃ cs, x = .agg cs
  · obtain ⟨cs, rfl⟩ := ha
    cases hv with
    | agg hn hc => exact .agg hn fun i y u hy hu => solid1_VR (List.all_eq_true.1 h y (List.mem_of_getElem? hy)) (hc i y u hy hu)
  · refine solid1_VR ?_ hv
    unfold solid2 at h
    split at h
    · exact absurd ⟨_, rfl⟩ ha
    · exact h
theorem solidV_VR {O O' : Nat → Prop} {w w' : World} {σ σ' : Sg} {x : V} {v : Value} (h : solidV x = true) (hv : VR O w σ x v) : VR O' w' σ' x v := by
  by_cases ha : ∃ cs, x = .tup cs
  · obtain ⟨cs, rfl⟩ := ha
    cases hv with
    | tup hn hc => exact .tup hn fun i y u hy hu => solid2_VR (List.all_eq_true.1 h y (List.mem_of_getElem? hy)) (hc i y u hy hu)
  · refine solid2_VR ?_ hv
    unfold solidV at h
    split at h
    · exact absurd ⟨_, rfl⟩ ha
    · exact h

section
variable {P : Program} {U : Nat → Prop} {σ : Sg} {S : Store} {w : World} {n : Nat}

/-- A slice of an object's row, read as a list. -/
theorem sl_lst (hR : RelS U σ S w n) {O : Nat → Prop} (hOs : ∀ b, O b → Own U σ S b) {k off len es : Nat} {xs : List (List V)} {v : Value} (hv : VR (Own U σ S) w σ (.sl k off len) v) (ho : S.get k = some (.row es xs)) (hle : off + len ≤ xs.length)
    (hO : ∀ b es cap, σ k = some (some b, es, cap) → ¬ O b) : VR O w (fun _ => none) (.lst es false ((xs.drop off).take len)) v := by
  have sub : ∀ {x v}, VR (Own U σ S) w (fun _ => none) x v → VR O w (fun _ => none) x v := fun h => h.mono (Keep.refl _ _) (fun b _ h => hOs b h) fun _ _ => rfl
  have hob := hR.obj k _ ho
  rcases hv.sl_inv with ⟨b, es2, cap, ad, rfl, hs, hle', had⟩ | ⟨es2, ad, rfl, hs, rfl, rfl⟩
  · have hOb := hO _ _ _ hs
    rw [hs] at hob
    obtain ⟨hl, rfl, hcap, arr, ty, hh, hsz, hcells⟩ := hob
    have hlen : ((xs.drop off).take len).length = len := by simp; omega
    have hb : b < w.heap.size := (Array.getElem?_eq_some_iff.1 hh).1
    have hdec : ∀ i c, i < len → c < es2 → ∃ u, w.cell? ⟨b, off * es2 + i * es2 + c, none⟩ = some u ∧ u.oneCell' = true ∧ ∀ (z : List V) (y : V), ((xs.drop off).take len)[i]? = some z → z[c]? = some y → VR O w (fun _ => none) y u := by
      intro i c hi hc
      have hil : off + i < xs.length := by omega
      have hzl : (xs[off + i]).length = es2 := hl _ (List.getElem_mem hil)
      obtain ⟨u, q1, q2, q3⟩ := hcells (off + i) xs[off + i] c _ (List.getElem?_eq_getElem hil) (List.getElem?_eq_getElem (by omega))
      refine ⟨u, ?_, q2, fun z y hz hy => ?_⟩
      · rw [Nat.add_mul] at q1
        simp [World.cell?, hh, q1]
      · rw [List.getElem?_take, if_pos hi, List.getElem?_drop, List.getElem?_eq_getElem hil] at hz
        obtain rfl := Option.some.inj hz
        rw [List.getElem?_eq_getElem (by omega)] at hy
        obtain rfl := Option.some.inj hy
        exact sub q3
    have key : VR O w (fun _ => none) (.lst es2 false ((xs.drop off).take len)) (.slice ad ((xs.drop off).take len).length (cap - off)) := by
      refine .lst b (off * es2) (fun i c => (w.cell? ⟨b, off * es2 + i * es2 + c, none⟩).getD undef) (fun hne => ?_) (fun z hz => hl z (List.mem_of_mem_drop (List.mem_of_mem_take hz))) (by rw [hlen]; omega) (by simp) (fun i c hi hc => ?_) (fun i c hi hc => ?_) fun i z c y hz hy => ?_
      · have hpos := List.length_pos_iff.2 hne
        rw [hlen] at hpos
        exact ⟨had (by omega), hOb, hb⟩
      · obtain ⟨u, q1, -⟩ := hdec i c (by omega) hc
        rw [q1]; rfl
      · obtain ⟨u, q1, q2, -⟩ := hdec i c (by omega) hc
        rw [q1]; exact q2
      · obtain ⟨hi, -⟩ := List.getElem?_eq_some_iff.1 hz
        obtain ⟨hc, -⟩ := List.getElem?_eq_some_iff.1 hy
        rw [hlen] at hi
        have hzl := hl z (List.mem_of_mem_drop (List.mem_of_mem_take (List.mem_of_getElem? hz)))
        obtain ⟨u, q1, -, q3⟩ := hdec i c hi (by omega)
        rw [q1]; exact q3 z y hz hy
    rw [hlen] at key
    exact key
  · simp only [List.drop_zero, List.take_zero]
    exact .lst (xs := []) 0 0 (fun _ _ => undef) (by simp) (by simp) (by simp) (by simp) (by simp) (by simp) (by simp)

/-- The same where the capacity is known. -/
theorem slk_lst (hR : RelS U σ S w n) {O : Nat → Prop} (hOs : ∀ b, O b → Own U σ S b) {k off len c es : Nat} {xs : List (List V)} {v : Value} (hv : VR (Own U σ S) w σ (.slk k off len c) v) (ho : S.get k = some (.row es xs)) (hle : off + len ≤ xs.length)
    (hO : ∀ b es cap, σ k = some (some b, es, cap) → ¬ O b) (t : Bool) (ht : t = true → c = len) : VR O w (fun _ => none) (.lst es t ((xs.drop off).take len)) v := by
  have h1 := sl_lst hR hOs (unk_VR hv) ho hle hO
  have hlen : ((xs.drop off).take len).length = len := by simp; omega
  cases hv with
  | slk hs hle' ha hc =>
    generalize hys : (xs.drop off).take len = ys at h1 hlen ⊢
    generalize hval : Value.slice _ _ _ = v at h1 ⊢
    cases h1 with
    | @lst _ _ _ _ ad cap b o cv q1 q2 q3 q4 q5 q6 q7 =>
      simp only [Value.slice.injEq] at hval
      obtain ⟨-, -, hcap⟩ := hval
      exact .lst b o cv q1 q2 q3 (fun h => by have := ht h; omega) q5 q6 q7
  | slk0 hs =>
    have : xs.take 0 = [] := by simp
    simp only [List.drop_zero, List.take_zero] at h1 ⊢
    exact .lst (xs := []) 0 0 (fun _ _ => undef) (by simp) (by simp) (by simp) (by simp) (by simp) (by simp) (by simp)

/-- A box that may not be written meanwhile. -/
theorem ptr_rp (hR : RelS U σ S w n) {k i c : Nat} {cs : List V} {v : Value} (hv : VR (Own U σ S) w σ (.ptr k i c) v) (ho : S.get k = some (.box cs)) (hi : i = 0) (hf : cs.all flatV = true) : VR U w (fun _ => none) (.rp cs.length cs c) v := by
  have hob := hR.obj k _ ho
  subst hi
  cases hv with
  | @ptr _ _ _ _ b es cap hs =>
    rw [hs] at hob
    obtain ⟨b', hl, arr, ty, hh, hsz, hcells⟩ := hob
    simp only [Option.some.injEq, Prod.mk.injEq] at hl
    obtain ⟨rfl, rfl, rfl⟩ := hl
    have hdec : ∀ j, j < cs.length → ∃ u, arr[j]? = some u ∧ u.oneCell' = true ∧ ∀ y, cs[j]? = some y → VR U w (fun _ => none) y u := by
      intro j hj
      obtain ⟨u, q1, q2, q3⟩ := hcells j _ (List.getElem?_eq_getElem hj)
      refine ⟨u, q1, q2, fun y hy => ?_⟩
      rw [List.getElem?_eq_getElem hj] at hy
      obtain rfl := Option.some.inj hy
      exact (flatV_lift q3 (List.all_eq_true.1 hf _ (List.getElem_mem hj))).mono (Keep.refl _ _) (fun b _ h => .inl h) fun _ _ => rfl
    rw [Nat.zero_mul]
    refine .rp b 0 (fun j => (arr[j]?).getD undef) rfl (hR.disj b ⟨k, _, _, _, ho, hs⟩) (Array.getElem?_eq_some_iff.1 hh).1 (fun j hj => ?_) (fun j hj => ?_) (fun j y hy => ?_)
    · obtain ⟨u, q1, -, -⟩ := hdec j hj
      simp [World.cell?, hh, q1]
    · obtain ⟨u, q1, q2, -⟩ := hdec j hj
      rw [q1]; exact q2
    · obtain ⟨hj, -⟩ := List.getElem?_eq_some_iff.1 hy
      obtain ⟨u, q1, -, q3⟩ := hdec j hj
      rw [q1]; exact q3 y hy

/-- What is read of an object that may not be written meanwhile. -/
theorem pur1_VR (hR : RelS U σ S w n) {x : V} {v : Value} (hv : VR (Own U σ S) w σ x v) (hok : purOK1 S x) : VR U w (fun _ => none) (pur1 S x) v := by
  have sub : ∀ {x v}, VR (Own U σ S) w (fun _ => none) x v → VR U w (fun _ => none) x v := fun h => h.mono (Keep.refl _ _) (fun b _ h => .inl h) fun _ _ => rfl
  cases x with
  | sl k off len =>
    simp only [pur1]
    split
    · rename_i es xs ho
      have hle : off + len ≤ xs.length := by simpa [purOK1, ho] using hok
      exact sl_lst hR (fun b h => .inl h) hv ho hle fun b es cap hs => hR.disj b ⟨k, _, _, _, ho, hs⟩
    · exact .any _
  | slk k off len c =>
    simp only [pur1]
    split
    · rename_i es xs ho
      have hle : off + len ≤ xs.length := by simpa [purOK1, ho] using hok
      exact slk_lst hR (fun b h => .inl h) hv ho hle (fun b es cap hs => hR.disj b ⟨k, _, _, _, ho, hs⟩) _ (fun h => Nat.eq_of_beq_eq_true h)
    · exact .any _
  | ptr k i c =>
    simp only [pur1]
    split
    · rename_i cs ho
      have hle : i = 0 ∧ cs.all flatV = true := by simpa only [purOK1, ho] using hok
      exact ptr_rp hR hv ho hle.1 hle.2
    · exact .any _
  | int k n => exact sub (flatV_lift hv rfl)
  | bool b => exact sub (flatV_lift hv rfl)
  | str s => exact sub (flatV_lift hv rfl)
  | nil => exact sub (flatV_lift hv rfl)
  | rp es cs c => exact sub (flatV_lift hv rfl)
  | lst es t xs => exact sub (flatV_lift hv rfl)
  | val u => cases hv; exact .val _
  | _ => exact .any _

theorem pur_VR (hR : RelS U σ S w n) {x : V} {v : Value} (hv : VR (Own U σ S) w σ x v) (hok : purOK S x) : VR U w (fun _ => none) (pur S x) v := by
  by_cases ha : ∃ cs, x = .agg cs
  · obtain ⟨cs, rfl⟩ := ha
    cases hv with
    | agg hn hc =>
      simp only [pur]
      refine .agg (by simpa using hn) fun i y u hy hu => ?_
      rw [List.getElem?_map, Option.map_eq_some_iff] at hy
      obtain ⟨y', hy', rfl⟩ := hy
      exact pur1_VR hR (hc i y' u hy' hu) (hok y' (List.mem_of_getElem? hy'))
  by_cases hb : ∃ f cs, x = .fn f cs
  · obtain ⟨f, cs, rfl⟩ := hb
    cases hv with
    | fn hn hc =>
      simp only [pur]
      refine .fn (by simpa using hn) fun i y u hy hu => ?_
      rw [List.getElem?_map, Option.map_eq_some_iff] at hy
      obtain ⟨y', hy', rfl⟩ := hy
      exact pur1_VR hR (hc i y' u hy' hu) (hok y' (List.mem_of_getElem? hy'))
  · have h1 : pur S x = pur1 S x := by unfold pur; split; exact absurd ⟨_, rfl⟩ ha; exact absurd ⟨_, _, rfl⟩ hb; rfl
    rw [h1]
    refine pur1_VR hR hv ?_
    unfold purOK at hok
    split at hok
    · exact absurd ⟨_, rfl⟩ ha
    · exact absurd ⟨_, _, rfl⟩ hb
    · exact hok

theorem nb1_VR {O : Nat → Prop} {x : V} {v : Value} (hv : VR O w σ x v) (h : noBor1 x = true) : VR O w (fun _ => none) (pur1 S x) v := by
  cases x with
  | sl k off len => simp [noBor1] at h
  | slk k off len c => simp [noBor1] at h
  | ptr k i c => simp [noBor1] at h
  | int k n => exact flatV_lift hv rfl
  | bool b => exact flatV_lift hv rfl
  | str s => exact flatV_lift hv rfl
  | nil => exact flatV_lift hv rfl
  | rp es cs c => exact flatV_lift hv rfl
  | lst es t xs => exact flatV_lift hv rfl
  | val u => cases hv; exact .val _
  | _ => exact .any _

theorem nb_VR {O : Nat → Prop} {x : V} {v : Value} (hv : VR O w σ x v) (h : noBor x = true) : VR O w (fun _ => none) (pur S x) v := by
  by_cases ha : ∃ cs, x = .agg cs
  · obtain ⟨cs, rfl⟩ := ha
    cases hv with
    | agg hn hc =>
      simp only [pur]
      refine .agg (by simpa using hn) fun i y u hy hu => ?_
      rw [List.getElem?_map, Option.map_eq_some_iff] at hy
      obtain ⟨y', hy', rfl⟩ := hy
      exact nb1_VR (hc i y' u hy' hu) (List.all_eq_true.1 h y' (List.mem_of_getElem? hy'))
  by_cases hb : ∃ f cs, x = .fn f cs
  · obtain ⟨f, cs, rfl⟩ := hb
    cases hv with
    | fn hn hc =>
      simp only [pur]
      refine .fn (by simpa using hn) fun i y u hy hu => ?_
      rw [List.getElem?_map, Option.map_eq_some_iff] at hy
      obtain ⟨y', hy', rfl⟩ := hy
      exact nb1_VR (hc i y' u hy' hu) (List.all_eq_true.1 h y' (List.mem_of_getElem? hy'))
  · have h1 : pur S x = pur1 S x := by unfold pur; split; exact absurd ⟨_, rfl⟩ ha; exact absurd ⟨_, _, rfl⟩ hb; rfl
    rw [h1]
    refine nb1_VR hv ?_
    unfold noBor at h
    split at h
    · exact absurd ⟨_, rfl⟩ ha
    · exact absurd ⟨_, _, rfl⟩ hb
    · exact h

theorem RelS.none (U : Nat → Prop) (w : World) (hu : ∀ b, U b → b < w.heap.size) (hg : GlR U w) : RelS U (fun _ => none) [] w 0 where
  obj := fun k o h => by simp [Store.get] at h
  inj := fun k k' o o' b es cap es' cap' h => by simp [Store.get] at h
  fresh := fun k _ => ⟨rfl, rfl⟩
  disj := fun b ⟨k, o, es, cap, h, _⟩ => by simp [Store.get] at h
  ulim := hu
  gl := hg.less fun b h => h.elim id fun ⟨k, o, es, cap, h, _⟩ => by simp [Store.get] at h

/-- A CALL THAT IS LENT NOTHING. -/
theorem pcall_sound {f : FuncId} (hR : RelS U σ S w n) {args : List V} {cargs : Array Value} {res : V} (hl : cargs.size = args.length) (ha : ∀ (i : Nat) v c, args[i]? = some v → cargs[i]? = some c → VR (Own U σ S) w σ v c)
    (hok : ∀ v ∈ args, purOK S v) (hf : FnC P f [] (args.map (pur S)) res []) (hb : args.all noBor = true ∨ solidV res = true) :
    Calls P f cargs w fun e w' => ∃ cv, e = .returned cv ∧ VR (Own U σ S) w' σ res cv ∧ Keep (fun _ => False) w w' := by
  have ownlt : ∀ b, Own U σ S b → b < w.heap.size := fun b h => h.elim (hR.ulim b) hR.size
  have noown : ∀ (σ' : Sg) (b : Nat), ¬ OwnE σ' ([] : Store) b := fun σ' b ⟨k, o, es, cap, h, _⟩ => by simp [Store.get] at h
  by_cases hnb : args.all noBor = true
  · refine (hf (Own U σ S) (fun _ => none) w cargs (RelS.none _ w ownlt hR.gl) (by simpa using hl) fun i v c hv hc => ?_).mono fun e w' ⟨cv, σ', he, hR', hv, g⟩ => ⟨cv, he, ?_, ?_⟩
    · rw [List.getElem?_map, Option.map_eq_some_iff] at hv
      obtain ⟨v', hv', rfl⟩ := hv
      exact (nb_VR (S := S) (ha i v' c hv' hc) (List.all_eq_true.1 hnb v' (List.mem_of_getElem? hv'))).mono (Keep.refl _ _) (fun b _ h => h.elim id fun h => absurd h (noown _ b)) fun _ _ => rfl
    · exact hv.mono (Keep.refl _ _) (fun b _ h => .inl h) fun k hr => absurd (hR'.fresh k (Nat.zero_le _)).2 (hv.refs k hr)
    · exact g.keep.wider fun b h => (noown _ b h).elim
  · have hsol := hb.resolve_left hnb
    refine (hf U (fun _ => none) w cargs (RelS.none _ w hR.ulim (hR.gl.less fun b h => .inl h)) (by simpa using hl) fun i v c hv hc => ?_).mono fun e w' ⟨cv, σ', he, hR', hv, g⟩ => ⟨cv, he, solidV_VR hsol hv, ?_⟩
    · rw [List.getElem?_map, Option.map_eq_some_iff] at hv
      obtain ⟨v', hv', rfl⟩ := hv
      exact (pur_VR hR (ha i v' c hv' hc) (hok v' (List.mem_of_getElem? hv'))).mono (Keep.refl _ _) (fun b _ h => h.elim id fun h => absurd h (noown _ b)) fun _ _ => rfl
    · exact g.keep.wider fun b h => (noown _ b h).elim
end
end Go.Sk
