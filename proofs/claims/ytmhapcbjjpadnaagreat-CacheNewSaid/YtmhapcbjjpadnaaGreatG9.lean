/- Caches. -/
import Derived.Test.YtmhapcbjjpadnaaGreatG8
import Derived.Test.YtmhapcbjjpadnaaGreatG5
import Derived.Test.YtmhapcbjjpadnaaGreatSkV
import Derived.Test.YtmhapcbjjpadnaaGreatSkLe
import Derived.Tactics
import Derived.Tactics2
import Derived.Defers
import Derived.Recover
import Derived.Test.YtmhapcbjjpadnaaGreatG1
import Derived.Shelf.Strings.Repeat
set_option linter.unusedSimpArgs false
set_option linter.unusedVariables false
set_option maxRecDepth 40000
namespace Go.Proofs.YtmhapcbjjpadnaaGreat
open Go Go.Sk Go.RowKit

/-- The deferred function does nothing in a frame that returns. -/
theorem quiet140 : Quiet Tryz.prog 140 := by
  intro args w
  refine callsD_of_wpS Tryz.func140 rfl fun c₀ cs hu => ?_
  have hs : (args ++ Array.replicate (6 - args.size) undef).size ≥ 6 := by simp; omega
  show Code.wpS _ _ _ { tmps := args ++ Array.replicate (6 - args.size) undef, defers := [] } _ _
  generalize args ++ Array.replicate (6 - args.size) undef = tm at hs
  apply wpS_seq
  apply wpS_region
  have h2 : 2 < tm.size := by omega
  have h3 : 3 < tm.size := by omega
  simp [wpOpsS, go_sem, recoverD, hu, Exit.thenS, h2, h3]
  refine wpS_cond (t := false) (by simp [Act.eval, h2, h3]) ?_
  simp only [Bool.false_eq_true, if_false]
  refine wpS_of_wp (wp_skip ?_)
  cases c₀
  simp_all [bodyPostS, results, Tryz.f140]

def decI : List (List V) → Option (List Int)
  | [] => some []
  | [.int .i64 x] :: r => match decI r with
    | some l => some (x :: l)
    | none => none
  | _ => none
theorem decI_ok : ∀ {r : List (List V)} {l : List Int}, decI r = some l → r = rowsI l := by
  intro r
  induction r with
  | nil => intro l h; cases h; rfl
  | cons x r ih =>
    intro l h
    unfold decI at h
    split at h
    · rename_i e; cases e
    · rename_i n r' e
      cases e
      split at h
      · rename_i l' hl
        cases h
        rw [ih hl]; rfl
      · cases h
    · cases h
def decL : V → Option (List Int)
  | .lst e _ rows => match decI rows with
    | some [] => some []
    | some (x :: l) => bif Nat.beq e 1 then some (x :: l) else none
    | none => none
  | _ => none
theorem decL_ok {v : V} {l : List Int} (h : decL v = some l) : LeV v (.lst 1 false (rowsI l)) := by
  unfold decL at h
  split at h
  · split at h
    · rename_i hd
      cases h
      rw [decI_ok hd]
      exact .nils
    · rename_i hd
      rw [decI_ok hd]
      cases he : Nat.beq _ 1 with
      | true => rw [he] at h; cases h; rw [Nat.eq_of_beq_eq_true he]; exact .weak
      | false => rw [he] at h; cases h
    · cases h
  · cases h
def decZ : List (List V) → Option (List Zn)
  | [] => some []
  | [.int .i64 a, .int .i64 b, .int .i64 c, .int .i64 d, .int .i64 e, fr] :: r => match decL fr with
    | some l => match decZ r with
      | some z => some (⟨a, b, c, d, e, l, false⟩ :: z)
      | none => none
    | none => none
  | _ => none
theorem decZ_ok : ∀ {r : List (List V)} {l : List Zn}, decZ r = some l → r.length = (rowsZ l).length ∧ ∀ (i : Nat) (x y : List V), r[i]? = some x → (rowsZ l)[i]? = some y → LeVs x y := by
  intro r
  induction r with
  | nil => intro l h; cases h; exact ⟨rfl, by simp⟩
  | cons x r ih =>
    intro l h
    unfold decZ at h
    split at h
    · rename_i e; cases e
    · rename_i a b c d e fr r' eq
      cases eq
      split at h
      · rename_i fl hf
        split at h
        · rename_i z hz
          cases h
          obtain ⟨h1, h2⟩ := ih hz
          refine ⟨by simp [rowsZ] at h1 ⊢; exact h1, fun i x y hx hy => ?_⟩
          cases i with
          | zero =>
            simp only [rowsZ, List.map_cons, List.getElem?_cons_zero, Option.some.injEq] at hx hy
            subst hx hy
            exact .cons (.refl _) (.cons (.refl _) (.cons (.refl _) (.cons (.refl _) (.cons (.refl _) (.cons (decL_ok hf) .nil)))))
          | succ i => exact h2 i x y (by simpa using hx) (by simpa [rowsZ] using hy)
        · cases h
      · cases h
    · cases h
def decZl : V → Option (List Zn)
  | .lst e _ rows => match decZ rows with
    | some l => bif Nat.beq e 6 || l.isEmpty then some l else none
    | none => none
  | _ => none
theorem decZl_ok {v : V} {l : List Zn} (h : decZl v = some l) : LeV v (.lst 6 false (rowsZ l)) := by
  unfold decZl at h
  split at h
  · rename_i e t rows
    split at h
    · rename_i l' hd
      obtain ⟨h1, h2⟩ := decZ_ok hd
      cases he : (Nat.beq e 6 || l'.isEmpty) with
      | false => rw [he] at h; cases h
      | true =>
        rw [he] at h
        cases h
        refine .lst ?_ (by simp) h1 h2
        rw [Bool.or_eq_true] at he
        rcases he with he | he
        · exact .inl (Nat.eq_of_beq_eq_true he)
        · right
          rw [List.isEmpty_iff.1 he] at h1
          exact List.length_eq_zero_iff.1 (by rw [h1]; rfl)
    · cases h
  · cases h
def decLs : V → Option Ls
  | .agg [a, i, r] => match decL a with
    | some A => match decL i with
      | some I => match decL r with
        | some R => some ⟨A, I, R⟩
        | none => none
      | none => none
    | none => none
  | _ => none
theorem decLs_ok {v : V} {l : Ls} (h : decLs v = some l) : LeV v (.agg l.c) := by
  unfold decLs at h
  split at h
  · split at h
    · rename_i h1
      split at h
      · rename_i h2
        split at h
        · rename_i h3
          cases h
          exact .aggs (.cons (decL_ok h1) (.cons (decL_ok h2) (.cons (decL_ok h3) .nil)))
        · cases h
      · cases h
    · cases h
  · cases h
def smZ (l : List Zn) : Bool := Nat.ble l.length 100000 && l.all fun z => Nat.ble z.free.length 100000
theorem smZ_ok {l : List Zn} (h : smZ l = true) : SmallZ l := by
  rw [smZ, Bool.and_eq_true] at h
  exact ⟨Nat.le_of_ble_eq_true h.1, fun z hz => Nat.le_of_ble_eq_true (List.all_eq_true.1 h.2 z hz)⟩
def smL (l : Ls) : Bool := Nat.ble l.A.length 10000 && (Nat.ble l.I.length 10000 && Nat.ble l.R.length 10000)
theorem smL_ok {l : Ls} (h : smL l = true) : SmallL l := by
  rw [smL, Bool.and_eq_true, Bool.and_eq_true] at h
  exact ⟨Nat.le_of_ble_eq_true h.1, Nat.le_of_ble_eq_true h.2.1, Nat.le_of_ble_eq_true h.2.2⟩

/-- What is known of calls of zones and lists. -/
def extA (f : FuncId) (ob0 : List Sk.Obj) (args : List V) : Option (V × List Sk.Obj) :=
  match ob0 with
  | _ :: _ => none
  | [] => bif Nat.beq f 130 then (match args with
      | [v] => match decL v with
        | some s => bif Nat.ble s.length 100000 then some (.tup [.lst 6 false (rowsZ (newF s).1), .int .i64 (newF s).2], []) else none
        | none => none
      | _ => none) else
    bif Nat.beq f 109 then (match args with
      | [v, .int .i64 p, .bool u] => match decZl v with
        | some l => bif smZ l then some (.tup [.lst 6 false (rowsZ (takeG (l.map exZ) l p u).1), .int .i64 (takeG (l.map exZ) l p u).2.1, .int .i64 (takeG (l.map exZ) l p u).2.2], []) else none
        | none => none
      | _ => none) else
    bif Nat.beq f 247 then (match args with
      | [v, .int .i64 p] => match decZl v with
        | some l => bif smZ l then some (.tup [.lst 6 false (rowsZ (giveG (l.map exZ) l p).1), .int .i64 (giveG (l.map exZ) l p).2], []) else none
        | none => none
      | _ => none) else
    bif Nat.beq f 211 then (match args with
      | [v] => match decZl v with
        | some l => bif smZ l then some (.bool (checkZ l), []) else none
        | none => none
      | _ => none) else
    bif Nat.beq f 231 then (match args with
      | [v] => match decLs v with
        | some l => bif smL l then some (.bool (chkL l), []) else none
        | none => none
      | _ => none) else
    bif Nat.beq f 149 then (match args with
      | [v, .int .i64 p, .bool u] => match decLs v with
        | some l => bif smL l then some (.tup [.agg (addP l p u).1.c, .int .i64 (addP l p u).2], []) else none
        | none => none
      | _ => none) else
    bif Nat.beq f 245 then (match args with
      | [v, .int .i64 p] => match decLs v with
        | some l => bif smL l then some (.tup [.agg (remF l p).1.c, .int .i64 (remF l p).2], []) else none
        | none => none
      | _ => none) else
    bif Nat.beq f 201 then (match args with
      | [v, .int .i64 p] => match decLs v with
        | some l => bif smL l then some (.tup [.agg (touF l p).1.c, .int .i64 (touF l p).2], []) else none
        | none => none
      | _ => none) else none
theorem bif_some {α : Type} {b : Bool} {x y : α} (h : (bif b then some x else none) = some y) : b = true ∧ x = y := by
  cases b with
  | true => exact ⟨rfl, Option.some.inj h⟩
  | false => cases h
theorem hextA (f : FuncId) (ob0 : List Sk.Obj) (args : List V) (v : V) (ob1 : List Sk.Obj) (h : extA f ob0 args = some (v, ob1)) : FnC Tryz.prog f ob0 args v ob1 := by
  unfold extA at h
  split at h
  · cases h
  cases h1 : Nat.beq f 130 with
  | true =>
    rw [h1] at h
    obtain rfl := Nat.eq_of_beq_eq_true h1
    dsimp only [cond_true] at h
    split at h
    · split at h
      · rename_i hd
        obtain ⟨hb, he⟩ := bif_some h
        cases he
        exact (ok130 _ _ (Nat.le_of_ble_eq_true hb)).le (.cons (decL_ok hd) .nil) (.refl _) (LeOs.refl _)
      · cases h
    · cases h
  | false =>
  rw [h1] at h
  dsimp only [cond_false] at h
  cases h1 : Nat.beq f 109 with
  | true =>
    rw [h1] at h
    obtain rfl := Nat.eq_of_beq_eq_true h1
    dsimp only [cond_true] at h
    split at h
    · split at h
      · rename_i hd
        obtain ⟨hb, he⟩ := bif_some h
        cases he
        exact (ok109 _ _ _ _ (smZ_ok hb)).le (.cons (decZl_ok hd) (.refl _)) (.refl _) (LeOs.refl _)
      · cases h
    · cases h
  | false =>
  rw [h1] at h
  dsimp only [cond_false] at h
  cases h1 : Nat.beq f 247 with
  | true =>
    rw [h1] at h
    obtain rfl := Nat.eq_of_beq_eq_true h1
    dsimp only [cond_true] at h
    split at h
    · split at h
      · rename_i hd
        obtain ⟨hb, he⟩ := bif_some h
        cases he
        exact (ok247 _ _ _ (smZ_ok hb)).le (.cons (decZl_ok hd) (.refl _)) (.refl _) (LeOs.refl _)
      · cases h
    · cases h
  | false =>
  rw [h1] at h
  dsimp only [cond_false] at h
  cases h1 : Nat.beq f 211 with
  | true =>
    rw [h1] at h
    obtain rfl := Nat.eq_of_beq_eq_true h1
    dsimp only [cond_true] at h
    split at h
    · split at h
      · rename_i hd
        obtain ⟨hb, he⟩ := bif_some h
        cases he
        exact (ok211 _ _ (smZ_ok hb)).le (.cons (decZl_ok hd) (.refl _)) (.refl _) (LeOs.refl _)
      · cases h
    · cases h
  | false =>
  rw [h1] at h
  dsimp only [cond_false] at h
  cases h1 : Nat.beq f 231 with
  | true =>
    rw [h1] at h
    obtain rfl := Nat.eq_of_beq_eq_true h1
    dsimp only [cond_true] at h
    split at h
    · split at h
      · rename_i hd
        obtain ⟨hb, he⟩ := bif_some h
        cases he
        exact (ok231 _ (smL_ok hb)).le (.cons (decLs_ok hd) (.refl _)) (.refl _) (LeOs.refl _)
      · cases h
    · cases h
  | false =>
  rw [h1] at h
  dsimp only [cond_false] at h
  cases h1 : Nat.beq f 149 with
  | true =>
    rw [h1] at h
    obtain rfl := Nat.eq_of_beq_eq_true h1
    dsimp only [cond_true] at h
    split at h
    · split at h
      · rename_i hd
        obtain ⟨hb, he⟩ := bif_some h
        cases he
        exact (ok149 _ _ _ (smL_ok hb)).le (.cons (decLs_ok hd) (.refl _)) (.refl _) (LeOs.refl _)
      · cases h
    · cases h
  | false =>
  rw [h1] at h
  dsimp only [cond_false] at h
  cases h1 : Nat.beq f 245 with
  | true =>
    rw [h1] at h
    obtain rfl := Nat.eq_of_beq_eq_true h1
    dsimp only [cond_true] at h
    split at h
    · split at h
      · rename_i hd
        obtain ⟨hb, he⟩ := bif_some h
        cases he
        exact (ok245 _ _ (smL_ok hb)).le (.cons (decLs_ok hd) (.refl _)) (.refl _) (LeOs.refl _)
      · cases h
    · cases h
  | false =>
  rw [h1] at h
  dsimp only [cond_false] at h
  cases h1 : Nat.beq f 201 with
  | true =>
    rw [h1] at h
    obtain rfl := Nat.eq_of_beq_eq_true h1
    dsimp only [cond_true] at h
    split at h
    · split at h
      · rename_i hd
        obtain ⟨hb, he⟩ := bif_some h
        cases he
        exact (ok201 _ _ (smL_ok hb)).le (.cons (decLs_ok hd) (.refl _)) (.refl _) (LeOs.refl _)
      · cases h
    · cases h
  | false =>
  rw [h1] at h
  cases h
end Go.Proofs.YtmhapcbjjpadnaaGreat

set_option maxRecDepth 40000
namespace Go.Proofs.YtmhapcbjjpadnaaGreat
open Go Go.Sk Go.RowKit

theorem ok185 (rows : List (List V)) (t : Bool) (hl : rows.length * 136 ≤ 140737488355328) : FnC Tryz.prog 185 [] [.lst 15 t rows] (.sl 0 0 rows.length) [.row 15 rows] := by
  refine FnC.lst_cases (fun hne => ?_) (fun he a cap => ?_)
  · obtain ⟨r, rs, rfl⟩ := List.exists_cons_of_ne_nil hne
    refine fn_okX (ob0 := []) [] Tryz.func185 rfl rfl rfl rfl ?_
    repeat ((conv => whnf); first | refine Cd.go ?_ | refine ⟨rfl, ?_⟩ | refine rq_dec ⟨.inl rfl, rfl⟩ ?_ | refine rq_dec rfl ?_ | refine ⟨Nat.le_of_ble_eq_true rfl, ?_⟩ | refine ⟨.inl rfl, ?_⟩ | refine ⟨fun _ => ⟨rfl, Nat.le_of_ble_eq_true rfl⟩, ?_⟩ | refine ⟨fun _ => Nat.le_of_ble_eq_true rfl, ?_⟩ | refine ⟨fun h => Bool.noConfusion h, ?_⟩)
    conv => whnf
    first | refine rq_app (by simp only [List.replicate_zero, List.length_nil, Nat.zero_add]; omega) (by simp only [List.replicate_zero, List.length_nil, Nat.zero_add]; exact hl) ?_ | refine rq_dec ⟨by simp only [List.replicate_zero, List.length_nil, Nat.zero_add]; omega, by simp only [List.replicate_zero, List.length_nil, Nat.zero_add]; exact hl⟩ ?_ | refine ⟨by simp only [List.replicate_zero, List.length_nil, Nat.zero_add]; omega, by simp only [List.replicate_zero, List.length_nil, Nat.zero_add]; exact hl, ?_⟩
    repeat ((conv => whnf); first | refine Cd.go ?_ | refine ⟨rfl, ?_⟩ | refine rq_dec ⟨.inl rfl, rfl⟩ ?_ | refine rq_dec rfl ?_ | refine ⟨Nat.le_of_ble_eq_true rfl, ?_⟩ | refine ⟨.inl rfl, ?_⟩ | refine ⟨fun _ => ⟨rfl, Nat.le_of_ble_eq_true rfl⟩, ?_⟩ | refine ⟨fun _ => Nat.le_of_ble_eq_true rfl, ?_⟩ | refine ⟨fun h => Bool.noConfusion h, ?_⟩)
    conv => whnf
    try subst hk
    refine ⟨[some 1], ?_, rfl, ?_, rfl, ?_⟩
    all_goals repeat' (first | exact trivial | rfl | exact .inl rfl | exact .inr rfl | exact id | exact (fun h => Bool.noConfusion h) | refine And.intro ?_ ?_)
    simp
  · subst he
    cases a with
    | none =>
      refine fn_okX (ob0 := []) [] Tryz.func185 rfl rfl rfl rfl ?_
      repeat ((conv => whnf); first | refine Cd.go ?_ | refine ⟨rfl, ?_⟩ | refine rq_dec ⟨.inl rfl, rfl⟩ ?_ | refine rq_dec rfl ?_ | refine ⟨Nat.le_of_ble_eq_true rfl, ?_⟩ | refine ⟨.inl rfl, ?_⟩ | refine ⟨fun _ => ⟨rfl, Nat.le_of_ble_eq_true rfl⟩, ?_⟩ | refine ⟨fun _ => Nat.le_of_ble_eq_true rfl, ?_⟩ | refine ⟨fun h => Bool.noConfusion h, ?_⟩)
      conv => whnf
      try subst hk
      refine ⟨[none], ?_, rfl, ?_, rfl, ?_⟩
      all_goals repeat' (first | exact trivial | rfl | exact .inl rfl | exact .inr rfl | exact id | exact (fun h => Bool.noConfusion h) | refine And.intro ?_ ?_)
    | some ad =>
      refine fn_okX (ob0 := []) [] Tryz.func185 rfl rfl rfl rfl ?_
      repeat ((conv => whnf); first | refine Cd.go ?_ | refine ⟨rfl, ?_⟩ | refine rq_dec ⟨.inl rfl, rfl⟩ ?_ | refine rq_dec rfl ?_ | refine ⟨Nat.le_of_ble_eq_true rfl, ?_⟩ | refine ⟨.inl rfl, ?_⟩ | refine ⟨fun _ => ⟨rfl, Nat.le_of_ble_eq_true rfl⟩, ?_⟩ | refine ⟨fun _ => Nat.le_of_ble_eq_true rfl, ?_⟩ | refine ⟨fun h => Bool.noConfusion h, ?_⟩)
      conv => whnf
      try subst hk
      refine ⟨[some 1], ?_, rfl, ?_, rfl, ?_⟩
      all_goals repeat' (first | exact trivial | rfl | exact .inl rfl | exact .inr rfl | exact id | exact (fun h => Bool.noConfusion h) | refine And.intro ?_ ?_)
theorem ok186 (rows : List (List V)) (t : Bool) (hl : rows.length * 80 ≤ 140737488355328) : FnC Tryz.prog 186 [] [.lst 9 t rows] (.sl 0 0 rows.length) [.row 9 rows] := by
  refine FnC.lst_cases (fun hne => ?_) (fun he a cap => ?_)
  · obtain ⟨r, rs, rfl⟩ := List.exists_cons_of_ne_nil hne
    refine fn_okX (ob0 := []) [] Tryz.func186 rfl rfl rfl rfl ?_
    repeat ((conv => whnf); first | refine Cd.go ?_ | refine ⟨rfl, ?_⟩ | refine rq_dec ⟨.inl rfl, rfl⟩ ?_ | refine rq_dec rfl ?_ | refine ⟨Nat.le_of_ble_eq_true rfl, ?_⟩ | refine ⟨.inl rfl, ?_⟩ | refine ⟨fun _ => ⟨rfl, Nat.le_of_ble_eq_true rfl⟩, ?_⟩ | refine ⟨fun _ => Nat.le_of_ble_eq_true rfl, ?_⟩ | refine ⟨fun h => Bool.noConfusion h, ?_⟩)
    conv => whnf
    first | refine rq_app (by simp only [List.replicate_zero, List.length_nil, Nat.zero_add]; omega) (by simp only [List.replicate_zero, List.length_nil, Nat.zero_add]; exact hl) ?_ | refine rq_dec ⟨by simp only [List.replicate_zero, List.length_nil, Nat.zero_add]; omega, by simp only [List.replicate_zero, List.length_nil, Nat.zero_add]; exact hl⟩ ?_ | refine ⟨by simp only [List.replicate_zero, List.length_nil, Nat.zero_add]; omega, by simp only [List.replicate_zero, List.length_nil, Nat.zero_add]; exact hl, ?_⟩
    repeat ((conv => whnf); first | refine Cd.go ?_ | refine ⟨rfl, ?_⟩ | refine rq_dec ⟨.inl rfl, rfl⟩ ?_ | refine rq_dec rfl ?_ | refine ⟨Nat.le_of_ble_eq_true rfl, ?_⟩ | refine ⟨.inl rfl, ?_⟩ | refine ⟨fun _ => ⟨rfl, Nat.le_of_ble_eq_true rfl⟩, ?_⟩ | refine ⟨fun _ => Nat.le_of_ble_eq_true rfl, ?_⟩ | refine ⟨fun h => Bool.noConfusion h, ?_⟩)
    conv => whnf
    try subst hk
    refine ⟨[some 1], ?_, rfl, ?_, rfl, ?_⟩
    all_goals repeat' (first | exact trivial | rfl | exact .inl rfl | exact .inr rfl | exact id | exact (fun h => Bool.noConfusion h) | refine And.intro ?_ ?_)
    simp
  · subst he
    cases a with
    | none =>
      refine fn_okX (ob0 := []) [] Tryz.func186 rfl rfl rfl rfl ?_
      repeat ((conv => whnf); first | refine Cd.go ?_ | refine ⟨rfl, ?_⟩ | refine rq_dec ⟨.inl rfl, rfl⟩ ?_ | refine rq_dec rfl ?_ | refine ⟨Nat.le_of_ble_eq_true rfl, ?_⟩ | refine ⟨.inl rfl, ?_⟩ | refine ⟨fun _ => ⟨rfl, Nat.le_of_ble_eq_true rfl⟩, ?_⟩ | refine ⟨fun _ => Nat.le_of_ble_eq_true rfl, ?_⟩ | refine ⟨fun h => Bool.noConfusion h, ?_⟩)
      conv => whnf
      try subst hk
      refine ⟨[none], ?_, rfl, ?_, rfl, ?_⟩
      all_goals repeat' (first | exact trivial | rfl | exact .inl rfl | exact .inr rfl | exact id | exact (fun h => Bool.noConfusion h) | refine And.intro ?_ ?_)
    | some ad =>
      refine fn_okX (ob0 := []) [] Tryz.func186 rfl rfl rfl rfl ?_
      repeat ((conv => whnf); first | refine Cd.go ?_ | refine ⟨rfl, ?_⟩ | refine rq_dec ⟨.inl rfl, rfl⟩ ?_ | refine rq_dec rfl ?_ | refine ⟨Nat.le_of_ble_eq_true rfl, ?_⟩ | refine ⟨.inl rfl, ?_⟩ | refine ⟨fun _ => ⟨rfl, Nat.le_of_ble_eq_true rfl⟩, ?_⟩ | refine ⟨fun _ => Nat.le_of_ble_eq_true rfl, ?_⟩ | refine ⟨fun h => Bool.noConfusion h, ?_⟩)
      conv => whnf
      try subst hk
      refine ⟨[some 1], ?_, rfl, ?_, rfl, ?_⟩
      all_goals repeat' (first | exact trivial | rfl | exact .inl rfl | exact .inr rfl | exact id | exact (fun h => Bool.noConfusion h) | refine And.intro ?_ ?_)
theorem ok188 (rows : List (List V)) (t : Bool) (hl : rows.length * 24 ≤ 140737488355328) : FnC Tryz.prog 188 [] [.lst 3 t rows] (.sl 0 0 rows.length) [.row 3 rows] := by
  refine FnC.lst_cases (fun hne => ?_) (fun he a cap => ?_)
  · obtain ⟨r, rs, rfl⟩ := List.exists_cons_of_ne_nil hne
    refine fn_okX (ob0 := []) [] Tryz.func188 rfl rfl rfl rfl ?_
    repeat ((conv => whnf); first | refine Cd.go ?_ | refine ⟨rfl, ?_⟩ | refine rq_dec ⟨.inl rfl, rfl⟩ ?_ | refine rq_dec rfl ?_ | refine ⟨Nat.le_of_ble_eq_true rfl, ?_⟩ | refine ⟨.inl rfl, ?_⟩ | refine ⟨fun _ => ⟨rfl, Nat.le_of_ble_eq_true rfl⟩, ?_⟩ | refine ⟨fun _ => Nat.le_of_ble_eq_true rfl, ?_⟩ | refine ⟨fun h => Bool.noConfusion h, ?_⟩)
    conv => whnf
    first | refine rq_app (by simp only [List.replicate_zero, List.length_nil, Nat.zero_add]; omega) (by simp only [List.replicate_zero, List.length_nil, Nat.zero_add]; exact hl) ?_ | refine rq_dec ⟨by simp only [List.replicate_zero, List.length_nil, Nat.zero_add]; omega, by simp only [List.replicate_zero, List.length_nil, Nat.zero_add]; exact hl⟩ ?_ | refine ⟨by simp only [List.replicate_zero, List.length_nil, Nat.zero_add]; omega, by simp only [List.replicate_zero, List.length_nil, Nat.zero_add]; exact hl, ?_⟩
    repeat ((conv => whnf); first | refine Cd.go ?_ | refine ⟨rfl, ?_⟩ | refine rq_dec ⟨.inl rfl, rfl⟩ ?_ | refine rq_dec rfl ?_ | refine ⟨Nat.le_of_ble_eq_true rfl, ?_⟩ | refine ⟨.inl rfl, ?_⟩ | refine ⟨fun _ => ⟨rfl, Nat.le_of_ble_eq_true rfl⟩, ?_⟩ | refine ⟨fun _ => Nat.le_of_ble_eq_true rfl, ?_⟩ | refine ⟨fun h => Bool.noConfusion h, ?_⟩)
    conv => whnf
    try subst hk
    refine ⟨[some 1], ?_, rfl, ?_, rfl, ?_⟩
    all_goals repeat' (first | exact trivial | rfl | exact .inl rfl | exact .inr rfl | exact id | exact (fun h => Bool.noConfusion h) | refine And.intro ?_ ?_)
    simp
  · subst he
    cases a with
    | none =>
      refine fn_okX (ob0 := []) [] Tryz.func188 rfl rfl rfl rfl ?_
      repeat ((conv => whnf); first | refine Cd.go ?_ | refine ⟨rfl, ?_⟩ | refine rq_dec ⟨.inl rfl, rfl⟩ ?_ | refine rq_dec rfl ?_ | refine ⟨Nat.le_of_ble_eq_true rfl, ?_⟩ | refine ⟨.inl rfl, ?_⟩ | refine ⟨fun _ => ⟨rfl, Nat.le_of_ble_eq_true rfl⟩, ?_⟩ | refine ⟨fun _ => Nat.le_of_ble_eq_true rfl, ?_⟩ | refine ⟨fun h => Bool.noConfusion h, ?_⟩)
      conv => whnf
      try subst hk
      refine ⟨[none], ?_, rfl, ?_, rfl, ?_⟩
      all_goals repeat' (first | exact trivial | rfl | exact .inl rfl | exact .inr rfl | exact id | exact (fun h => Bool.noConfusion h) | refine And.intro ?_ ?_)
    | some ad =>
      refine fn_okX (ob0 := []) [] Tryz.func188 rfl rfl rfl rfl ?_
      repeat ((conv => whnf); first | refine Cd.go ?_ | refine ⟨rfl, ?_⟩ | refine rq_dec ⟨.inl rfl, rfl⟩ ?_ | refine rq_dec rfl ?_ | refine ⟨Nat.le_of_ble_eq_true rfl, ?_⟩ | refine ⟨.inl rfl, ?_⟩ | refine ⟨fun _ => ⟨rfl, Nat.le_of_ble_eq_true rfl⟩, ?_⟩ | refine ⟨fun _ => Nat.le_of_ble_eq_true rfl, ?_⟩ | refine ⟨fun h => Bool.noConfusion h, ?_⟩)
      conv => whnf
      try subst hk
      refine ⟨[some 1], ?_, rfl, ?_, rfl, ?_⟩
      all_goals repeat' (first | exact trivial | rfl | exact .inl rfl | exact .inr rfl | exact id | exact (fun h => Bool.noConfusion h) | refine And.intro ?_ ?_)
theorem ok189 (rows : List (List V)) (t : Bool) (hl : rows.length * 72 ≤ 140737488355328) : FnC Tryz.prog 189 [] [.lst 3 t rows] (.sl 0 0 rows.length) [.row 3 rows] := by
  refine FnC.lst_cases (fun hne => ?_) (fun he a cap => ?_)
  · obtain ⟨r, rs, rfl⟩ := List.exists_cons_of_ne_nil hne
    refine fn_okX (ob0 := []) [] Tryz.func189 rfl rfl rfl rfl ?_
    repeat ((conv => whnf); first | refine Cd.go ?_ | refine ⟨rfl, ?_⟩ | refine rq_dec ⟨.inl rfl, rfl⟩ ?_ | refine rq_dec rfl ?_ | refine ⟨Nat.le_of_ble_eq_true rfl, ?_⟩ | refine ⟨.inl rfl, ?_⟩ | refine ⟨fun _ => ⟨rfl, Nat.le_of_ble_eq_true rfl⟩, ?_⟩ | refine ⟨fun _ => Nat.le_of_ble_eq_true rfl, ?_⟩ | refine ⟨fun h => Bool.noConfusion h, ?_⟩)
    conv => whnf
    first | refine rq_app (by simp only [List.replicate_zero, List.length_nil, Nat.zero_add]; omega) (by simp only [List.replicate_zero, List.length_nil, Nat.zero_add]; exact hl) ?_ | refine rq_dec ⟨by simp only [List.replicate_zero, List.length_nil, Nat.zero_add]; omega, by simp only [List.replicate_zero, List.length_nil, Nat.zero_add]; exact hl⟩ ?_ | refine ⟨by simp only [List.replicate_zero, List.length_nil, Nat.zero_add]; omega, by simp only [List.replicate_zero, List.length_nil, Nat.zero_add]; exact hl, ?_⟩
    repeat ((conv => whnf); first | refine Cd.go ?_ | refine ⟨rfl, ?_⟩ | refine rq_dec ⟨.inl rfl, rfl⟩ ?_ | refine rq_dec rfl ?_ | refine ⟨Nat.le_of_ble_eq_true rfl, ?_⟩ | refine ⟨.inl rfl, ?_⟩ | refine ⟨fun _ => ⟨rfl, Nat.le_of_ble_eq_true rfl⟩, ?_⟩ | refine ⟨fun _ => Nat.le_of_ble_eq_true rfl, ?_⟩ | refine ⟨fun h => Bool.noConfusion h, ?_⟩)
    conv => whnf
    try subst hk
    refine ⟨[some 1], ?_, rfl, ?_, rfl, ?_⟩
    all_goals repeat' (first | exact trivial | rfl | exact .inl rfl | exact .inr rfl | exact id | exact (fun h => Bool.noConfusion h) | refine And.intro ?_ ?_)
    simp
  · subst he
    cases a with
    | none =>
      refine fn_okX (ob0 := []) [] Tryz.func189 rfl rfl rfl rfl ?_
      repeat ((conv => whnf); first | refine Cd.go ?_ | refine ⟨rfl, ?_⟩ | refine rq_dec ⟨.inl rfl, rfl⟩ ?_ | refine rq_dec rfl ?_ | refine ⟨Nat.le_of_ble_eq_true rfl, ?_⟩ | refine ⟨.inl rfl, ?_⟩ | refine ⟨fun _ => ⟨rfl, Nat.le_of_ble_eq_true rfl⟩, ?_⟩ | refine ⟨fun _ => Nat.le_of_ble_eq_true rfl, ?_⟩ | refine ⟨fun h => Bool.noConfusion h, ?_⟩)
      conv => whnf
      try subst hk
      refine ⟨[none], ?_, rfl, ?_, rfl, ?_⟩
      all_goals repeat' (first | exact trivial | rfl | exact .inl rfl | exact .inr rfl | exact id | exact (fun h => Bool.noConfusion h) | refine And.intro ?_ ?_)
    | some ad =>
      refine fn_okX (ob0 := []) [] Tryz.func189 rfl rfl rfl rfl ?_
      repeat ((conv => whnf); first | refine Cd.go ?_ | refine ⟨rfl, ?_⟩ | refine rq_dec ⟨.inl rfl, rfl⟩ ?_ | refine rq_dec rfl ?_ | refine ⟨Nat.le_of_ble_eq_true rfl, ?_⟩ | refine ⟨.inl rfl, ?_⟩ | refine ⟨fun _ => ⟨rfl, Nat.le_of_ble_eq_true rfl⟩, ?_⟩ | refine ⟨fun _ => Nat.le_of_ble_eq_true rfl, ?_⟩ | refine ⟨fun h => Bool.noConfusion h, ?_⟩)
      conv => whnf
      try subst hk
      refine ⟨[some 1], ?_, rfl, ?_, rfl, ?_⟩
      all_goals repeat' (first | exact trivial | rfl | exact .inl rfl | exact .inr rfl | exact id | exact (fun h => Bool.noConfusion h) | refine And.intro ?_ ?_)
theorem ok190 (rows : List (List V)) (t : Bool) (hl : rows.length * 32 ≤ 140737488355328) : FnC Tryz.prog 190 [] [.lst 5 t rows] (.sl 0 0 rows.length) [.row 5 rows] := by
  refine FnC.lst_cases (fun hne => ?_) (fun he a cap => ?_)
  · obtain ⟨r, rs, rfl⟩ := List.exists_cons_of_ne_nil hne
    refine fn_okX (ob0 := []) [] Tryz.func190 rfl rfl rfl rfl ?_
    repeat ((conv => whnf); first | refine Cd.go ?_ | refine ⟨rfl, ?_⟩ | refine rq_dec ⟨.inl rfl, rfl⟩ ?_ | refine rq_dec rfl ?_ | refine ⟨Nat.le_of_ble_eq_true rfl, ?_⟩ | refine ⟨.inl rfl, ?_⟩ | refine ⟨fun _ => ⟨rfl, Nat.le_of_ble_eq_true rfl⟩, ?_⟩ | refine ⟨fun _ => Nat.le_of_ble_eq_true rfl, ?_⟩ | refine ⟨fun h => Bool.noConfusion h, ?_⟩)
    conv => whnf
    first | refine rq_app (by simp only [List.replicate_zero, List.length_nil, Nat.zero_add]; omega) (by simp only [List.replicate_zero, List.length_nil, Nat.zero_add]; exact hl) ?_ | refine rq_dec ⟨by simp only [List.replicate_zero, List.length_nil, Nat.zero_add]; omega, by simp only [List.replicate_zero, List.length_nil, Nat.zero_add]; exact hl⟩ ?_ | refine ⟨by simp only [List.replicate_zero, List.length_nil, Nat.zero_add]; omega, by simp only [List.replicate_zero, List.length_nil, Nat.zero_add]; exact hl, ?_⟩
    repeat ((conv => whnf); first | refine Cd.go ?_ | refine ⟨rfl, ?_⟩ | refine rq_dec ⟨.inl rfl, rfl⟩ ?_ | refine rq_dec rfl ?_ | refine ⟨Nat.le_of_ble_eq_true rfl, ?_⟩ | refine ⟨.inl rfl, ?_⟩ | refine ⟨fun _ => ⟨rfl, Nat.le_of_ble_eq_true rfl⟩, ?_⟩ | refine ⟨fun _ => Nat.le_of_ble_eq_true rfl, ?_⟩ | refine ⟨fun h => Bool.noConfusion h, ?_⟩)
    conv => whnf
    try subst hk
    refine ⟨[some 1], ?_, rfl, ?_, rfl, ?_⟩
    all_goals repeat' (first | exact trivial | rfl | exact .inl rfl | exact .inr rfl | exact id | exact (fun h => Bool.noConfusion h) | refine And.intro ?_ ?_)
    simp
  · subst he
    cases a with
    | none =>
      refine fn_okX (ob0 := []) [] Tryz.func190 rfl rfl rfl rfl ?_
      repeat ((conv => whnf); first | refine Cd.go ?_ | refine ⟨rfl, ?_⟩ | refine rq_dec ⟨.inl rfl, rfl⟩ ?_ | refine rq_dec rfl ?_ | refine ⟨Nat.le_of_ble_eq_true rfl, ?_⟩ | refine ⟨.inl rfl, ?_⟩ | refine ⟨fun _ => ⟨rfl, Nat.le_of_ble_eq_true rfl⟩, ?_⟩ | refine ⟨fun _ => Nat.le_of_ble_eq_true rfl, ?_⟩ | refine ⟨fun h => Bool.noConfusion h, ?_⟩)
      conv => whnf
      try subst hk
      refine ⟨[none], ?_, rfl, ?_, rfl, ?_⟩
      all_goals repeat' (first | exact trivial | rfl | exact .inl rfl | exact .inr rfl | exact id | exact (fun h => Bool.noConfusion h) | refine And.intro ?_ ?_)
    | some ad =>
      refine fn_okX (ob0 := []) [] Tryz.func190 rfl rfl rfl rfl ?_
      repeat ((conv => whnf); first | refine Cd.go ?_ | refine ⟨rfl, ?_⟩ | refine rq_dec ⟨.inl rfl, rfl⟩ ?_ | refine rq_dec rfl ?_ | refine ⟨Nat.le_of_ble_eq_true rfl, ?_⟩ | refine ⟨.inl rfl, ?_⟩ | refine ⟨fun _ => ⟨rfl, Nat.le_of_ble_eq_true rfl⟩, ?_⟩ | refine ⟨fun _ => Nat.le_of_ble_eq_true rfl, ?_⟩ | refine ⟨fun h => Bool.noConfusion h, ?_⟩)
      conv => whnf
      try subst hk
      refine ⟨[some 1], ?_, rfl, ?_, rfl, ?_⟩
      all_goals repeat' (first | exact trivial | rfl | exact .inl rfl | exact .inr rfl | exact id | exact (fun h => Bool.noConfusion h) | refine And.intro ?_ ?_)
theorem ok107f (rows : List (List V)) (t : Bool) (hl : rows.length * 8 ≤ 140737488355328) : FnC Tryz.prog 107 [] [.lst 1 t rows] (.lst 1 false rows) [] := by
  refine FnC.lst_cases (fun hne => ?_) (fun he a cap => ?_)
  · obtain ⟨r, rs, rfl⟩ := List.exists_cons_of_ne_nil hne
    refine fn_okX (ob0 := []) [] Tryz.func107 rfl rfl rfl rfl ?_
    repeat ((conv => whnf); first | refine Cd.go ?_ | refine ⟨rfl, ?_⟩ | refine rq_dec ⟨.inl rfl, rfl⟩ ?_ | refine rq_dec rfl ?_ | refine ⟨Nat.le_of_ble_eq_true rfl, ?_⟩ | refine ⟨.inl rfl, ?_⟩ | refine ⟨fun _ => ⟨rfl, Nat.le_of_ble_eq_true rfl⟩, ?_⟩ | refine ⟨fun _ => Nat.le_of_ble_eq_true rfl, ?_⟩ | refine ⟨fun h => Bool.noConfusion h, ?_⟩)
    conv => whnf
    first | refine rq_app (by simp only [List.replicate_zero, List.length_nil, Nat.zero_add]; omega) (by simp only [List.replicate_zero, List.length_nil, Nat.zero_add]; exact hl) ?_ | refine rq_dec ⟨by simp only [List.replicate_zero, List.length_nil, Nat.zero_add]; omega, by simp only [List.replicate_zero, List.length_nil, Nat.zero_add]; exact hl⟩ ?_ | refine ⟨by simp only [List.replicate_zero, List.length_nil, Nat.zero_add]; omega, by simp only [List.replicate_zero, List.length_nil, Nat.zero_add]; exact hl, ?_⟩
    repeat ((conv => whnf); first | refine Cd.go ?_ | refine ⟨rfl, ?_⟩ | refine rq_dec ⟨.inl rfl, rfl⟩ ?_ | refine rq_dec rfl ?_ | refine ⟨Nat.le_of_ble_eq_true rfl, ?_⟩ | refine ⟨.inl rfl, ?_⟩ | refine ⟨fun _ => ⟨rfl, Nat.le_of_ble_eq_true rfl⟩, ?_⟩ | refine ⟨fun _ => Nat.le_of_ble_eq_true rfl, ?_⟩ | refine ⟨fun h => Bool.noConfusion h, ?_⟩)
    conv => whnf
    refine ⟨[], trivial, rfl, trivial, rfl, ?_⟩
    try subst hk
    repeat' (first | exact trivial | rfl | exact .inl rfl | exact .inr rfl | exact id | exact (fun h => Bool.noConfusion h) | refine And.intro ?_ ?_)
    all_goals simp
  · subst he
    cases a with
    | none =>
      refine fn_okX (ob0 := []) [] Tryz.func107 rfl rfl rfl rfl ?_
      repeat ((conv => whnf); first | refine Cd.go ?_ | refine ⟨rfl, ?_⟩ | refine rq_dec ⟨.inl rfl, rfl⟩ ?_ | refine rq_dec rfl ?_ | refine ⟨Nat.le_of_ble_eq_true rfl, ?_⟩ | refine ⟨.inl rfl, ?_⟩ | refine ⟨fun _ => ⟨rfl, Nat.le_of_ble_eq_true rfl⟩, ?_⟩ | refine ⟨fun _ => Nat.le_of_ble_eq_true rfl, ?_⟩ | refine ⟨fun h => Bool.noConfusion h, ?_⟩)
      conv => whnf
      refine ⟨[], trivial, rfl, trivial, rfl, ?_⟩
      try subst hk
      repeat' (first | exact trivial | rfl | exact .inl rfl | exact .inr rfl | exact id | exact (fun h => Bool.noConfusion h) | refine And.intro ?_ ?_)
      all_goals simp
    | some ad =>
      refine fn_okX (ob0 := []) [] Tryz.func107 rfl rfl rfl rfl ?_
      repeat ((conv => whnf); first | refine Cd.go ?_ | refine ⟨rfl, ?_⟩ | refine rq_dec ⟨.inl rfl, rfl⟩ ?_ | refine rq_dec rfl ?_ | refine ⟨Nat.le_of_ble_eq_true rfl, ?_⟩ | refine ⟨.inl rfl, ?_⟩ | refine ⟨fun _ => ⟨rfl, Nat.le_of_ble_eq_true rfl⟩, ?_⟩ | refine ⟨fun _ => Nat.le_of_ble_eq_true rfl, ?_⟩ | refine ⟨fun h => Bool.noConfusion h, ?_⟩)
      conv => whnf
      refine ⟨[], trivial, rfl, trivial, rfl, ?_⟩
      try subst hk
      repeat' (first | exact trivial | rfl | exact .inl rfl | exact .inr rfl | exact id | exact (fun h => Bool.noConfusion h) | refine And.intro ?_ ?_)
      all_goals simp
theorem ok185f (rows : List (List V)) (t : Bool) (hl : rows.length * 136 ≤ 140737488355328) : FnC Tryz.prog 185 [] [.lst 15 t rows] (.lst 15 false rows) [] := by
  refine FnC.lst_cases (fun hne => ?_) (fun he a cap => ?_)
  · obtain ⟨r, rs, rfl⟩ := List.exists_cons_of_ne_nil hne
    refine fn_okX (ob0 := []) [] Tryz.func185 rfl rfl rfl rfl ?_
    repeat ((conv => whnf); first | refine Cd.go ?_ | refine ⟨rfl, ?_⟩ | refine rq_dec ⟨.inl rfl, rfl⟩ ?_ | refine rq_dec rfl ?_ | refine ⟨Nat.le_of_ble_eq_true rfl, ?_⟩ | refine ⟨.inl rfl, ?_⟩ | refine ⟨fun _ => ⟨rfl, Nat.le_of_ble_eq_true rfl⟩, ?_⟩ | refine ⟨fun _ => Nat.le_of_ble_eq_true rfl, ?_⟩ | refine ⟨fun h => Bool.noConfusion h, ?_⟩)
    conv => whnf
    first | refine rq_app (by simp only [List.replicate_zero, List.length_nil, Nat.zero_add]; omega) (by simp only [List.replicate_zero, List.length_nil, Nat.zero_add]; exact hl) ?_ | refine rq_dec ⟨by simp only [List.replicate_zero, List.length_nil, Nat.zero_add]; omega, by simp only [List.replicate_zero, List.length_nil, Nat.zero_add]; exact hl⟩ ?_ | refine ⟨by simp only [List.replicate_zero, List.length_nil, Nat.zero_add]; omega, by simp only [List.replicate_zero, List.length_nil, Nat.zero_add]; exact hl, ?_⟩
    repeat ((conv => whnf); first | refine Cd.go ?_ | refine ⟨rfl, ?_⟩ | refine rq_dec ⟨.inl rfl, rfl⟩ ?_ | refine rq_dec rfl ?_ | refine ⟨Nat.le_of_ble_eq_true rfl, ?_⟩ | refine ⟨.inl rfl, ?_⟩ | refine ⟨fun _ => ⟨rfl, Nat.le_of_ble_eq_true rfl⟩, ?_⟩ | refine ⟨fun _ => Nat.le_of_ble_eq_true rfl, ?_⟩ | refine ⟨fun h => Bool.noConfusion h, ?_⟩)
    conv => whnf
    refine ⟨[], trivial, rfl, trivial, rfl, ?_⟩
    try subst hk
    repeat' (first | exact trivial | rfl | exact .inl rfl | exact .inr rfl | exact id | exact (fun h => Bool.noConfusion h) | refine And.intro ?_ ?_)
    all_goals simp
  · subst he
    cases a with
    | none =>
      refine fn_okX (ob0 := []) [] Tryz.func185 rfl rfl rfl rfl ?_
      repeat ((conv => whnf); first | refine Cd.go ?_ | refine ⟨rfl, ?_⟩ | refine rq_dec ⟨.inl rfl, rfl⟩ ?_ | refine rq_dec rfl ?_ | refine ⟨Nat.le_of_ble_eq_true rfl, ?_⟩ | refine ⟨.inl rfl, ?_⟩ | refine ⟨fun _ => ⟨rfl, Nat.le_of_ble_eq_true rfl⟩, ?_⟩ | refine ⟨fun _ => Nat.le_of_ble_eq_true rfl, ?_⟩ | refine ⟨fun h => Bool.noConfusion h, ?_⟩)
      conv => whnf
      refine ⟨[], trivial, rfl, trivial, rfl, ?_⟩
      try subst hk
      repeat' (first | exact trivial | rfl | exact .inl rfl | exact .inr rfl | exact id | exact (fun h => Bool.noConfusion h) | refine And.intro ?_ ?_)
      all_goals simp
    | some ad =>
      refine fn_okX (ob0 := []) [] Tryz.func185 rfl rfl rfl rfl ?_
      repeat ((conv => whnf); first | refine Cd.go ?_ | refine ⟨rfl, ?_⟩ | refine rq_dec ⟨.inl rfl, rfl⟩ ?_ | refine rq_dec rfl ?_ | refine ⟨Nat.le_of_ble_eq_true rfl, ?_⟩ | refine ⟨.inl rfl, ?_⟩ | refine ⟨fun _ => ⟨rfl, Nat.le_of_ble_eq_true rfl⟩, ?_⟩ | refine ⟨fun _ => Nat.le_of_ble_eq_true rfl, ?_⟩ | refine ⟨fun h => Bool.noConfusion h, ?_⟩)
      conv => whnf
      refine ⟨[], trivial, rfl, trivial, rfl, ?_⟩
      try subst hk
      repeat' (first | exact trivial | rfl | exact .inl rfl | exact .inr rfl | exact id | exact (fun h => Bool.noConfusion h) | refine And.intro ?_ ?_)
      all_goals simp
theorem ok186f (rows : List (List V)) (t : Bool) (hl : rows.length * 80 ≤ 140737488355328) : FnC Tryz.prog 186 [] [.lst 9 t rows] (.lst 9 false rows) [] := by
  refine FnC.lst_cases (fun hne => ?_) (fun he a cap => ?_)
  · obtain ⟨r, rs, rfl⟩ := List.exists_cons_of_ne_nil hne
    refine fn_okX (ob0 := []) [] Tryz.func186 rfl rfl rfl rfl ?_
    repeat ((conv => whnf); first | refine Cd.go ?_ | refine ⟨rfl, ?_⟩ | refine rq_dec ⟨.inl rfl, rfl⟩ ?_ | refine rq_dec rfl ?_ | refine ⟨Nat.le_of_ble_eq_true rfl, ?_⟩ | refine ⟨.inl rfl, ?_⟩ | refine ⟨fun _ => ⟨rfl, Nat.le_of_ble_eq_true rfl⟩, ?_⟩ | refine ⟨fun _ => Nat.le_of_ble_eq_true rfl, ?_⟩ | refine ⟨fun h => Bool.noConfusion h, ?_⟩)
    conv => whnf
    first | refine rq_app (by simp only [List.replicate_zero, List.length_nil, Nat.zero_add]; omega) (by simp only [List.replicate_zero, List.length_nil, Nat.zero_add]; exact hl) ?_ | refine rq_dec ⟨by simp only [List.replicate_zero, List.length_nil, Nat.zero_add]; omega, by simp only [List.replicate_zero, List.length_nil, Nat.zero_add]; exact hl⟩ ?_ | refine ⟨by simp only [List.replicate_zero, List.length_nil, Nat.zero_add]; omega, by simp only [List.replicate_zero, List.length_nil, Nat.zero_add]; exact hl, ?_⟩
    repeat ((conv => whnf); first | refine Cd.go ?_ | refine ⟨rfl, ?_⟩ | refine rq_dec ⟨.inl rfl, rfl⟩ ?_ | refine rq_dec rfl ?_ | refine ⟨Nat.le_of_ble_eq_true rfl, ?_⟩ | refine ⟨.inl rfl, ?_⟩ | refine ⟨fun _ => ⟨rfl, Nat.le_of_ble_eq_true rfl⟩, ?_⟩ | refine ⟨fun _ => Nat.le_of_ble_eq_true rfl, ?_⟩ | refine ⟨fun h => Bool.noConfusion h, ?_⟩)
    conv => whnf
    refine ⟨[], trivial, rfl, trivial, rfl, ?_⟩
    try subst hk
    repeat' (first | exact trivial | rfl | exact .inl rfl | exact .inr rfl | exact id | exact (fun h => Bool.noConfusion h) | refine And.intro ?_ ?_)
    all_goals simp
  · subst he
    cases a with
    | none =>
      refine fn_okX (ob0 := []) [] Tryz.func186 rfl rfl rfl rfl ?_
      repeat ((conv => whnf); first | refine Cd.go ?_ | refine ⟨rfl, ?_⟩ | refine rq_dec ⟨.inl rfl, rfl⟩ ?_ | refine rq_dec rfl ?_ | refine ⟨Nat.le_of_ble_eq_true rfl, ?_⟩ | refine ⟨.inl rfl, ?_⟩ | refine ⟨fun _ => ⟨rfl, Nat.le_of_ble_eq_true rfl⟩, ?_⟩ | refine ⟨fun _ => Nat.le_of_ble_eq_true rfl, ?_⟩ | refine ⟨fun h => Bool.noConfusion h, ?_⟩)
      conv => whnf
      refine ⟨[], trivial, rfl, trivial, rfl, ?_⟩
      try subst hk
      repeat' (first | exact trivial | rfl | exact .inl rfl | exact .inr rfl | exact id | exact (fun h => Bool.noConfusion h) | refine And.intro ?_ ?_)
      all_goals simp
    | some ad =>
      refine fn_okX (ob0 := []) [] Tryz.func186 rfl rfl rfl rfl ?_
      repeat ((conv => whnf); first | refine Cd.go ?_ | refine ⟨rfl, ?_⟩ | refine rq_dec ⟨.inl rfl, rfl⟩ ?_ | refine rq_dec rfl ?_ | refine ⟨Nat.le_of_ble_eq_true rfl, ?_⟩ | refine ⟨.inl rfl, ?_⟩ | refine ⟨fun _ => ⟨rfl, Nat.le_of_ble_eq_true rfl⟩, ?_⟩ | refine ⟨fun _ => Nat.le_of_ble_eq_true rfl, ?_⟩ | refine ⟨fun h => Bool.noConfusion h, ?_⟩)
      conv => whnf
      refine ⟨[], trivial, rfl, trivial, rfl, ?_⟩
      try subst hk
      repeat' (first | exact trivial | rfl | exact .inl rfl | exact .inr rfl | exact id | exact (fun h => Bool.noConfusion h) | refine And.intro ?_ ?_)
      all_goals simp
theorem ok187f (rows : List (List V)) (t : Bool) (hl : rows.length * 64 ≤ 140737488355328) : FnC Tryz.prog 187 [] [.lst 6 t rows] (.lst 6 false rows) [] := by
  refine FnC.lst_cases (fun hne => ?_) (fun he a cap => ?_)
  · obtain ⟨r, rs, rfl⟩ := List.exists_cons_of_ne_nil hne
    refine fn_okX (ob0 := []) [] Tryz.func187 rfl rfl rfl rfl ?_
    repeat ((conv => whnf); first | refine Cd.go ?_ | refine ⟨rfl, ?_⟩ | refine rq_dec ⟨.inl rfl, rfl⟩ ?_ | refine rq_dec rfl ?_ | refine ⟨Nat.le_of_ble_eq_true rfl, ?_⟩ | refine ⟨.inl rfl, ?_⟩ | refine ⟨fun _ => ⟨rfl, Nat.le_of_ble_eq_true rfl⟩, ?_⟩ | refine ⟨fun _ => Nat.le_of_ble_eq_true rfl, ?_⟩ | refine ⟨fun h => Bool.noConfusion h, ?_⟩)
    conv => whnf
    first | refine rq_app (by simp only [List.replicate_zero, List.length_nil, Nat.zero_add]; omega) (by simp only [List.replicate_zero, List.length_nil, Nat.zero_add]; exact hl) ?_ | refine rq_dec ⟨by simp only [List.replicate_zero, List.length_nil, Nat.zero_add]; omega, by simp only [List.replicate_zero, List.length_nil, Nat.zero_add]; exact hl⟩ ?_ | refine ⟨by simp only [List.replicate_zero, List.length_nil, Nat.zero_add]; omega, by simp only [List.replicate_zero, List.length_nil, Nat.zero_add]; exact hl, ?_⟩
    repeat ((conv => whnf); first | refine Cd.go ?_ | refine ⟨rfl, ?_⟩ | refine rq_dec ⟨.inl rfl, rfl⟩ ?_ | refine rq_dec rfl ?_ | refine ⟨Nat.le_of_ble_eq_true rfl, ?_⟩ | refine ⟨.inl rfl, ?_⟩ | refine ⟨fun _ => ⟨rfl, Nat.le_of_ble_eq_true rfl⟩, ?_⟩ | refine ⟨fun _ => Nat.le_of_ble_eq_true rfl, ?_⟩ | refine ⟨fun h => Bool.noConfusion h, ?_⟩)
    conv => whnf
    refine ⟨[], trivial, rfl, trivial, rfl, ?_⟩
    try subst hk
    repeat' (first | exact trivial | rfl | exact .inl rfl | exact .inr rfl | exact id | exact (fun h => Bool.noConfusion h) | refine And.intro ?_ ?_)
    all_goals simp
  · subst he
    cases a with
    | none =>
      refine fn_okX (ob0 := []) [] Tryz.func187 rfl rfl rfl rfl ?_
      repeat ((conv => whnf); first | refine Cd.go ?_ | refine ⟨rfl, ?_⟩ | refine rq_dec ⟨.inl rfl, rfl⟩ ?_ | refine rq_dec rfl ?_ | refine ⟨Nat.le_of_ble_eq_true rfl, ?_⟩ | refine ⟨.inl rfl, ?_⟩ | refine ⟨fun _ => ⟨rfl, Nat.le_of_ble_eq_true rfl⟩, ?_⟩ | refine ⟨fun _ => Nat.le_of_ble_eq_true rfl, ?_⟩ | refine ⟨fun h => Bool.noConfusion h, ?_⟩)
      conv => whnf
      refine ⟨[], trivial, rfl, trivial, rfl, ?_⟩
      try subst hk
      repeat' (first | exact trivial | rfl | exact .inl rfl | exact .inr rfl | exact id | exact (fun h => Bool.noConfusion h) | refine And.intro ?_ ?_)
      all_goals simp
    | some ad =>
      refine fn_okX (ob0 := []) [] Tryz.func187 rfl rfl rfl rfl ?_
      repeat ((conv => whnf); first | refine Cd.go ?_ | refine ⟨rfl, ?_⟩ | refine rq_dec ⟨.inl rfl, rfl⟩ ?_ | refine rq_dec rfl ?_ | refine ⟨Nat.le_of_ble_eq_true rfl, ?_⟩ | refine ⟨.inl rfl, ?_⟩ | refine ⟨fun _ => ⟨rfl, Nat.le_of_ble_eq_true rfl⟩, ?_⟩ | refine ⟨fun _ => Nat.le_of_ble_eq_true rfl, ?_⟩ | refine ⟨fun h => Bool.noConfusion h, ?_⟩)
      conv => whnf
      refine ⟨[], trivial, rfl, trivial, rfl, ?_⟩
      try subst hk
      repeat' (first | exact trivial | rfl | exact .inl rfl | exact .inr rfl | exact id | exact (fun h => Bool.noConfusion h) | refine And.intro ?_ ?_)
      all_goals simp
theorem ok188f (rows : List (List V)) (t : Bool) (hl : rows.length * 24 ≤ 140737488355328) : FnC Tryz.prog 188 [] [.lst 3 t rows] (.lst 3 false rows) [] := by
  refine FnC.lst_cases (fun hne => ?_) (fun he a cap => ?_)
  · obtain ⟨r, rs, rfl⟩ := List.exists_cons_of_ne_nil hne
    refine fn_okX (ob0 := []) [] Tryz.func188 rfl rfl rfl rfl ?_
    repeat ((conv => whnf); first | refine Cd.go ?_ | refine ⟨rfl, ?_⟩ | refine rq_dec ⟨.inl rfl, rfl⟩ ?_ | refine rq_dec rfl ?_ | refine ⟨Nat.le_of_ble_eq_true rfl, ?_⟩ | refine ⟨.inl rfl, ?_⟩ | refine ⟨fun _ => ⟨rfl, Nat.le_of_ble_eq_true rfl⟩, ?_⟩ | refine ⟨fun _ => Nat.le_of_ble_eq_true rfl, ?_⟩ | refine ⟨fun h => Bool.noConfusion h, ?_⟩)
    conv => whnf
    first | refine rq_app (by simp only [List.replicate_zero, List.length_nil, Nat.zero_add]; omega) (by simp only [List.replicate_zero, List.length_nil, Nat.zero_add]; exact hl) ?_ | refine rq_dec ⟨by simp only [List.replicate_zero, List.length_nil, Nat.zero_add]; omega, by simp only [List.replicate_zero, List.length_nil, Nat.zero_add]; exact hl⟩ ?_ | refine ⟨by simp only [List.replicate_zero, List.length_nil, Nat.zero_add]; omega, by simp only [List.replicate_zero, List.length_nil, Nat.zero_add]; exact hl, ?_⟩
    repeat ((conv => whnf); first | refine Cd.go ?_ | refine ⟨rfl, ?_⟩ | refine rq_dec ⟨.inl rfl, rfl⟩ ?_ | refine rq_dec rfl ?_ | refine ⟨Nat.le_of_ble_eq_true rfl, ?_⟩ | refine ⟨.inl rfl, ?_⟩ | refine ⟨fun _ => ⟨rfl, Nat.le_of_ble_eq_true rfl⟩, ?_⟩ | refine ⟨fun _ => Nat.le_of_ble_eq_true rfl, ?_⟩ | refine ⟨fun h => Bool.noConfusion h, ?_⟩)
    conv => whnf
    refine ⟨[], trivial, rfl, trivial, rfl, ?_⟩
    try subst hk
    repeat' (first | exact trivial | rfl | exact .inl rfl | exact .inr rfl | exact id | exact (fun h => Bool.noConfusion h) | refine And.intro ?_ ?_)
    all_goals simp
  · subst he
    cases a with
    | none =>
      refine fn_okX (ob0 := []) [] Tryz.func188 rfl rfl rfl rfl ?_
      repeat ((conv => whnf); first | refine Cd.go ?_ | refine ⟨rfl, ?_⟩ | refine rq_dec ⟨.inl rfl, rfl⟩ ?_ | refine rq_dec rfl ?_ | refine ⟨Nat.le_of_ble_eq_true rfl, ?_⟩ | refine ⟨.inl rfl, ?_⟩ | refine ⟨fun _ => ⟨rfl, Nat.le_of_ble_eq_true rfl⟩, ?_⟩ | refine ⟨fun _ => Nat.le_of_ble_eq_true rfl, ?_⟩ | refine ⟨fun h => Bool.noConfusion h, ?_⟩)
      conv => whnf
      refine ⟨[], trivial, rfl, trivial, rfl, ?_⟩
      try subst hk
      repeat' (first | exact trivial | rfl | exact .inl rfl | exact .inr rfl | exact id | exact (fun h => Bool.noConfusion h) | refine And.intro ?_ ?_)
      all_goals simp
    | some ad =>
      refine fn_okX (ob0 := []) [] Tryz.func188 rfl rfl rfl rfl ?_
      repeat ((conv => whnf); first | refine Cd.go ?_ | refine ⟨rfl, ?_⟩ | refine rq_dec ⟨.inl rfl, rfl⟩ ?_ | refine rq_dec rfl ?_ | refine ⟨Nat.le_of_ble_eq_true rfl, ?_⟩ | refine ⟨.inl rfl, ?_⟩ | refine ⟨fun _ => ⟨rfl, Nat.le_of_ble_eq_true rfl⟩, ?_⟩ | refine ⟨fun _ => Nat.le_of_ble_eq_true rfl, ?_⟩ | refine ⟨fun h => Bool.noConfusion h, ?_⟩)
      conv => whnf
      refine ⟨[], trivial, rfl, trivial, rfl, ?_⟩
      try subst hk
      repeat' (first | exact trivial | rfl | exact .inl rfl | exact .inr rfl | exact id | exact (fun h => Bool.noConfusion h) | refine And.intro ?_ ?_)
      all_goals simp
theorem ok189f (rows : List (List V)) (t : Bool) (hl : rows.length * 72 ≤ 140737488355328) : FnC Tryz.prog 189 [] [.lst 3 t rows] (.lst 3 false rows) [] := by
  refine FnC.lst_cases (fun hne => ?_) (fun he a cap => ?_)
  · obtain ⟨r, rs, rfl⟩ := List.exists_cons_of_ne_nil hne
    refine fn_okX (ob0 := []) [] Tryz.func189 rfl rfl rfl rfl ?_
    repeat ((conv => whnf); first | refine Cd.go ?_ | refine ⟨rfl, ?_⟩ | refine rq_dec ⟨.inl rfl, rfl⟩ ?_ | refine rq_dec rfl ?_ | refine ⟨Nat.le_of_ble_eq_true rfl, ?_⟩ | refine ⟨.inl rfl, ?_⟩ | refine ⟨fun _ => ⟨rfl, Nat.le_of_ble_eq_true rfl⟩, ?_⟩ | refine ⟨fun _ => Nat.le_of_ble_eq_true rfl, ?_⟩ | refine ⟨fun h => Bool.noConfusion h, ?_⟩)
    conv => whnf
    first | refine rq_app (by simp only [List.replicate_zero, List.length_nil, Nat.zero_add]; omega) (by simp only [List.replicate_zero, List.length_nil, Nat.zero_add]; exact hl) ?_ | refine rq_dec ⟨by simp only [List.replicate_zero, List.length_nil, Nat.zero_add]; omega, by simp only [List.replicate_zero, List.length_nil, Nat.zero_add]; exact hl⟩ ?_ | refine ⟨by simp only [List.replicate_zero, List.length_nil, Nat.zero_add]; omega, by simp only [List.replicate_zero, List.length_nil, Nat.zero_add]; exact hl, ?_⟩
    repeat ((conv => whnf); first | refine Cd.go ?_ | refine ⟨rfl, ?_⟩ | refine rq_dec ⟨.inl rfl, rfl⟩ ?_ | refine rq_dec rfl ?_ | refine ⟨Nat.le_of_ble_eq_true rfl, ?_⟩ | refine ⟨.inl rfl, ?_⟩ | refine ⟨fun _ => ⟨rfl, Nat.le_of_ble_eq_true rfl⟩, ?_⟩ | refine ⟨fun _ => Nat.le_of_ble_eq_true rfl, ?_⟩ | refine ⟨fun h => Bool.noConfusion h, ?_⟩)
    conv => whnf
    refine ⟨[], trivial, rfl, trivial, rfl, ?_⟩
    try subst hk
    repeat' (first | exact trivial | rfl | exact .inl rfl | exact .inr rfl | exact id | exact (fun h => Bool.noConfusion h) | refine And.intro ?_ ?_)
    all_goals simp
  · subst he
    cases a with
    | none =>
      refine fn_okX (ob0 := []) [] Tryz.func189 rfl rfl rfl rfl ?_
      repeat ((conv => whnf); first | refine Cd.go ?_ | refine ⟨rfl, ?_⟩ | refine rq_dec ⟨.inl rfl, rfl⟩ ?_ | refine rq_dec rfl ?_ | refine ⟨Nat.le_of_ble_eq_true rfl, ?_⟩ | refine ⟨.inl rfl, ?_⟩ | refine ⟨fun _ => ⟨rfl, Nat.le_of_ble_eq_true rfl⟩, ?_⟩ | refine ⟨fun _ => Nat.le_of_ble_eq_true rfl, ?_⟩ | refine ⟨fun h => Bool.noConfusion h, ?_⟩)
      conv => whnf
      refine ⟨[], trivial, rfl, trivial, rfl, ?_⟩
      try subst hk
      repeat' (first | exact trivial | rfl | exact .inl rfl | exact .inr rfl | exact id | exact (fun h => Bool.noConfusion h) | refine And.intro ?_ ?_)
      all_goals simp
    | some ad =>
      refine fn_okX (ob0 := []) [] Tryz.func189 rfl rfl rfl rfl ?_
      repeat ((conv => whnf); first | refine Cd.go ?_ | refine ⟨rfl, ?_⟩ | refine rq_dec ⟨.inl rfl, rfl⟩ ?_ | refine rq_dec rfl ?_ | refine ⟨Nat.le_of_ble_eq_true rfl, ?_⟩ | refine ⟨.inl rfl, ?_⟩ | refine ⟨fun _ => ⟨rfl, Nat.le_of_ble_eq_true rfl⟩, ?_⟩ | refine ⟨fun _ => Nat.le_of_ble_eq_true rfl, ?_⟩ | refine ⟨fun h => Bool.noConfusion h, ?_⟩)
      conv => whnf
      refine ⟨[], trivial, rfl, trivial, rfl, ?_⟩
      try subst hk
      repeat' (first | exact trivial | rfl | exact .inl rfl | exact .inr rfl | exact id | exact (fun h => Bool.noConfusion h) | refine And.intro ?_ ?_)
      all_goals simp
theorem ok190f (rows : List (List V)) (t : Bool) (hl : rows.length * 32 ≤ 140737488355328) : FnC Tryz.prog 190 [] [.lst 5 t rows] (.lst 5 false rows) [] := by
  refine FnC.lst_cases (fun hne => ?_) (fun he a cap => ?_)
  · obtain ⟨r, rs, rfl⟩ := List.exists_cons_of_ne_nil hne
    refine fn_okX (ob0 := []) [] Tryz.func190 rfl rfl rfl rfl ?_
    repeat ((conv => whnf); first | refine Cd.go ?_ | refine ⟨rfl, ?_⟩ | refine rq_dec ⟨.inl rfl, rfl⟩ ?_ | refine rq_dec rfl ?_ | refine ⟨Nat.le_of_ble_eq_true rfl, ?_⟩ | refine ⟨.inl rfl, ?_⟩ | refine ⟨fun _ => ⟨rfl, Nat.le_of_ble_eq_true rfl⟩, ?_⟩ | refine ⟨fun _ => Nat.le_of_ble_eq_true rfl, ?_⟩ | refine ⟨fun h => Bool.noConfusion h, ?_⟩)
    conv => whnf
    first | refine rq_app (by simp only [List.replicate_zero, List.length_nil, Nat.zero_add]; omega) (by simp only [List.replicate_zero, List.length_nil, Nat.zero_add]; exact hl) ?_ | refine rq_dec ⟨by simp only [List.replicate_zero, List.length_nil, Nat.zero_add]; omega, by simp only [List.replicate_zero, List.length_nil, Nat.zero_add]; exact hl⟩ ?_ | refine ⟨by simp only [List.replicate_zero, List.length_nil, Nat.zero_add]; omega, by simp only [List.replicate_zero, List.length_nil, Nat.zero_add]; exact hl, ?_⟩
    repeat ((conv => whnf); first | refine Cd.go ?_ | refine ⟨rfl, ?_⟩ | refine rq_dec ⟨.inl rfl, rfl⟩ ?_ | refine rq_dec rfl ?_ | refine ⟨Nat.le_of_ble_eq_true rfl, ?_⟩ | refine ⟨.inl rfl, ?_⟩ | refine ⟨fun _ => ⟨rfl, Nat.le_of_ble_eq_true rfl⟩, ?_⟩ | refine ⟨fun _ => Nat.le_of_ble_eq_true rfl, ?_⟩ | refine ⟨fun h => Bool.noConfusion h, ?_⟩)
    conv => whnf
    refine ⟨[], trivial, rfl, trivial, rfl, ?_⟩
    try subst hk
    repeat' (first | exact trivial | rfl | exact .inl rfl | exact .inr rfl | exact id | exact (fun h => Bool.noConfusion h) | refine And.intro ?_ ?_)
    all_goals simp
  · subst he
    cases a with
    | none =>
      refine fn_okX (ob0 := []) [] Tryz.func190 rfl rfl rfl rfl ?_
      repeat ((conv => whnf); first | refine Cd.go ?_ | refine ⟨rfl, ?_⟩ | refine rq_dec ⟨.inl rfl, rfl⟩ ?_ | refine rq_dec rfl ?_ | refine ⟨Nat.le_of_ble_eq_true rfl, ?_⟩ | refine ⟨.inl rfl, ?_⟩ | refine ⟨fun _ => ⟨rfl, Nat.le_of_ble_eq_true rfl⟩, ?_⟩ | refine ⟨fun _ => Nat.le_of_ble_eq_true rfl, ?_⟩ | refine ⟨fun h => Bool.noConfusion h, ?_⟩)
      conv => whnf
      refine ⟨[], trivial, rfl, trivial, rfl, ?_⟩
      try subst hk
      repeat' (first | exact trivial | rfl | exact .inl rfl | exact .inr rfl | exact id | exact (fun h => Bool.noConfusion h) | refine And.intro ?_ ?_)
      all_goals simp
    | some ad =>
      refine fn_okX (ob0 := []) [] Tryz.func190 rfl rfl rfl rfl ?_
      repeat ((conv => whnf); first | refine Cd.go ?_ | refine ⟨rfl, ?_⟩ | refine rq_dec ⟨.inl rfl, rfl⟩ ?_ | refine rq_dec rfl ?_ | refine ⟨Nat.le_of_ble_eq_true rfl, ?_⟩ | refine ⟨.inl rfl, ?_⟩ | refine ⟨fun _ => ⟨rfl, Nat.le_of_ble_eq_true rfl⟩, ?_⟩ | refine ⟨fun _ => Nat.le_of_ble_eq_true rfl, ?_⟩ | refine ⟨fun h => Bool.noConfusion h, ?_⟩)
      conv => whnf
      refine ⟨[], trivial, rfl, trivial, rfl, ?_⟩
      try subst hk
      repeat' (first | exact trivial | rfl | exact .inl rfl | exact .inr rfl | exact id | exact (fun h => Bool.noConfusion h) | refine And.intro ?_ ?_)
      all_goals simp
end Go.Proofs.YtmhapcbjjpadnaaGreat

set_option maxRecDepth 40000
namespace Go.Proofs.YtmhapcbjjpadnaaGreat
open Go Go.Sk Go.RowKit Go.Shelf

def laysRepeat_ren : Go.Shelf.Ren := ⟨fun | 105 => 158 | 212 => 254 | 99 => 255 | 165 => 256 | 166 => 257 | 170 => 258 | 169 => 259 | 263 => 321 | 264 => 322 | 206 => 323 | 240 => 324 | 241 => 325 | 276 => 351 | 277 => 352 | n => n, fun | 9 => 9 | 3 => 3 | 4 => 4 | 20 => 20 | 0 => 0 | 46 => 264 | 109 => 265 | 5 => 5 | 72 => 270 | 76 => 273 | 51 => 315 | 146 => 316 | 53 => 114 | 148 => 318 | 70 => 268 | 37 => 106 | 75 => 272 | 127 => 320 | 164 => 333 | 80 => 275 | n => n, fun | n => n⟩
theorem laysRepeat : Go.Proofs.Lays.n105 Tryz.prog laysRepeat_ren where
  mixed := by kernel_rfl
  f99 := Tryz.func255.trans (congrArg some (by kernel_rfl))
  f105 := Tryz.func158.trans (congrArg some (by kernel_rfl))
  f165 := Tryz.func256.trans (congrArg some (by kernel_rfl))
  f166 := Tryz.func257.trans (congrArg some (by kernel_rfl))
  f169 := Tryz.func259.trans (congrArg some (by kernel_rfl))
  f170 := Tryz.func258.trans (congrArg some (by kernel_rfl))
  f206 := Tryz.func323.trans (congrArg some (by kernel_rfl))
  f212 := Tryz.func254.trans (congrArg some (by kernel_rfl))
  f240 := Tryz.func324.trans (congrArg some (by kernel_rfl))
  f241 := Tryz.func325.trans (congrArg some (by kernel_rfl))
  f263 := Tryz.func321.trans (congrArg some (by kernel_rfl))
  f264 := Tryz.func322.trans (congrArg some (by kernel_rfl))
  f276 := Tryz.func351.trans (congrArg some (by kernel_rfl))
  f277 := Tryz.func352.trans (congrArg some (by kernel_rfl))
  t0 := Tryz.underlying0
  a0 := Tryz.isAgg0
  z0 := Tryz.sizeOf0
  v0 := Tryz.zeroValue0
  t3 := Tryz.underlying3
  a3 := Tryz.isAgg3
  z3 := Tryz.sizeOf3
  v3 := Tryz.zeroValue3
  t4 := Tryz.underlying4
  a4 := Tryz.isAgg4
  z4 := Tryz.sizeOf4
  v4 := Tryz.zeroValue4
  t5 := Tryz.underlying5
  a5 := Tryz.isAgg5
  z5 := Tryz.sizeOf5
  v5 := Tryz.zeroValue5
  t9 := Tryz.underlying9
  a9 := Tryz.isAgg9
  z9 := Tryz.sizeOf9
  v9 := Tryz.zeroValue9
  t20 := Tryz.underlying20
  a20 := Tryz.isAgg20
  z20 := Tryz.sizeOf20
  v20 := Tryz.zeroValue20
  t37 := Tryz.underlying106
  a37 := Tryz.isAgg106
  z37 := Tryz.sizeOf106
  v37 := Tryz.zeroValue106
  t46 := Tryz.underlying264
  a46 := Tryz.isAgg264
  z46 := Tryz.sizeOf264
  v46 := Tryz.zeroValue264
  t51 := Tryz.underlying315
  a51 := Tryz.isAgg315
  z51 := Tryz.sizeOf315
  v51 := Tryz.zeroValue315
  t53 := Tryz.underlying114
  a53 := Tryz.isAgg114
  z53 := Tryz.sizeOf114
  v53 := Tryz.zeroValue114
  t70 := Tryz.underlying268
  a70 := Tryz.isAgg268
  z70 := Tryz.sizeOf268
  v70 := Tryz.zeroValue268
  t72 := Tryz.underlying270
  a72 := Tryz.isAgg270
  z72 := Tryz.sizeOf270
  v72 := Tryz.zeroValue270
  t75 := Tryz.underlying272
  a75 := Tryz.isAgg272
  z75 := Tryz.sizeOf272
  v75 := Tryz.zeroValue272
  t76 := Tryz.underlying273
  a76 := Tryz.isAgg273
  z76 := Tryz.sizeOf273
  v76 := Tryz.zeroValue273
  t109 := Tryz.underlying265
  a109 := Tryz.isAgg265
  z109 := Tryz.sizeOf265
  v109 := Tryz.zeroValue265
  t127 := Tryz.underlying320
  a127 := Tryz.isAgg320
  z127 := Tryz.sizeOf320
  v127 := Tryz.zeroValue320
  t146 := Tryz.underlying316
  a146 := Tryz.isAgg316
  z146 := Tryz.sizeOf316
  v146 := Tryz.zeroValue316
  t148 := Tryz.underlying318
  a148 := Tryz.isAgg318
  z148 := Tryz.sizeOf318
  v148 := Tryz.zeroValue318
  t164 := Tryz.underlying333
  a164 := Tryz.isAgg333
  z164 := Tryz.sizeOf333
  v164 := Tryz.zeroValue333
theorem extraRepeat : Builder.Extra Tryz.prog laysRepeat_ren where
  sizeBuilder := by kernel_rfl
  liesBuilder := by kernel_rfl
  t5 := laysRepeat.t5
  a5 := laysRepeat.a5
  z5 := laysRepeat.z5
  v5 := laysRepeat.v5
  infoByte := by kernel_rfl
  cellsByte := by kernel_rfl
  sizeByte := by kernel_rfl
  neB5 := by decide
theorem fRepeat : laysRepeat_ren.f 105 = 158 := by kernel_rfl
def repS (s : ByteArray) (c : Nat) : ByteArray := ⟨(Lib.repeatL s.data.toList c).toArray⟩
theorem ok158 (s : ByteArray) (c : Nat) (hc : c ≤ 9223372036854775807) (hlen : s.size * c ≤ 140737488355328) : FnC Tryz.prog 158 [] [.str s, .int .i64 (c : Int)] (.str (repS s c)) [] := by
  intro U σ w cargs hR hn hargs
  obtain ⟨c0, c1, rfl⟩ : ∃ a b, cargs = #[a, b] := by
    rcases cargs with ⟨L⟩
    match L, hn with
    | [a, b], _ => exact ⟨a, b, rfl⟩
  have a0 := hargs 0 _ c0 rfl rfl
  have a1 := hargs 1 _ c1 rfl rfl
  cases a0
  cases a1
  have key := Any.strings_Repeat laysRepeat extraRepeat s c w hc hlen
  rw [fRepeat] at key
  refine key.mono ?_
  rintro e w' ⟨rfl, hb⟩
  have hk : Keep (fun _ => False) w w' := ⟨hb.os, hb.tape, hb.output, hb.size, fun b h _ => hb.block b h⟩
  exact ⟨_, σ, rfl, hR.of_keep hk, .str _, Grow.of_keep hk⟩
end Go.Proofs.YtmhapcbjjpadnaaGreat

set_option maxRecDepth 40000
namespace Go.Proofs.YtmhapcbjjpadnaaGreat
open Go Go.Sk Go.RowKit

def clnT (f : Nat) : Nat := bif Nat.beq f 107 then 1 else bif Nat.beq f 185 then 15 else bif Nat.beq f 186 then 9 else bif Nat.beq f 187 then 6 else bif Nat.beq f 188 then 3 else bif Nat.beq f 189 then 3 else bif Nat.beq f 190 then 5 else 0
def clnA (own : Bool) (es : Nat) (args : List V) : Option (V × List Sk.Obj) := match args with
  | [.lst _ _ []] => match own with
    | true => some (.sl 0 0 0, [.row es []])
    | false => some (.lst es false [], [])
  | [.lst e _ (x :: xs)] => match own with
    | true => bif Nat.beq e es && Nat.ble (x :: xs).length 100000 then some (.sl 0 0 (x :: xs).length, [.row es (x :: xs)]) else none
    | false => bif Nat.beq e es && Nat.ble (x :: xs).length 100000 then some (.lst es false (x :: xs), []) else none
  | _ => none
theorem clnA_ok {f es : Nat} {own : Bool} (g : ∀ (rows : List (List V)) (t : Bool), rows.length ≤ 100000 → FnC Tryz.prog f [] [.lst es t rows] (.lst es false rows) []) (h : ∀ (rows : List (List V)) (t : Bool), rows.length ≤ 100000 → FnC Tryz.prog f [] [.lst es t rows] (.sl 0 0 rows.length) [.row es rows]) {args : List V} {v : V} {ob1 : List Sk.Obj} (hc : clnA own es args = some (v, ob1)) : FnC Tryz.prog f [] args v ob1 := by
  unfold clnA at hc
  split at hc
  · split at hc
    · cases hc
      exact (h [] false (by simp)).le (.cons .nils .nil) (.refl _) (LeOs.refl _)
    · cases hc
      exact (g [] false (by simp)).le (.cons .nils .nil) (.refl _) (LeOs.refl _)
  · split at hc
    · obtain ⟨hb, he⟩ := bif_some hc
      rw [Bool.and_eq_true] at hb
      cases he
      rw [Nat.eq_of_beq_eq_true hb.1]
      exact h _ _ (Nat.le_of_ble_eq_true hb.2)
    · obtain ⟨hb, he⟩ := bif_some hc
      rw [Bool.and_eq_true] at hb
      cases he
      rw [Nat.eq_of_beq_eq_true hb.1]
      exact g _ _ (Nat.le_of_ble_eq_true hb.2)
  · cases hc
def extB (own : Bool) (f : FuncId) (ob0 : List Sk.Obj) (args : List V) : Option (V × List Sk.Obj) :=
  match ob0 with
  | _ :: _ => none
  | [] => match clnT f with
    | 0 => extA f [] args
    | es + 1 => clnA own (es + 1) args
theorem hextB (own : Bool) (f : FuncId) (ob0 : List Sk.Obj) (args : List V) (v : V) (ob1 : List Sk.Obj) (h : extB own f ob0 args = some (v, ob1)) : FnC Tryz.prog f ob0 args v ob1 := by
  unfold extB at h
  split at h
  · cases h
  · split at h
    · exact hextA _ _ _ _ _ h
    · rename_i es he
      unfold clnT at he
      cases h1 : Nat.beq f 107 with
      | true =>
        obtain rfl := Nat.eq_of_beq_eq_true h1
        have he2 : 1 = es + 1 := by rw [h1] at he; exact he
        rw [← he2] at h
        exact clnA_ok (fun rows t hl => ok107f rows t (by omega)) (fun rows t hl => ok107 rows t (by omega)) h
      | false =>
      rw [h1] at he
      dsimp only [cond_false] at he
      cases h1 : Nat.beq f 185 with
      | true =>
        obtain rfl := Nat.eq_of_beq_eq_true h1
        have he2 : 15 = es + 1 := by rw [h1] at he; exact he
        rw [← he2] at h
        exact clnA_ok (fun rows t hl => ok185f rows t (by omega)) (fun rows t hl => ok185 rows t (by omega)) h
      | false =>
      rw [h1] at he
      dsimp only [cond_false] at he
      cases h1 : Nat.beq f 186 with
      | true =>
        obtain rfl := Nat.eq_of_beq_eq_true h1
        have he2 : 9 = es + 1 := by rw [h1] at he; exact he
        rw [← he2] at h
        exact clnA_ok (fun rows t hl => ok186f rows t (by omega)) (fun rows t hl => ok186 rows t (by omega)) h
      | false =>
      rw [h1] at he
      dsimp only [cond_false] at he
      cases h1 : Nat.beq f 187 with
      | true =>
        obtain rfl := Nat.eq_of_beq_eq_true h1
        have he2 : 6 = es + 1 := by rw [h1] at he; exact he
        rw [← he2] at h
        exact clnA_ok (fun rows t hl => ok187f rows t (by omega)) (fun rows t hl => ok187 rows t (by omega)) h
      | false =>
      rw [h1] at he
      dsimp only [cond_false] at he
      cases h1 : Nat.beq f 188 with
      | true =>
        obtain rfl := Nat.eq_of_beq_eq_true h1
        have he2 : 3 = es + 1 := by rw [h1] at he; exact he
        rw [← he2] at h
        exact clnA_ok (fun rows t hl => ok188f rows t (by omega)) (fun rows t hl => ok188 rows t (by omega)) h
      | false =>
      rw [h1] at he
      dsimp only [cond_false] at he
      cases h1 : Nat.beq f 189 with
      | true =>
        obtain rfl := Nat.eq_of_beq_eq_true h1
        have he2 : 3 = es + 1 := by rw [h1] at he; exact he
        rw [← he2] at h
        exact clnA_ok (fun rows t hl => ok189f rows t (by omega)) (fun rows t hl => ok189 rows t (by omega)) h
      | false =>
      rw [h1] at he
      dsimp only [cond_false] at he
      cases h1 : Nat.beq f 190 with
      | true =>
        obtain rfl := Nat.eq_of_beq_eq_true h1
        have he2 : 5 = es + 1 := by rw [h1] at he; exact he
        rw [← he2] at h
        exact clnA_ok (fun rows t hl => ok190f rows t (by omega)) (fun rows t hl => ok190 rows t (by omega)) h
      | false =>
      rw [h1] at he
      dsimp only [cond_false] at he
      cases he
def extC (own : Bool) (f : FuncId) (ob0 : List Sk.Obj) (args : List V) : Option (V × List Sk.Obj) :=
  match Nat.beq f 158 with
  | false => extB own f ob0 args
  | true => match ob0, args with
    | [], [.str s, .int .i64 (.ofNat c)] => bif Nat.ble c 9223372036854775807 && Nat.ble (s.size * c) 140737488355328 then some (.str (repS s c), []) else none
    | _, _ => none
theorem hextC (own : Bool) (f : FuncId) (ob0 : List Sk.Obj) (args : List V) (v : V) (ob1 : List Sk.Obj) (h : extC own f ob0 args = some (v, ob1)) : FnC Tryz.prog f ob0 args v ob1 := by
  unfold extC at h
  split at h
  · exact hextB _ _ _ _ _ _ h
  · rename_i hf
    obtain rfl := Nat.eq_of_beq_eq_true hf
    split at h
    · obtain ⟨hb, he⟩ := bif_some h
      rw [Bool.and_eq_true] at hb
      cases he
      exact ok158 _ _ (Nat.le_of_ble_eq_true hb.1) (Nat.le_of_ble_eq_true hb.2)
    · cases h
end Go.Proofs.YtmhapcbjjpadnaaGreat

