/- Zone: frames taken and free are all frames. No program in sight. -/
import Derived.Test.YtcifhjkodbaghaaB20
set_option linter.unusedSimpArgs false
set_option linter.unusedVariables false
namespace Go.Proofs.Ytcifhjkodbaghaa
open Go Go.Sk Go.RowKit

def freesZ (l : List Zn) : List Int := l.flatMap (·.free)
def sizeZ (l : List Zn) : Int := sumZ (·.size) l
theorem split_at {l : List Zn} {i : Nat} (h : i < l.length) : l = l.take i ++ l[i] :: l.drop (i + 1) := by
  rw [← List.drop_eq_getElem_cons h, List.take_append_drop]
theorem set_at {l : List Zn} {i : Nat} (h : i < l.length) (z : Zn) : l.set i z = l.take i ++ z :: l.drop (i + 1) := by
  rw [List.set_eq_take_append_cons_drop, if_pos h]
theorem frees_set {l : List Zn} {i : Nat} (h : i < l.length) (z : Zn) : freesZ (l.set i z) = freesZ (l.take i) ++ (z.free ++ freesZ (l.drop (i + 1))) := by
  rw [set_at h, freesZ, freesZ, freesZ, List.flatMap_append, List.flatMap_cons]
theorem frees_at {l : List Zn} {i : Nat} (h : i < l.length) : freesZ l = freesZ (l.take i) ++ (l[i].free ++ freesZ (l.drop (i + 1))) := by
  have := frees_set h l[i]
  rwa [List.set_getElem_self] at this
theorem sumZ_append (g : Zn → Int) : ∀ a b : List Zn, sumZ g (a ++ b) = sumZ g a + sumZ g b
  | [], b => by simp [sumZ]
  | z :: r, b => by have := sumZ_append g r b; simp only [List.cons_append, sumZ, this]; omega
theorem sum_set (g : Zn → Int) {l : List Zn} {i : Nat} (h : i < l.length) (z : Zn) (e : g z = g l[i]) : sumZ g (l.set i z) = sumZ g l := by
  rw [set_at h]
  conv => rhs; rw [split_at h]
  simp only [sumZ_append, sumZ, e]
theorem frees_ex (l : List Zn) : freesZ (l.map exZ) = freesZ l := by rw [freesZ, freesZ, List.flatMap_map]; rfl
theorem size_ex : ∀ l : List Zn, sizeZ (l.map exZ) = sizeZ l
  | [] => rfl
  | z :: r => by have := size_ex r; simp only [sizeZ] at this ⊢; simp only [List.map_cons, sumZ, this]; rfl
theorem freeG_frees : ∀ l : List Zn, sumZ freeG l = (freesZ l).length
  | [] => rfl
  | z :: r => by have := freeG_frees r; simp only [freesZ, List.flatMap_cons, List.length_append] at this ⊢; simp only [sumZ, this, freeG]; omega
theorem seqI_append (a b c : Int) (h1 : a ≤ b) (h2 : b ≤ c) : seqI a b ++ seqI b c = seqI a c := by
  obtain ⟨n, rfl⟩ : ∃ n : Nat, c = b + n := ⟨(c - b).toNat, by omega⟩
  induction n with
  | zero => simp [seqI_nil]
  | succ n ih =>
    rw [show b + ((n + 1 : Nat) : Int) = b + n + 1 by omega, seqI_succ b _ (by omega), seqI_succ a _ (by omega), ← List.append_assoc, ih (by omega)]
theorem newR_frees : ∀ (s : List Int) (f : Int) (l : List Zn), 1 ≤ f ∧ f ≤ 65 → newR f s = some l → freesZ l = seqI f (f + s.foldr (· + ·) 0) ∧ sizeZ l = s.foldr (· + ·) 0 ∧ f ≤ f + s.foldr (· + ·) 0
  | [], f, l, _, h => by obtain rfl : [] = l := Option.some.inj h; refine ⟨?_, rfl, ?_⟩ <;> simp [seqI_nil, freesZ]
  | n :: r, f, l, hf, h => by
    rw [newR] at h
    cases hb : badN f n with
    | true => rw [hb] at h; cases h
    | false =>
      rw [hb, cond_false, Option.map_eq_some_iff] at h
      obtain ⟨l', h1, rfl⟩ := h
      have a := badN_ok hf hb
      obtain ⟨h2, h3, h4⟩ := newR_frees r (f + n) l' (by omega) h1
      refine ⟨?_, ?_, ?_⟩
      · rw [freesZ, List.flatMap_cons]
        show seqI f (f + n) ++ freesZ l' = _
        rw [h2, seqI_append _ _ _ (by omega) (by omega), List.foldr_cons]
        congr 1; omega
      · show n + sizeZ l' = _
        rw [h3, List.foldr_cons]
      · rw [List.foldr_cons]; omega
theorem ChZ.cover : ∀ {l : List Zn} {f : Int}, ChZ f l → ∀ t, f ≤ t → t < f + sizeZ l → ∃ (i : Nat) (h : i < l.length), l[i].first ≤ t ∧ t < l[i].first + l[i].size
  | [], f, _, t, h1, h2 => by simp [sizeZ, sumZ] at h2; omega
  | z :: r, f, h, t, h1, h2 => by
    have e := h.1.first
    by_cases ht : t < f + z.size
    · exact ⟨0, by simp, by simp only [List.getElem_cons_zero]; omega⟩
    · have h2 : t < f + (z.size + sizeZ r) := h2
      obtain ⟨i, hi, h3⟩ := ChZ.cover h.2 t (by omega) (by omega)
      exact ⟨i + 1, by simpa using hi, by simpa using h3⟩
theorem insI_perm (l : List Int) (i : Nat) (x : Int) : (insI l i x).Perm (x :: l) := by
  rw [insI]
  refine List.perm_middle.trans ?_
  rw [List.take_append_drop]
structure OnceI (all : Int) (x : List Zn) (tk : List Int) : Prop where
  chk : checkZ x = true
  len : x.length = 2
  size : sizeZ x = all
  perm : (tk ++ freesZ x).Perm (seqI 1 (1 + all))
theorem OnceI.small {all : Int} {x : List Zn} {tk : List Int} (h : OnceI all x tk) (h0 : 0 ≤ all) : (tk.length : Int) + (freesZ x).length = all := by
  have := h.perm.length_eq
  rw [List.length_append, seqI_len] at this
  omega
theorem seqI_nodup (a b : Int) : (seqI a b).Nodup := (seqI_ok a b).asc.imp fun h => by omega
theorem OnceI.nodup {all : Int} {x : List Zn} {tk : List Int} (h : OnceI all x tk) : (tk ++ freesZ x).Nodup := h.perm.nodup_iff.2 (seqI_nodup _ _)
theorem OnceI.free {all : Int} {x : List Zn} {tk : List Int} (h : OnceI all x tk) (h0 : 0 ≤ all) : freeF x + (tk.length : Int) = all := by
  have := h.small h0
  rw [freeF, h.chk, cond_true, freeG_frees]; omega
theorem OnceI.new {a b : Int} (ha : 1 ≤ a ∧ a ≤ 6) (hb : 1 ≤ b ∧ b ≤ 6) : (newF [a, b]).2 = 0 ∧ OnceI (a + b) (newF [a, b]).1 [] := by
  have h2 : (newF [a, b]).2 = 0 := newF_of (by simp) (fun n hn => by simp at hn; omega) (by simp [List.foldr]; omega)
  obtain ⟨h3, h4, h5⟩ := newF_ok h2
  obtain ⟨h6, h7, -⟩ := newR_frees _ _ _ (by decide) h5
  have e : [a, b].foldr (· + ·) 0 = a + b := by simp
  rw [e] at h6 h7
  refine ⟨h2, h3, h4, h7, ?_⟩
  rw [List.nil_append, h6]
theorem OnceI.set {all : Int} {x base : List Zn} {tk tk' : List Int} (h : OnceI all x tk) (hs : base = x.map exZ) (i : Nat) (hi : i < x.length) (z : Zn) (hz : RZ x[i].first z) (hsz : z.size = x[i].size)
    (hp : (tk' ++ freesZ (x.set i z)).Perm (tk ++ freesZ x)) : OnceI all (base.set i z) tk' := by
  subst hs
  refine ⟨(SimZ.ex x).set_check h.chk i hi hz hsz, by rw [List.length_set, List.length_map]; exact h.len, ?_, ?_⟩
  · have : sizeZ ((x.map exZ).set i z) = sizeZ (x.set i z) := by
      rw [← size_ex ((x.map exZ).set i z), ← size_ex (x.set i z), List.map_set, List.map_set, List.map_map]; rfl
    rw [this, sizeZ, sum_set _ hi z hsz]; exact h.size
  · have : freesZ ((x.map exZ).set i z) = freesZ (x.set i z) := by
      rw [← frees_ex ((x.map exZ).set i z), ← frees_ex (x.set i z), List.map_set, List.map_set, List.map_map]; rfl
    rw [this]
    exact hp.trans h.perm
theorem OnceI.give {all : Int} {x : List Zn} {tk : List Int} (h : OnceI all x tk) (h0 : 0 ≤ all) (i : Nat) (hi : i < tk.length) : (giveG (x.map exZ) x tk[i]).2 = 0 ∧ OnceI all (giveG (x.map exZ) x tk[i]).1 (tk.take i ++ tk.drop (i + 1)) := by
  have hm : tk[i] ∈ tk := List.getElem_mem hi
  have hin := (mem_seqI _ _ _).1 (h.perm.mem_iff.1 (List.mem_append_left _ hm))
  have hc := (check_iff x).1 h.chk
  have hsp : tk = tk.take i ++ tk[i] :: tk.drop (i + 1) := by rw [← List.drop_eq_getElem_cons hi, List.take_append_drop]
  have key := giveG_R (base := x.map exZ) (f := tk[i]) h.chk
  generalize giveG (x.map exZ) x tk[i] = q at key ⊢
  cases key with
  | range hr =>
    obtain ⟨j, hj, h1⟩ := hc.1.cover tk[i] hin.1 (by rw [h.size]; omega)
    exact absurd h1 (hr _ (List.getElem_mem hj))
  | free j hj h1 h2 =>
    have hn := List.nodup_append.1 h.nodup
    refine absurd rfl (hn.2.2 _ hm tk[i] ?_)
    rw [frees_at hj]
    exact List.mem_append_right _ (List.mem_append_left _ h2)
  | ok j hj h1 h2 =>
    refine ⟨rfl, h.set rfl j hj _ ((hc.1.get j hj).1.gave h1 h2) rfl ?_⟩
    have e1 : tk ++ freesZ x = (tk.take i ++ tk[i] :: tk.drop (i + 1)) ++ (freesZ (x.take j) ++ (x[j].free ++ freesZ (x.drop (j + 1)))) := by rw [← hsp, ← frees_at hj]
    rw [frees_set hj, e1]
    generalize tk[i] = f
    have e2 : (gaveZ x[j] f).free.Perm (f :: x[j].free) := insI_perm _ _ _
    generalize freesZ (x.take j) = A
    generalize freesZ (x.drop (j + 1)) = B
    generalize (gaveZ x[j] f).free = C at e2
    generalize x[j].free = D at e2
    generalize tk.take i = T
    generalize tk.drop (i + 1) = R
    have p1 : (A ++ (C ++ B)).Perm (f :: (A ++ (D ++ B))) := (List.Perm.append_left _ (List.Perm.append_right _ e2)).trans List.perm_middle
    have p2 : (T ++ R ++ (A ++ (C ++ B))).Perm (f :: (T ++ R ++ (A ++ (D ++ B)))) := (List.Perm.append_left _ p1).trans List.perm_middle
    refine p2.trans ?_
    exact (List.Perm.append_right (A ++ (D ++ B)) (List.perm_middle (l₁ := T) (l₂ := R) (a := f))).symm
theorem hasZ_urgent (z : Zn) : hasZ true z = true ↔ z.free ≠ [] := by
  simp [hasZ, leastZ, List.length_pos_iff]
theorem OnceI.take {all : Int} {x : List Zn} {tk : List Int} (h : OnceI all x tk) (h0 : 0 ≤ all) :
    (((takeG (x.map exZ) x 1 true).2.2 == 0) = decide ((tk.length : Int) < all)) ∧ ((takeG (x.map exZ) x 1 true).2.2 = 0 → (∀ y ∈ tk, y ≠ (takeG (x.map exZ) x 1 true).2.1) ∧ OnceI all (takeG (x.map exZ) x 1 true).1 (tk ++ [(takeG (x.map exZ) x 1 true).2.1])) := by
  have hs := h.small h0
  have hc := (check_iff x).1 h.chk
  have hl := h.len
  have key := takeG_R (base := x.map exZ) (p := 1) (u := true) h.chk
  generalize takeG (x.map exZ) x 1 true = q at key ⊢
  cases key with
  | range hr => omega
  | full h1 h2 h3 =>
    refine ⟨?_, fun h => by cases h⟩
    have : freesZ x = [] := by
      rw [freesZ, List.flatMap_eq_nil_iff]
      intro z hz
      obtain ⟨j, hj, rfl⟩ := List.getElem_of_mem hz
      have := h3 j (by omega)
      rw [getZ x j hj] at this
      have hnot : ¬ hasZ true x[j] = true := by rw [this]; simp
      rw [hasZ_urgent] at hnot
      simpa using hnot
    rw [this] at hs
    simp only [List.length_nil] at hs
    show (3 == (0 : Int)) = _
    rw [show decide ((tk.length : Int) < all) = false by simp; omega]
    rfl
  | ok h1 h2 i hi hp hz hn =>
    have hne := (hasZ_urgent _).1 hz
    have hpos := List.length_pos_iff.2 hne
    have hfr : x[i].free = x[i].free.getD 0 0 :: x[i].free.drop 1 := by
      rw [← getI _ 0 hpos, ← List.drop_eq_getElem_cons hpos]; rfl
    generalize x[i].free.getD 0 0 = f at hfr ⊢
    have hperm : (tk ++ [f] ++ freesZ (x.set i (takenZ x[i]))).Perm (tk ++ freesZ x) := by
      rw [frees_set hi]
      rw [frees_at hi]
      rw [List.append_assoc]
      refine List.Perm.append_left _ ?_
      have e : x[i].free = f :: (takenZ x[i]).free := hfr
      rw [e]
      show (f :: (freesZ (x.take i) ++ ((takenZ x[i]).free ++ freesZ (x.drop (i + 1))))).Perm (freesZ (x.take i) ++ f :: ((takenZ x[i]).free ++ freesZ (x.drop (i + 1))))
      exact List.perm_middle.symm
    refine ⟨?_, fun _ => ⟨fun y hy e => ?_, h.set rfl i hi _ (hc.1.get i hi).1.taken rfl hperm⟩⟩
    · have : 0 < (freesZ x).length := by rw [frees_at hi, List.length_append, List.length_append]; omega
      show ((0 : Int) == 0) = _
      rw [show decide ((tk.length : Int) < all) = true by simp; omega]
      rfl
    · have hnd := List.nodup_append.1 h.nodup
      refine hnd.2.2 y hy f ?_ e
      rw [frees_at hi, hfr]
      exact List.mem_append_right _ (List.mem_append_left _ (by simp))
end Go.Proofs.Ytcifhjkodbaghaa
