/- Zone: the law ZoneMarks, as a contract. -/
import Derived.Test.YtcifhjkodbaghaaB24
set_option linter.unusedSimpArgs false
set_option linter.unusedVariables false
namespace Go.Proofs.Ytcifhjkodbaghaa
open Go Go.Sk Go.RowKit

/- pagecache/pagecachelaw10.ZoneMarks -/
def rc8 : RC :=
  (.seq
  (.reg [⟨(some 2), none, (.mv (.c (.bool false)))⟩] [])
  (.seq
  (.reg [⟨(some 9), none, (.mv (.t 0))⟩,
    ⟨(some 10), none, (.build [(.lst 0 true []), (.int .i64 0)] [(0, (1, (.t 9)))])⟩,
    ⟨(some 11), none, (.box (.t 10))⟩,
    ⟨(some 12), none, (.call 34 [(.t 11)])⟩,
    ⟨(some 3), none, (.mv (.t 12))⟩] [9, 10, 11, 12])
  (.seq
  (.reg [⟨(some 13), none, (.mv (.t 3))⟩,
    ⟨(some 14), none, (.call 29 [(.t 13)])⟩,
    ⟨(some 4), none, (.mv (.t 14))⟩] [13, 14])
  (.seq
  (.seq
  (.reg [⟨(some 5), none, (.mv (.c (.int .i64 0)))⟩] [])
  (.block 0
   (.loop
    (.seq
    (.seq
    (.reg [⟨(some 15), none, (.mv (.t 5))⟩,
      ⟨(some 16), none, (.mv (.t 3))⟩,
      ⟨(some 17), none, (.len (.t 16))⟩,
      ⟨(some 18), none, (.bin .lss (.t 15) (.t 17))⟩] [15, 16, 17])
    (.cond (.t 18)
     .skip
     (.exit 0)))
    (.seq
    (.block 1
     (.seq
     (.reg [⟨(some 21), none, (.mv (.t 3))⟩,
       ⟨(some 22), none, (.mv (.t 5))⟩,
       ⟨(some 23), none, (.iaddr 6 (.t 21) (.t 22))⟩,
       ⟨(some 24), none, (.faddr 0 (.t 23))⟩,
       ⟨(some 25), none, (.ld false 1 (.t 24))⟩,
       ⟨(some 6), none, (.mv (.t 25))⟩] [21, 22, 23, 24, 25])
     (.block 2
      (.loop
       (.seq
       (.seq
       (.dreg 8192 8624 [⟨(some 26), none, (.mv (.t 6))⟩,
         ⟨(some 27), none, (.mv (.t 3))⟩,
         ⟨(some 28), none, (.mv (.t 5))⟩,
         ⟨(some 29), none, (.iaddr 6 (.t 27) (.t 28))⟩,
         ⟨(some 30), none, (.faddr 0 (.t 29))⟩,
         ⟨(some 31), none, (.ld false 1 (.t 30))⟩,
         ⟨(some 32), none, (.mv (.t 3))⟩,
         ⟨(some 33), none, (.mv (.t 5))⟩,
         ⟨(some 34), none, (.iaddr 6 (.t 32) (.t 33))⟩,
         ⟨(some 35), none, (.faddr 1 (.t 34))⟩,
         ⟨(some 36), none, (.ld false 1 (.t 35))⟩,
         ⟨(some 37), none, (.bin .add (.t 31) (.t 36))⟩,
         ⟨(some 38), none, (.bin .lss (.t 26) (.t 37))⟩,
         ⟨(some 39), none, (.mv (.t 38))⟩,
         ⟨(some 40), (some (39, true)), (.mv (.t 3))⟩,
         ⟨(some 41), (some (39, true)), (.mv (.t 5))⟩,
         ⟨(some 42), (some (39, true)), (.iaddr 6 (.t 40) (.t 41))⟩,
         ⟨(some 43), (some (39, true)), (.faddr 5 (.t 42))⟩,
         ⟨(some 44), (some (39, true)), (.ld false 1 (.t 43))⟩,
         ⟨(some 45), (some (39, true)), (.len (.t 44))⟩,
         ⟨(some 46), (some (39, true)), (.mv (.t 3))⟩,
         ⟨(some 47), (some (39, true)), (.mv (.t 5))⟩,
         ⟨(some 48), (some (39, true)), (.iaddr 6 (.t 46) (.t 47))⟩,
         ⟨(some 49), (some (39, true)), (.faddr 4 (.t 48))⟩,
         ⟨(some 50), (some (39, true)), (.ld false 1 (.t 49))⟩,
         ⟨(some 51), (some (39, true)), (.bin .lss (.t 45) (.t 50))⟩,
         ⟨(some 52), none, (.pick (.t 39) (.t 51) (.c (.bool false)))⟩] [26, 27, 28, 29, 30, 31, 32, 33, 34, 35, 36, 37, 38, 39, 40, 41, 42, 43, 44, 45, 46, 47, 48, 49, 50, 51] [[], [], [], [1, 2], [3, 2, 1], [4, 1, 2, 3], [], [], [6, 7], [8, 7, 6], [9, 6, 7, 8], [5, 3, 2, 1, 4, 10, 8, 7, 6, 9], [0, 11, 9, 6, 7, 8, 10, 4, 1, 2, 3, 5], [12, 5, 3, 2, 1, 4, 10, 8, 7, 6, 9, 11, 0], [13, 0, 11, 9, 6, 7, 8, 10, 4, 1, 2, 3, 5, 12], [13, 0, 11, 9, 6, 7, 8, 10, 4, 1, 2, 3, 5, 12], [14, 15, 13, 0, 11, 9, 6, 7, 8, 10, 4, 1, 2, 3, 5, 12], [16, 15, 14, 13, 0, 11, 9, 6, 7, 8, 10, 4, 1, 2, 3, 5, 12], [17, 14, 15, 16, 13, 0, 11, 9, 6, 7, 8, 10, 4, 1, 2, 3, 5, 12], [18, 16, 15, 14, 17, 13, 0, 11, 9, 6, 7, 8, 10, 4, 1, 2, 3, 5, 12], [13, 0, 11, 9, 6, 7, 8, 10, 4, 1, 2, 3, 5, 12], [13, 0, 11, 9, 6, 7, 8, 10, 4, 1, 2, 3, 5, 12], [20, 21, 13, 0, 11, 9, 6, 7, 8, 10, 4, 1, 2, 3, 5, 12], [22, 21, 20, 13, 0, 11, 9, 6, 7, 8, 10, 4, 1, 2, 3, 5, 12], [23, 20, 21, 22, 13, 0, 11, 9, 6, 7, 8, 10, 4, 1, 2, 3, 5, 12], [19, 17, 14, 15, 16, 18, 24, 22, 21, 20, 23, 13, 0, 11, 9, 6, 7, 8, 10, 4, 1, 2, 3, 5, 12], [25, 12, 5, 3, 2, 1, 4, 10, 8, 7, 6, 9, 11, 0, 13, 23, 20, 21, 22, 24, 18, 16, 15, 14, 17, 19]] [8192, 8208, 8224, 8240, 8256, 8272, 8288, 8304, 8320, 8336, 8352, 8368, 8384, 8400, 8416, 8432, 8448, 8464, 8480, 8496, 8512, 8528, 8544, 8560, 8576, 8592, 8608])
       (.cond (.t 52)
        .skip
        (.exit 2)))
       (.seq
       (.block 3
        (.seq
        (.reg [⟨(some 56), none, (.mv (.t 3))⟩,
          ⟨(some 57), none, (.mv (.t 6))⟩,
          ⟨(some 58), none, (.call 20 [(.t 56), (.t 57)])⟩,
          ⟨(some 55), none, (.mv (.t 58))⟩,
          ⟨(some 59), none, (.extr 0 (.t 55))⟩,
          ⟨(some 60), none, (.extr 1 (.t 55))⟩,
          ⟨(some 7), none, (.mv (.t 59))⟩,
          ⟨(some 8), none, (.mv (.t 60))⟩] [56, 57, 58, 55, 59, 60])
        (.seq
        (.reg [⟨(some 61), none, (.mv (.t 8))⟩,
          ⟨(some 62), none, (.bin .eql (.t 61) (.c (.int .i64 0)))⟩] [61])
        (.cond (.t 62)
         (.seq
         (.seq
         (.reg [⟨(some 63), none, (.mv (.t 7))⟩,
           ⟨(some 64), none, (.len (.t 63))⟩,
           ⟨(some 65), none, (.mv (.t 3))⟩,
           ⟨(some 66), none, (.len (.t 65))⟩,
           ⟨(some 67), none, (.bin .neq (.t 64) (.t 66))⟩] [63, 64, 65, 66])
         (.cond (.t 67)
          (.seq
          (.reg [⟨(some 2), none, (.mv (.c (.bool false)))⟩] [])
          .ret)
          .skip))
         (.seq
         (.reg [⟨(some 68), none, (.mv (.t 7))⟩,
           ⟨(some 3), none, (.mv (.t 68))⟩] [68])
         (.reg [⟨(some 69), none, (.mv (.t 4))⟩,
           ⟨(some 70), none, (.bin .sub (.t 69) (.c (.int .i64 1)))⟩,
           ⟨(some 4), none, (.mv (.t 70))⟩] [69, 70])))
         .skip))))
       (.reg [⟨(some 53), none, (.mv (.t 6))⟩,
         ⟨(some 54), none, (.bin .add (.t 53) (.c (.int .i64 1)))⟩,
         ⟨(some 6), none, (.mv (.t 54))⟩] [53, 54])))))))
    (.reg [⟨(some 19), none, (.mv (.t 5))⟩,
      ⟨(some 20), none, (.bin .add (.t 19) (.c (.int .i64 1)))⟩,
      ⟨(some 5), none, (.mv (.t 20))⟩] [19, 20]))))))
  (.seq
  (.reg [⟨(some 71), none, (.mv (.t 4))⟩,
    ⟨(some 72), none, (.bin .eql (.t 71) (.c (.int .i64 0)))⟩,
    ⟨(some 73), none, (.mv (.t 72))⟩,
    ⟨(some 74), (some (73, true)), (.mv (.t 3))⟩,
    ⟨(some 75), (some (73, true)), (.call 29 [(.t 74)])⟩,
    ⟨(some 76), (some (73, true)), (.bin .eql (.t 75) (.c (.int .i64 0)))⟩,
    ⟨(some 77), none, (.pick (.t 73) (.t 76) (.c (.bool false)))⟩,
    ⟨(some 78), none, (.mv (.t 77))⟩,
    ⟨(some 79), (some (78, true)), (.mv (.t 3))⟩,
    ⟨(some 80), (some (78, true)), (.call 27 [(.t 79)])⟩,
    ⟨(some 81), (some (78, true)), (.un .not (.t 80))⟩,
    ⟨(some 82), none, (.pick (.t 78) (.t 81) (.c (.bool false)))⟩,
    ⟨(some 83), none, (.mv (.t 82))⟩,
    ⟨(some 84), (some (83, true)), (.call 31 [])⟩,
    ⟨(some 85), none, (.pick (.t 83) (.t 84) (.c (.bool false)))⟩,
    ⟨(some 2), none, (.mv (.t 85))⟩] [71, 72, 73, 74, 75, 76, 77, 78, 79, 80, 81, 82, 83, 84, 85])
  .ret)))))
theorem rcq8 : resC Go.Proofs.Try.prog Go.Proofs.Try.f8.ntmps ((Go.Proofs.Try.f8.body).getD .skip) = some (strip rc8) := by kernel_rfl
def rv8 : List RV := [(.tmp 2)]
theorem rvq8 : Go.Proofs.Try.f8.results.toList.mapM (resRV Go.Proofs.Try.prog) = some rv8 := by kernel_rfl

theorem FreeOk.full : ∀ {l : List Int} {lo hi : Int}, FreeOk lo hi l → (∀ t, lo ≤ t → t < hi → t ∈ l) → hi - lo ≤ l.length
  | [], lo, hi, _, ha => by
    by_cases h : lo < hi
    · have := ha lo (Int.le_refl _) h; cases this
    · simp; omega
  | x :: r, lo, hi, h, ha => by
    by_cases hlt : lo < hi
    · have hp := List.pairwise_cons.1 h.asc
      have hx := h.inn x (by simp)
      have e : x = lo := by
        rcases List.mem_cons.1 (ha lo (Int.le_refl _) hlt) with e | e
        · exact e.symm
        · have := hp.1 lo e; omega
      have := FreeOk.full (l := r) (lo := lo + 1) (hi := hi) ⟨hp.2, fun y hy => ⟨by have := hp.1 y hy; omega, (h.inn y (by simp [hy])).2⟩⟩ fun t h1 h2 => by
        rcases List.mem_cons.1 (ha t (by omega) h2) with e' | e'
        · omega
        · exact e'
      simp only [List.length_cons]; omega
    · simp only [List.length_cons]; omega
structure MkI (N : Nat) (x : List Zn) (i : Nat) (f : Int) : Prop where
  chk : checkZ x = true
  len : x.length = N
  done : ∀ (j : Nat) (h : j < x.length), j < i → x[j].high ≤ x[j].free.length
  lo : ∀ h : i < x.length, x[i].first ≤ f ∧ f ≤ x[i].first + x[i].size
  mem : ∀ (h : i < x.length) (t : Int), x[i].first ≤ t → t < f → t ∈ x[i].free
theorem want_in {x : List Zn} (h : checkZ x = true) : 0 ≤ wantF x ∧ wantF x ≤ 4096 := by
  have hl := check_len h
  have hg := check_good h
  rw [wantF, h, cond_true]
  have : ∀ l : List Zn, (∀ z ∈ l, GoodZ z) → 0 ≤ sumZ wantG l ∧ sumZ wantG l ≤ 64 * l.length := by
    intro l
    induction l with
    | nil => intro _; exact ⟨Int.le_refl _, by simp [sumZ]⟩
    | cons z r ih =>
      intro hh
      have h1 := ih fun y hy => hh y (by simp [hy])
      have h2 := wantG_in hh (i := 0) (by simp)
      simp only [List.getElem_cons_zero] at h2
      simp only [sumZ, List.length_cons]
      omega
  have := this x hg
  omega
theorem sum_set_diff (g : Zn → Int) {l : List Zn} {i : Nat} (h : i < l.length) (z : Zn) : sumZ g (l.set i z) = sumZ g l - g l[i] + g z := by
  have e : sumZ g l = sumZ g (l.take i) + (g l[i] + sumZ g (l.drop (i + 1))) := by
    conv => lhs; rw [split_at h]
    rw [sumZ_append]; rfl
  rw [set_at h, sumZ_append, e]
  simp only [sumZ]
  omega
theorem sum_ex (g : Zn → Int) (hg : ∀ z, g (exZ z) = g z) : ∀ l : List Zn, sumZ g (l.map exZ) = sumZ g l
  | [] => rfl
  | z :: r => by simp only [List.map_cons, sumZ, hg, sum_ex g hg r]
theorem MkI.skip {N i : Nat} {x : List Zn} {f : Int} (h : MkI N x i f) (hi : i < x.length) (hf : f < x[i].first + x[i].size) (hm : f ∈ x[i].free) : MkI N x i (f + 1) :=
  ⟨h.chk, h.len, h.done, fun _ => by have := h.lo hi; omega, fun _ t h1 h2 => by
    by_cases e : t = f
    · rw [e]; exact hm
    · exact h.mem hi t h1 (by omega)⟩
theorem MkI.give {N i : Nat} {x : List Zn} {f : Int} (h : MkI N x i f) (hi : i < x.length) (hf : f < x[i].first + x[i].size) (hh : (x[i].free.length : Int) < x[i].high) :
    ((giveG (x.map exZ) x f).2 = 5 ∧ f ∈ x[i].free) ∨
    ((giveG (x.map exZ) x f).2 = 0 ∧ (giveG (x.map exZ) x f).1.length = x.length ∧ MkI N (giveG (x.map exZ) x f).1 i (f + 1) ∧ wantF (giveG (x.map exZ) x f).1 = wantF x - 1) := by
  have hc := ((check_iff x).1 h.chk).1
  have hlo := h.lo hi
  have hchk := giveG_check (f := f) (SimZ.ex x) h.chk
  have same : ∀ j (hj : j < x.length), x[j].first ≤ f ∧ f < x[j].first + x[j].size → j = i := fun j hj h1 => by
    rcases Nat.lt_trichotomy j i with hlt | he | hgt
    · have := hc.apart j i hlt hi; omega
    · exact he
    · have := hc.apart i j hgt hj; omega
  have key := giveG_R (base := x.map exZ) (f := f) h.chk
  generalize giveG (x.map exZ) x f = q at key hchk ⊢
  cases key with
  | range hr => exact absurd ⟨hlo.1, hf⟩ (hr _ (List.getElem_mem hi))
  | free j hj h1 h2 =>
    obtain rfl := same j hj h1
    exact .inl ⟨rfl, h2⟩
  | ok j hj h1 h2 =>
    obtain rfl := same j hj h1
    right
    have hgl : (gaveZ x[j] f).free.length = x[j].free.length + 1 := insI_len _ _ _
    refine ⟨rfl, by simp, ⟨hchk, by simp; exact h.len, fun k hk hkj => ?_, fun _ => ?_, fun _ t h3 h4 => ?_⟩, ?_⟩
    · have hk' : k < x.length := by simpa using hk
      simp only [List.getElem_set_ne (by omega : j ≠ k), List.getElem_map]
      exact h.done k hk' hkj
    · simp only [List.getElem_set_self]
      show x[j].first ≤ f + 1 ∧ f + 1 ≤ x[j].first + x[j].size
      omega
    · simp only [List.getElem_set_self] at h3 ⊢
      show t ∈ insI _ _ _
      rw [mem_insI]
      by_cases e : t = f
      · exact .inl e
      · exact .inr (h.mem hi t h3 (by omega))
    · have hw : wantG (gaveZ x[j] f) = wantG x[j] - 1 := by
        show max 0 (x[j].high - ((gaveZ x[j] f).free.length : Int)) = max 0 (x[j].high - (x[j].free.length : Int)) - 1
        rw [hgl]; omega
      have e : wantG ((x.map exZ)[j]'(by simpa using hj)) = wantG x[j] := by rw [List.getElem_map]; rfl
      show wantF ((x.map exZ).set j (gaveZ x[j] f)) = wantF x - 1
      rw [wantF, wantF, hchk, h.chk, cond_true, cond_true, sum_set_diff _ (by simpa using hj), e, sum_ex _ (fun z => rfl), hw]
      omega
theorem MkI.next {N i : Nat} {x : List Zn} {f : Int} (h : MkI N x i f) (hi : i < x.length) (he : f = x[i].first + x[i].size ∨ x[i].high ≤ x[i].free.length) : ∀ (j : Nat) (h : j < x.length), j < i + 1 → x[j].high ≤ x[j].free.length := fun j hj hji => by
  by_cases e : j = i
  · subst e
    rcases he with he | he
    · have hc := ((check_iff x).1 h.chk).1
      obtain ⟨g, -⟩ := hc.get j hi
      have := g.free.full fun t h1 h2 => h.mem hi t h1 (by omega)
      have := g.marks
      omega
    · exact he
  · exact h.done j hj (by omega)
theorem marks_done {x : List Zn} (h : checkZ x = true) (hd : ∀ (j : Nat) (h : j < x.length), x[j].high ≤ x[j].free.length) : wantF x = 0 ∧ lowF x = false := by
  have hd' : ∀ z ∈ x, z.high ≤ z.free.length := fun z hz => by obtain ⟨j, hj, rfl⟩ := List.getElem_of_mem hz; exact hd j hj
  have hg := check_good h
  constructor
  · rw [wantF, h, cond_true]
    clear hd h
    induction x with
    | nil => rfl
    | cons z r ih =>
      simp only [sumZ]
      rw [ih (fun y hy => hd' y (by simp [hy])) (fun y hy => hg y (by simp [hy]))]
      have := hd' z (by simp)
      simp only [wantG]; omega
  · rw [lowF, h, cond_true, idxF_none]
    · rfl
    · intro z hz
      have := hd' z hz
      have := (hg z hz).marks
      simp only [lowG, decide_eq_false_iff_not]; omega
set_option maxRecDepth 20000 in
set_option maxHeartbeats 1000000 in
theorem ok8 (L : List Int) (hL : (L.length : Int) < 2 ^ 62) : FnC Try.prog 8 [] [.lst 1 false (rowsI L)] (.bool true) [] := by
  refine fn_okC (ob0 := []) (rc := rc8) (rvs := rv8) Try.func8 rfl rcq8 rvq8 (show 1 ≤ _ by decide) ?_
  obtain ⟨hc, hJ⟩ := zonesF_ok L 0 (by omega)
  repeat ((conv => whnf); first | refine Cd.seq ?_ | refine Cd.cut ?_ | refine Cd.reg ?_ | refine Cd.block ?_ | refine Cd.cond ?_ | refine Cd.dreg ?_ | refine Cd.skip ?_ | refine Cd.ret ?_ | refine Cd.exit ?_ | refine Cd.loop ?_ | refine ⟨rfl, ?_⟩ | refine ⟨Nat.le_of_ble_eq_true rfl, ?_⟩ | refine ⟨.inl rfl, ?_⟩ | refine ⟨fun h => Bool.noConfusion h, ?_⟩ | refine .inr ⟨fun _ => ⟨[0], _, _, _, ok16n L _ _ hL (by omega) (by omega) (by omega), ⟨rfl, rfl, trivial⟩, rfl, rfl, rfl, rfl, ?_⟩, (by intro h; cases h)⟩ | refine .inr ⟨fun _ => ⟨[0], _, _, _, ok34 L _ hL (by omega), ⟨rfl, rfl, trivial⟩, rfl, rfl, rfl, rfl, ?_⟩, (by intro h; cases h)⟩)
  conv => whnf
  refine .inr ⟨fun _ => ⟨[0], _, _, _, ok34 L 0 hL (by omega), ⟨rfl, rfl, trivial⟩, rfl, rfl, rfl, rfl, ?_⟩, (by intro h; cases h)⟩
  generalize (zonesF L 0).1 = x at hc ⊢
  generalize (zonesF L 0).2 = J at hJ ⊢
  repeat ((conv => whnf); first | refine Cd.seq ?_ | refine Cd.cut ?_ | refine Cd.reg ?_ | refine Cd.block ?_ | refine Cd.cond ?_ | refine Cd.dreg ?_ | refine Cd.skip ?_ | refine Cd.ret ?_ | refine Cd.exit ?_ | refine Cd.loop ?_ | refine ⟨rfl, ?_⟩ | refine ⟨Nat.le_of_ble_eq_true rfl, ?_⟩ | refine ⟨.inl rfl, ?_⟩ | refine ⟨fun h => Bool.noConfusion h, ?_⟩ | refine .inl ⟨_, fun _ => ⟨purA rfl, (by first | exact ok29 x false (check_small hc))⟩, .inl rfl, ?_⟩ | refine .inr ⟨fun _ => ⟨[0], _, _, _, ok16n L _ _ hL (by omega) (by omega) (by omega), ⟨rfl, rfl, trivial⟩, rfl, rfl, rfl, rfl, ?_⟩, (by intro h; cases h)⟩ | refine .inr ⟨fun _ => ⟨[0], _, _, _, ok34 L _ hL (by omega), ⟨rfl, rfl, trivial⟩, rfl, rfl, rfl, rfl, ?_⟩, (by intro h; cases h)⟩)
  conv => whnf
  refine ⟨Nat × List Zn, fun p => (p.1 ≤ p.2.length ∧ checkZ p.2 = true) ∧ ∀ (j : Nat) (h : j < p.2.length), j < p.1 → p.2[j].high ≤ p.2[j].free.length, fun p => ⟨[(3, ⟨[], true, .lst 6 false (rowsZ p.2)⟩), (4, ⟨[], true, .int .i64 (wantF p.2)⟩), (5, ⟨[], true, .int .i64 (p.1 : Int)⟩)], [], 0⟩, fun p => p.2.length - p.1, ⟨(0, x), ⟨⟨by simp, hc⟩, fun j h h' => by omega⟩, ?_⟩, fun p hp => ?_⟩
  · refine viewI [] rfl rfl ?_ rfl ?_ rfl ?_
    repeat' (first | exact trivial | rfl | exact .inl rfl | exact .inr rfl | exact id | exact (fun h => Bool.noConfusion h) | refine And.intro ?_ ?_)
  clear hc
  obtain ⟨i, x0⟩ := p
  obtain ⟨⟨hp1, hc0⟩, hd0⟩ := hp
  dsimp only at hp1 hc0 hd0 ⊢
  have hln := check_len hc0
  repeat ((conv => whnf); first | refine Cd.seq ?_ | refine Cd.cut ?_ | refine Cd.reg ?_ | refine Cd.block ?_ | refine Cd.cond ?_ | refine Cd.dreg ?_ | refine Cd.skip ?_ | refine Cd.ret ?_ | refine Cd.exit ?_ | refine Cd.loop ?_ | refine ⟨rfl, ?_⟩ | refine ⟨Nat.le_of_ble_eq_true rfl, ?_⟩ | refine ⟨.inl rfl, ?_⟩ | refine ⟨fun h => Bool.noConfusion h, ?_⟩ | refine .inr ⟨fun _ => ⟨[0], _, _, _, ok16n L _ _ hL (by omega) (by omega) (by omega), ⟨rfl, rfl, trivial⟩, rfl, rfl, rfl, rfl, ?_⟩, (by intro h; cases h)⟩ | refine .inr ⟨fun _ => ⟨[0], _, _, _, ok34 L _ hL (by omega), ⟨rfl, rfl, trivial⟩, rfl, rfl, rfl, rfl, ?_⟩, (by intro h; cases h)⟩)
  conv => whnf
  rw [rowsZ_len]
  refine ⟨fun h1 => ?_, fun h1 => ?_⟩ <;> try simp only [Bool.cond_true_left, Bool.cond_false_right, Bool.not_eq_true', Bool.not_eq_false', Bool.not_not] at h1
  · have hix0 : i < x0.length := by simp at h1; omega
    have hM0 : MkI x0.length x0 i x0[i].first := ⟨hc0, rfl, hd0, fun _ => by have := (((check_iff x0).1 hc0).1.get i hix0).1.size; omega, fun _ t h1 h2 => by omega⟩
    repeat ((conv => whnf); first | refine Cd.seq ?_ | refine Cd.cut ?_ | refine Cd.reg ?_ | refine Cd.block ?_ | refine Cd.cond ?_ | refine Cd.dreg ?_ | refine Cd.skip ?_ | refine Cd.ret ?_ | refine Cd.exit ?_ | refine Cd.loop ?_ | refine ⟨rfl, ?_⟩ | refine ⟨Nat.le_of_ble_eq_true rfl, ?_⟩ | refine ⟨.inl rfl, ?_⟩ | refine ⟨fun h => Bool.noConfusion h, ?_⟩ | refine .inr ⟨fun _ => ⟨[0], _, _, _, ok16n L _ _ hL (by omega) (by omega) (by omega), ⟨rfl, rfl, trivial⟩, rfl, rfl, rfl, rfl, ?_⟩, (by intro h; cases h)⟩ | refine .inr ⟨fun _ => ⟨[0], _, _, _, ok34 L _ hL (by omega), ⟨rfl, rfl, trivial⟩, rfl, rfl, rfl, rfl, ?_⟩, (by intro h; cases h)⟩)
    conv => whnf
    refine ⟨fun _ => ⟨rfl, by omega, by rw [rowsZ_len]; omega⟩, ?_⟩
    rw [Int.toNat_natCast, rowsZ_get x0 i hix0]
    repeat ((conv => whnf); first | refine Cd.seq ?_ | refine Cd.cut ?_ | refine Cd.reg ?_ | refine Cd.block ?_ | refine Cd.cond ?_ | refine Cd.dreg ?_ | refine Cd.skip ?_ | refine Cd.ret ?_ | refine Cd.exit ?_ | refine Cd.loop ?_ | refine ⟨rfl, ?_⟩ | refine ⟨Nat.le_of_ble_eq_true rfl, ?_⟩ | refine ⟨.inl rfl, ?_⟩ | refine ⟨fun h => Bool.noConfusion h, ?_⟩ | refine .inr ⟨fun _ => ⟨[0], _, _, _, ok16n L _ _ hL (by omega) (by omega) (by omega), ⟨rfl, rfl, trivial⟩, rfl, rfl, rfl, rfl, ?_⟩, (by intro h; cases h)⟩ | refine .inr ⟨fun _ => ⟨[0], _, _, _, ok34 L _ hL (by omega), ⟨rfl, rfl, trivial⟩, rfl, rfl, rfl, rfl, ?_⟩, (by intro h; cases h)⟩)
    conv => whnf
    refine ⟨List Zn × Int, fun p => MkI x0.length p.1 i p.2, fun p => ⟨[(3, ⟨[], true, .lst 6 false (rowsZ p.1)⟩), (4, ⟨[], true, .int .i64 (wantF p.1)⟩), (5, ⟨[], true, .int .i64 (i : Int)⟩), (6, ⟨[], true, .int .i64 p.2⟩)], [], 0⟩, fun p => (65 - p.2).toNat, ⟨(x0, x0[i].first), hM0, ?_⟩, fun p hp => ?_⟩
    · refine viewI [] rfl rfl ?_ rfl ?_ rfl ?_
      repeat' (first | exact trivial | rfl | exact .inl rfl | exact .inr rfl | exact id | exact (fun h => Bool.noConfusion h) | refine And.intro ?_ ?_)
    obtain ⟨x, f⟩ := p
    have hM : MkI x0.length x i f := hp
    clear hp
    dsimp only
    have hxl := hM.len
    have hix : i < x.length := by omega
    have hc := hM.chk
    have hch := ((check_iff x).1 hc).1
    obtain ⟨g, hfi⟩ := hch.get i hix
    have hst := g.stop
    have hsz := g.size
    have hlo := hM.lo hix
    have hsm := check_small hc
    have hwf := want_in hc
    repeat ((conv => whnf); first | refine Cd.seq ?_ | refine Cd.cut ?_ | refine Cd.reg ?_ | refine Cd.block ?_ | refine Cd.cond ?_ | refine Cd.dreg ?_ | refine Cd.skip ?_ | refine Cd.ret ?_ | refine Cd.exit ?_ | refine Cd.loop ?_ | refine ⟨rfl, ?_⟩ | refine ⟨Nat.le_of_ble_eq_true rfl, ?_⟩ | refine ⟨.inl rfl, ?_⟩ | refine ⟨fun h => Bool.noConfusion h, ?_⟩ | refine .inr ⟨fun _ => ⟨[0], _, _, _, ok16n L _ _ hL (by omega) (by omega) (by omega), ⟨rfl, rfl, trivial⟩, rfl, rfl, rfl, rfl, ?_⟩, (by intro h; cases h)⟩ | refine .inr ⟨fun _ => ⟨[0], _, _, _, ok34 L _ hL (by omega), ⟨rfl, rfl, trivial⟩, rfl, rfl, rfl, rfl, ?_⟩, (by intro h; cases h)⟩)
    conv => whnf
    refine ⟨fun _ => ⟨rfl, by omega, by rw [rowsZ_len]; omega⟩, ?_⟩
    rw [Int.toNat_natCast, rowsZ_get x i hix]
    repeat ((conv => whnf); first | refine Cd.seq ?_ | refine Cd.cut ?_ | refine Cd.reg ?_ | refine Cd.block ?_ | refine Cd.cond ?_ | refine Cd.dreg ?_ | refine Cd.skip ?_ | refine Cd.ret ?_ | refine Cd.exit ?_ | refine Cd.loop ?_ | refine ⟨rfl, ?_⟩ | refine ⟨Nat.le_of_ble_eq_true rfl, ?_⟩ | refine ⟨.inl rfl, ?_⟩ | refine ⟨fun h => Bool.noConfusion h, ?_⟩ | refine .inr ⟨fun _ => ⟨[0], _, _, _, ok16n L _ _ hL (by omega) (by omega) (by omega), ⟨rfl, rfl, trivial⟩, rfl, rfl, rfl, rfl, ?_⟩, (by intro h; cases h)⟩ | refine .inr ⟨fun _ => ⟨[0], _, _, _, ok34 L _ hL (by omega), ⟨rfl, rfl, trivial⟩, rfl, rfl, rfl, rfl, ?_⟩, (by intro h; cases h)⟩)
    conv => whnf
    refine ⟨fun _ => ⟨rfl, by omega, by rw [rowsZ_len]; omega⟩, ?_⟩
    rw [Int.toNat_natCast, rowsZ_get x i hix]
    repeat ((conv => whnf); first | refine Cd.seq ?_ | refine Cd.cut ?_ | refine Cd.reg ?_ | refine Cd.block ?_ | refine Cd.cond ?_ | refine Cd.dreg ?_ | refine Cd.skip ?_ | refine Cd.ret ?_ | refine Cd.exit ?_ | refine Cd.loop ?_ | refine ⟨rfl, ?_⟩ | refine ⟨Nat.le_of_ble_eq_true rfl, ?_⟩ | refine ⟨.inl rfl, ?_⟩ | refine ⟨fun h => Bool.noConfusion h, ?_⟩ | refine .inr ⟨fun _ => ⟨[0], _, _, _, ok16n L _ _ hL (by omega) (by omega) (by omega), ⟨rfl, rfl, trivial⟩, rfl, rfl, rfl, rfl, ?_⟩, (by intro h; cases h)⟩ | refine .inr ⟨fun _ => ⟨[0], _, _, _, ok34 L _ hL (by omega), ⟨rfl, rfl, trivial⟩, rfl, rfl, rfl, rfl, ?_⟩, (by intro h; cases h)⟩)
    conv => whnf
    refine ⟨fun _ => ⟨rfl, by omega, by rw [rowsZ_len]; omega⟩, ?_⟩
    rw [Int.toNat_natCast, rowsZ_get x i hix]
    repeat ((conv => whnf); first | refine Cd.seq ?_ | refine Cd.cut ?_ | refine Cd.reg ?_ | refine Cd.block ?_ | refine Cd.cond ?_ | refine Cd.dreg ?_ | refine Cd.skip ?_ | refine Cd.ret ?_ | refine Cd.exit ?_ | refine Cd.loop ?_ | refine ⟨rfl, ?_⟩ | refine ⟨Nat.le_of_ble_eq_true rfl, ?_⟩ | refine ⟨.inl rfl, ?_⟩ | refine ⟨fun h => Bool.noConfusion h, ?_⟩ | refine .inr ⟨fun _ => ⟨[0], _, _, _, ok16n L _ _ hL (by omega) (by omega) (by omega), ⟨rfl, rfl, trivial⟩, rfl, rfl, rfl, rfl, ?_⟩, (by intro h; cases h)⟩ | refine .inr ⟨fun _ => ⟨[0], _, _, _, ok34 L _ hL (by omega), ⟨rfl, rfl, trivial⟩, rfl, rfl, rfl, rfl, ?_⟩, (by intro h; cases h)⟩)
    conv => whnf
    refine ⟨fun _ => ⟨rfl, by omega, by rw [rowsZ_len]; omega⟩, ?_⟩
    rw [Int.toNat_natCast, rowsZ_get x i hix]
    repeat ((conv => whnf); first | refine Cd.seq ?_ | refine Cd.cut ?_ | refine Cd.reg ?_ | refine Cd.block ?_ | refine Cd.cond ?_ | refine Cd.dreg ?_ | refine Cd.skip ?_ | refine Cd.ret ?_ | refine Cd.exit ?_ | refine Cd.loop ?_ | refine ⟨rfl, ?_⟩ | refine ⟨Nat.le_of_ble_eq_true rfl, ?_⟩ | refine ⟨.inl rfl, ?_⟩ | refine ⟨fun h => Bool.noConfusion h, ?_⟩ | refine .inr ⟨fun _ => ⟨[0], _, _, _, ok16n L _ _ hL (by omega) (by omega) (by omega), ⟨rfl, rfl, trivial⟩, rfl, rfl, rfl, rfl, ?_⟩, (by intro h; cases h)⟩ | refine .inr ⟨fun _ => ⟨[0], _, _, _, ok34 L _ hL (by omega), ⟨rfl, rfl, trivial⟩, rfl, rfl, rfl, rfl, ?_⟩, (by intro h; cases h)⟩)
    conv => whnf
    rw [rowsI_len, wrapI (n := x[i].first + x[i].size) (by omega) (by omega)]
    refine ⟨fun h2 => ?_, fun h2 => ?_⟩ <;> try simp only [Bool.cond_true_left, Bool.cond_false_right, Bool.not_eq_true', Bool.not_eq_false', Bool.not_not] at h2
    · have h2 : (decide (f < x[i].first + x[i].size) && decide ((x[i].free.length : Int) < x[i].high)) = true := by simpa using h2
      simp only [Bool.and_eq_true, decide_eq_true_eq] at h2
      have key := hM.give hix h2.1 h2.2
      repeat ((conv => whnf); first | refine Cd.seq ?_ | refine Cd.cut ?_ | refine Cd.reg ?_ | refine Cd.block ?_ | refine Cd.cond ?_ | refine Cd.dreg ?_ | refine Cd.skip ?_ | refine Cd.ret ?_ | refine Cd.exit ?_ | refine Cd.loop ?_ | refine ⟨rfl, ?_⟩ | refine ⟨Nat.le_of_ble_eq_true rfl, ?_⟩ | refine ⟨.inl rfl, ?_⟩ | refine ⟨fun h => Bool.noConfusion h, ?_⟩ | refine .inl ⟨_, fun _ => ⟨purA rfl, (by first | exact ok20 x false f hsm)⟩, .inl rfl, ?_⟩ | refine .inr ⟨fun _ => ⟨[0], _, _, _, ok16n L _ _ hL (by omega) (by omega) (by omega), ⟨rfl, rfl, trivial⟩, rfl, rfl, rfl, rfl, ?_⟩, (by intro h; cases h)⟩ | refine .inr ⟨fun _ => ⟨[0], _, _, _, ok34 L _ hL (by omega), ⟨rfl, rfl, trivial⟩, rfl, rfl, rfl, rfl, ?_⟩, (by intro h; cases h)⟩)
      conv => whnf
      generalize giveG (x.map exZ) x f = q at key ⊢
      obtain ⟨y, e⟩ := q
      dsimp only at key ⊢
      have hw6 : IntKind.i64.wrap (f + 1) = f + 1 := wrapI (by omega) (by omega)
      refine ⟨fun h3 => ?_, fun h3 => ?_⟩ <;> try simp only [Bool.cond_true_left, Bool.cond_false_right, Bool.not_eq_true', Bool.not_eq_false', Bool.not_not] at h3
      · have h3 : e = 0 := by simpa using h3
        obtain ⟨-, k1, k2, k3⟩ := key.resolve_left fun h => by omega
        repeat ((conv => whnf); first | refine Cd.seq ?_ | refine Cd.cut ?_ | refine Cd.reg ?_ | refine Cd.block ?_ | refine Cd.cond ?_ | refine Cd.dreg ?_ | refine Cd.skip ?_ | refine Cd.ret ?_ | refine Cd.exit ?_ | refine Cd.loop ?_ | refine ⟨rfl, ?_⟩ | refine ⟨Nat.le_of_ble_eq_true rfl, ?_⟩ | refine ⟨.inl rfl, ?_⟩ | refine ⟨fun h => Bool.noConfusion h, ?_⟩ | refine .inr ⟨fun _ => ⟨[0], _, _, _, ok16n L _ _ hL (by omega) (by omega) (by omega), ⟨rfl, rfl, trivial⟩, rfl, rfl, rfl, rfl, ?_⟩, (by intro h; cases h)⟩ | refine .inr ⟨fun _ => ⟨[0], _, _, _, ok34 L _ hL (by omega), ⟨rfl, rfl, trivial⟩, rfl, rfl, rfl, rfl, ?_⟩, (by intro h; cases h)⟩)
        conv => whnf
        rw [rowsZ_len, rowsZ_len, k1]
        refine ⟨fun h4 => ?_, fun h4 => ?_⟩ <;> try simp only [Bool.cond_true_left, Bool.cond_false_right, Bool.not_eq_true', Bool.not_eq_false', Bool.not_not] at h4
        · simp at h4
        repeat ((conv => whnf); first | refine Cd.seq ?_ | refine Cd.cut ?_ | refine Cd.reg ?_ | refine Cd.block ?_ | refine Cd.cond ?_ | refine Cd.dreg ?_ | refine Cd.skip ?_ | refine Cd.ret ?_ | refine Cd.exit ?_ | refine Cd.loop ?_ | refine ⟨rfl, ?_⟩ | refine ⟨Nat.le_of_ble_eq_true rfl, ?_⟩ | refine ⟨.inl rfl, ?_⟩ | refine ⟨fun h => Bool.noConfusion h, ?_⟩ | refine .inr ⟨fun _ => ⟨[0], _, _, _, ok16n L _ _ hL (by omega) (by omega) (by omega), ⟨rfl, rfl, trivial⟩, rfl, rfl, rfl, rfl, ?_⟩, (by intro h; cases h)⟩ | refine .inr ⟨fun _ => ⟨[0], _, _, _, ok34 L _ hL (by omega), ⟨rfl, rfl, trivial⟩, rfl, rfl, rfl, rfl, ?_⟩, (by intro h; cases h)⟩)
        conv => whnf
        rw [hw6, wrapI (n := wantF x - 1) (by omega) (by omega), ← k3]
        refine ⟨(y, f + 1), k2, ?_, by show (65 - (f + 1)).toNat < (65 - f).toNat; omega⟩
        refine viewI [] rfl rfl ?_ rfl ?_ rfl ?_
        repeat' (first | exact trivial | rfl | exact .inl rfl | exact .inr rfl | exact id | exact (fun h => Bool.noConfusion h) | refine And.intro ?_ ?_)
      have h3 : e ≠ 0 := by simpa using h3
      obtain ⟨-, k1⟩ := key.resolve_right fun h => h3 h.1
      repeat ((conv => whnf); first | refine Cd.seq ?_ | refine Cd.cut ?_ | refine Cd.reg ?_ | refine Cd.block ?_ | refine Cd.cond ?_ | refine Cd.dreg ?_ | refine Cd.skip ?_ | refine Cd.ret ?_ | refine Cd.exit ?_ | refine Cd.loop ?_ | refine ⟨rfl, ?_⟩ | refine ⟨Nat.le_of_ble_eq_true rfl, ?_⟩ | refine ⟨.inl rfl, ?_⟩ | refine ⟨fun h => Bool.noConfusion h, ?_⟩ | refine .inr ⟨fun _ => ⟨[0], _, _, _, ok16n L _ _ hL (by omega) (by omega) (by omega), ⟨rfl, rfl, trivial⟩, rfl, rfl, rfl, rfl, ?_⟩, (by intro h; cases h)⟩ | refine .inr ⟨fun _ => ⟨[0], _, _, _, ok34 L _ hL (by omega), ⟨rfl, rfl, trivial⟩, rfl, rfl, rfl, rfl, ?_⟩, (by intro h; cases h)⟩)
      conv => whnf
      rw [hw6]
      refine ⟨(x, f + 1), hM.skip hix h2.1 k1, ?_, by show (65 - (f + 1)).toNat < (65 - f).toNat; omega⟩
      refine viewI [] rfl rfl ?_ rfl ?_ rfl ?_
      repeat' (first | exact trivial | rfl | exact .inl rfl | exact .inr rfl | exact id | exact (fun h => Bool.noConfusion h) | refine And.intro ?_ ?_)
    have h2 : (decide (f < x[i].first + x[i].size) && decide ((x[i].free.length : Int) < x[i].high)) = false := by simpa using h2
    simp only [Bool.and_eq_false_iff, decide_eq_false_iff_not] at h2
    have hd := hM.next hix (by rcases h2 with h2 | h2; · left; omega
                               · right; omega)
    repeat ((conv => whnf); first | refine Cd.seq ?_ | refine Cd.cut ?_ | refine Cd.reg ?_ | refine Cd.block ?_ | refine Cd.cond ?_ | refine Cd.dreg ?_ | refine Cd.skip ?_ | refine Cd.ret ?_ | refine Cd.exit ?_ | refine Cd.loop ?_ | refine ⟨rfl, ?_⟩ | refine ⟨Nat.le_of_ble_eq_true rfl, ?_⟩ | refine ⟨.inl rfl, ?_⟩ | refine ⟨fun h => Bool.noConfusion h, ?_⟩ | refine .inr ⟨fun _ => ⟨[0], _, _, _, ok16n L _ _ hL (by omega) (by omega) (by omega), ⟨rfl, rfl, trivial⟩, rfl, rfl, rfl, rfl, ?_⟩, (by intro h; cases h)⟩ | refine .inr ⟨fun _ => ⟨[0], _, _, _, ok34 L _ hL (by omega), ⟨rfl, rfl, trivial⟩, rfl, rfl, rfl, rfl, ?_⟩, (by intro h; cases h)⟩)
    conv => whnf
    rw [wrapI (n := (i : Int) + 1) (by omega) (by omega), show ((i : Int) + 1) = ((i + 1 : Nat) : Int) by omega]
    refine ⟨(i + 1, x), ⟨⟨by show i + 1 ≤ x.length; omega, hc⟩, hd⟩, ?_, by show x.length - (i + 1) < x0.length - i; omega⟩
    refine viewI [] rfl rfl ?_ rfl ?_ rfl ?_
    repeat' (first | exact trivial | rfl | exact .inl rfl | exact .inr rfl | exact id | exact (fun h => Bool.noConfusion h) | refine And.intro ?_ ?_)
  have h1 : i = x0.length := by simp at h1; omega
  obtain ⟨w1, w2⟩ := marks_done hc0 fun j hj => hd0 j hj (by omega)
  rw [w1]
  repeat ((conv => whnf); first | refine Cd.seq ?_ | refine Cd.cut ?_ | refine Cd.reg ?_ | refine Cd.block ?_ | refine Cd.cond ?_ | refine Cd.dreg ?_ | refine Cd.skip ?_ | refine Cd.ret ?_ | refine Cd.exit ?_ | refine Cd.loop ?_ | refine ⟨rfl, ?_⟩ | refine ⟨Nat.le_of_ble_eq_true rfl, ?_⟩ | refine ⟨.inl rfl, ?_⟩ | refine ⟨fun h => Bool.noConfusion h, ?_⟩ | refine .inl ⟨_, fun _ => ⟨purA rfl, (by first | exact ok29 x0 false (check_small hc0))⟩, .inl rfl, ?_⟩ | refine .inr ⟨fun _ => ⟨[0], _, _, _, ok16n L _ _ hL (by omega) (by omega) (by omega), ⟨rfl, rfl, trivial⟩, rfl, rfl, rfl, rfl, ?_⟩, (by intro h; cases h)⟩ | refine .inr ⟨fun _ => ⟨[0], _, _, _, ok34 L _ hL (by omega), ⟨rfl, rfl, trivial⟩, rfl, rfl, rfl, rfl, ?_⟩, (by intro h; cases h)⟩)
  conv => whnf
  rw [w1]
  repeat ((conv => whnf); first | refine Cd.seq ?_ | refine Cd.cut ?_ | refine Cd.reg ?_ | refine Cd.block ?_ | refine Cd.cond ?_ | refine Cd.dreg ?_ | refine Cd.skip ?_ | refine Cd.ret ?_ | refine Cd.exit ?_ | refine Cd.loop ?_ | refine ⟨rfl, ?_⟩ | refine ⟨Nat.le_of_ble_eq_true rfl, ?_⟩ | refine ⟨.inl rfl, ?_⟩ | refine ⟨fun h => Bool.noConfusion h, ?_⟩ | refine .inl ⟨_, fun _ => ⟨purA rfl, (by first | exact ok27 x0 false (check_small hc0) | exact ok31)⟩, .inl rfl, ?_⟩ | refine .inr ⟨fun _ => ⟨[0], _, _, _, ok16n L _ _ hL (by omega) (by omega) (by omega), ⟨rfl, rfl, trivial⟩, rfl, rfl, rfl, rfl, ?_⟩, (by intro h; cases h)⟩ | refine .inr ⟨fun _ => ⟨[0], _, _, _, ok34 L _ hL (by omega), ⟨rfl, rfl, trivial⟩, rfl, rfl, rfl, rfl, ?_⟩, (by intro h; cases h)⟩)
  conv => whnf
  rw [w2]
  refine ⟨[], ?_, rfl, trivial, rfl, ?_⟩
  · exact trivial
  try subst hk
  repeat' (first | exact trivial | rfl | exact .inl rfl | exact .inr rfl | exact id | exact (fun h => Bool.noConfusion h) | refine And.intro ?_ ?_)
end Go.Proofs.Ytcifhjkodbaghaa
