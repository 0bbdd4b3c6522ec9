/- Lru: what right lists are; Balance, Scan. -/
import Derived.Test.YtcifhjkodbaghaaL3
import Derived.Test.YtcifhjkodbaghaaB17
set_option linter.unusedSimpArgs false
set_option linter.unusedVariables false
namespace Go.Proofs.Ytcifhjkodbaghaa
open Go Go.Sk Go.RowKit

/- pagecache/pagecacheref08.Touch -/
def rc41 : RC :=
  (.seq
  (.reg [⟨(some 2), none, (.box (.t 0))⟩,
    ⟨(some 4), none, (.alloc [(.lst 0 true []), (.lst 0 true []), (.lst 0 true [])])⟩,
    ⟨(some 5), none, (.mv (.c (.int .i64 0)))⟩] [])
  (.seq
  (.block 0
   (.seq
   (.reg [⟨(some 7), none, (.ld true 3 (.t 2))⟩,
     ⟨(some 8), none, (.call 43 [(.t 7)])⟩,
     ⟨(some 9), none, (.un .not (.t 8))⟩,
     ⟨(some 6), none, (.mv (.t 9))⟩] [7, 8, 9])
   (.cond (.t 6)
    (.seq
    (.reg [⟨(some 10), none, (.ld true 3 (.t 2))⟩,
      ⟨none, none, (.st 3 (.t 4) (.t 10))⟩,
      ⟨(some 5), none, (.mv (.c (.int .i64 1)))⟩] [10])
    .ret)
    (.seq
    (.reg [⟨(some 12), none, (.mv (.t 1))⟩,
      ⟨(some 13), none, (.bin .lss (.t 12) (.c (.int .i64 1)))⟩,
      ⟨(some 14), none, (.mv (.t 13))⟩,
      ⟨(some 15), (some (14, false)), (.mv (.t 1))⟩,
      ⟨(some 16), (some (14, false)), (.bin .gtr (.t 15) (.c (.int .i64 64)))⟩,
      ⟨(some 17), none, (.pick (.t 14) (.c (.bool true)) (.t 16))⟩,
      ⟨(some 11), none, (.mv (.t 17))⟩] [12, 13, 14, 15, 16, 17])
    (.cond (.t 11)
     (.seq
     (.reg [⟨(some 18), none, (.ld true 3 (.t 2))⟩,
       ⟨none, none, (.st 3 (.t 4) (.t 18))⟩,
       ⟨(some 5), none, (.mv (.c (.int .i64 2)))⟩] [18])
     .ret)
     (.seq
     (.reg [⟨(some 20), none, (.ld true 3 (.t 2))⟩,
       ⟨(some 21), none, (.mv (.t 1))⟩,
       ⟨(some 22), none, (.call 69 [(.t 20), (.t 21)])⟩,
       ⟨(some 23), none, (.un .not (.t 22))⟩,
       ⟨(some 19), none, (.mv (.t 23))⟩] [20, 21, 22, 23])
     (.cond (.t 19)
      (.seq
      (.reg [⟨(some 24), none, (.ld true 3 (.t 2))⟩,
        ⟨none, none, (.st 3 (.t 4) (.t 24))⟩,
        ⟨(some 5), none, (.mv (.c (.int .i64 4)))⟩] [24])
      .ret)
      (.seq
      (.reg [⟨(some 26), none, (.faddr 2 (.t 2))⟩,
        ⟨(some 27), none, (.ld false 1 (.t 26))⟩,
        ⟨(some 28), none, (.mv (.t 1))⟩,
        ⟨(some 29), none, (.call 54 [(.t 27), (.t 28)])⟩,
        ⟨(some 30), none, (.bin .lss (.t 29) (.c (.int .i64 0)))⟩,
        ⟨(some 25), none, (.mv (.t 30))⟩] [26, 27, 28, 29, 30])
      (.cond (.t 25)
       (.reg [⟨(some 31), none, (.faddr 2 (.t 2))⟩,
         ⟨(some 32), none, (.ld false 1 (.t 31))⟩,
         ⟨(some 33), none, (.mv (.t 1))⟩,
         ⟨(some 34), none, (.call 74 [(.t 32), (.t 33)])⟩,
         ⟨(some 35), none, (.faddr 2 (.t 2))⟩,
         ⟨none, none, (.st 1 (.t 35) (.t 34))⟩] [31, 32, 33, 34, 35])
       (.seq
       (.reg [⟨(some 37), none, (.faddr 1 (.t 2))⟩,
         ⟨(some 38), none, (.ld false 1 (.t 37))⟩,
         ⟨(some 39), none, (.mv (.t 1))⟩,
         ⟨(some 40), none, (.call 54 [(.t 38), (.t 39)])⟩,
         ⟨(some 41), none, (.bin .geq (.t 40) (.c (.int .i64 0)))⟩,
         ⟨(some 36), none, (.mv (.t 41))⟩] [37, 38, 39, 40, 41])
       (.cond (.t 36)
        (.dreg 11264 11488 [⟨(some 42), none, (.faddr 0 (.t 2))⟩,
          ⟨(some 43), none, (.ld false 1 (.t 42))⟩,
          ⟨(some 44), none, (.mv (.t 1))⟩,
          ⟨(some 45), none, (.call 70 [(.t 43), (.t 44)])⟩,
          ⟨(some 46), none, (.faddr 1 (.t 2))⟩,
          ⟨(some 47), none, (.ld false 1 (.t 46))⟩,
          ⟨(some 48), none, (.mv (.t 1))⟩,
          ⟨(some 49), none, (.call 72 [(.t 47), (.t 48)])⟩,
          ⟨(some 50), none, (.faddr 2 (.t 2))⟩,
          ⟨(some 51), none, (.ld false 1 (.t 50))⟩,
          ⟨(some 52), none, (.mv (.t 1))⟩,
          ⟨(some 53), none, (.call 72 [(.t 51), (.t 52)])⟩,
          ⟨(some 54), none, (.build [(.lst 0 true []), (.lst 0 true []), (.lst 0 true [])] [(0, (1, (.t 45))), (1, (1, (.t 49))), (2, (1, (.t 53)))])⟩,
          ⟨none, none, (.st 3 (.t 2) (.t 54))⟩] [42, 43, 44, 45, 46, 47, 48, 49, 50, 51, 52, 53, 54] [[], [0], [], [1, 0, 2], [], [4], [], [5, 4, 6, 3, 2, 0, 1], [], [8], [], [9, 8, 10, 7, 1, 0, 2, 3, 6, 4, 5], [11, 5, 4, 6, 3, 2, 0, 1, 7, 10, 8, 9], [12, 9, 8, 10, 7, 1, 0, 2, 3, 6, 4, 5, 11]] [11264, 11280, 11296, 11312, 11328, 11344, 11360, 11376, 11392, 11408, 11424, 11440, 11456, 11472])
        .skip)))))))))))
  (.seq
  (.reg [⟨(some 55), none, (.ld true 3 (.t 2))⟩,
    ⟨none, none, (.st 3 (.t 4) (.t 55))⟩,
    ⟨(some 5), none, (.mv (.c (.int .i64 0)))⟩] [55])
  .ret)))
theorem rcq41 : resC Go.Proofs.Try.prog Go.Proofs.Try.f41.ntmps ((Go.Proofs.Try.f41.body).getD .skip) = some (strip rc41) := by kernel_rfl
def rv41 : List RV := [(.cell 4 true 3), (.tmp 5)]
theorem rvq41 : Go.Proofs.Try.f41.results.toList.mapM (resRV Go.Proofs.Try.prog) = some rv41 := by kernel_rfl

structure ChkP (l : Ls) : Prop where
  nodup : (l.A ++ l.I).Nodup
  known : ∀ f ∈ l.A ++ l.I, 1 ≤ f ∧ f ≤ 64
  asc : l.R.Pairwise (· < ·)
  sub : ∀ f ∈ l.R, f ∈ l.A ++ l.I
theorem known_iff (f : Int) : knownB f = true ↔ 1 ≤ f ∧ f ≤ 64 := by simp [knownB]
theorem asc_of {l : List Int} (step : ∀ i, i + 1 < l.length → l.getD i 0 < l.getD (i + 1) 0) : l.Pairwise (· < ·) := by
  have mon : ∀ d i, i + d + 1 < l.length → l.getD i 0 < l.getD (i + d + 1) 0 := fun d => by
    induction d with
    | zero => exact fun i hi => step i hi
    | succ d ih =>
      intro i hi
      have h1 := ih i (by omega)
      have h2 := step (i + d + 1) (by omega)
      rw [show i + (d + 1) + 1 = i + d + 1 + 1 by omega]
      omega
  refine List.pairwise_iff_getElem.2 fun i j hi hj hij => ?_
  rw [getI, getI]
  have := mon (j - i - 1) i (by omega)
  rwa [show i + (j - i - 1) + 1 = j by omega] at this
theorem chk_iff' (l : Ls) : chkL l = true ↔ ChkP l := by
  rw [chkL, Bool.and_eq_true]
  generalize hall : l.A ++ l.I = all
  constructor
  · rintro ⟨h1, h2⟩
    refine ⟨?_, ?_, ?_, ?_⟩
    · rw [hall]
      refine List.pairwise_iff_getElem.2 fun i j hi hj hij e => ?_
      have := noneBad_at hj h1
      simp only [badA, Bool.or_eq_false_iff, decide_eq_false_iff_not] at this
      refine this.2 ?_
      rw [← getI all j hj, ← e]
      rw [List.mem_take_iff_getElem]
      exact ⟨i, by omega, rfl⟩
    · rw [hall]
      intro f hf
      obtain ⟨i, hi, rfl⟩ := List.getElem_of_mem hf
      have := noneBad_at hi h1
      simp only [badA, Bool.or_eq_false_iff, Bool.not_eq_false'] at this
      rw [getI all i hi]
      exact (known_iff _).1 this.1
    · refine asc_of fun i hi => ?_
      have := noneBad_at hi h2
      simp only [badQ, Bool.or_eq_false_iff, Bool.and_eq_false_iff, decide_eq_false_iff_not] at this
      have h3 := this.2
      rw [Nat.add_sub_cancel] at h3
      omega
    · rw [hall]
      intro f hf
      obtain ⟨i, hi, rfl⟩ := List.getElem_of_mem hf
      have := noneBad_at hi h2
      simp only [badQ, Bool.or_eq_false_iff, Bool.not_eq_false', decide_eq_true_eq] at this
      rw [getI l.R i hi]
      exact this.1
  · intro h
    have hn := h.nodup
    have hk := h.known
    have hs := h.sub
    rw [hall] at hn hk hs
    refine ⟨noneBad_of fun i hi => ?_, noneBad_of fun i hi => ?_⟩
    · simp only [badA, Bool.or_eq_false_iff, Bool.not_eq_false', decide_eq_false_iff_not]
      rw [← getI all i hi]
      refine ⟨(known_iff _).2 (hk _ (List.getElem_mem hi)), fun hm => ?_⟩
      obtain ⟨j, hj, e⟩ := List.getElem_of_mem hm
      rw [List.length_take] at hj
      rw [List.getElem_take] at e
      exact List.pairwise_iff_getElem.1 hn j i (by omega) hi (by omega) e
    · simp only [badQ, Bool.or_eq_false_iff, Bool.not_eq_false', decide_eq_true_eq]
      refine ⟨by rw [← getI l.R i hi]; exact hs _ (List.getElem_mem hi), ?_⟩
      by_cases e : i = 0
      · simp [e]
      · have := pair_mono h.asc (i - 1) i (by omega) hi
        rw [show decide (l.R.getD i 0 ≤ l.R.getD (i - 1) 0) = false by rw [decide_eq_false_iff_not]; omega, Bool.and_false]
theorem wo_mem_len {l : List Int} (h : l.Nodup) {x : Int} (hx : x ∈ l) : (wo l x).length + 1 = l.length := by
  have e := List.Nodup.erase_eq_filter h x
  rw [wo, ← e, List.length_erase_of_mem hx]
  have := List.length_pos_of_mem hx
  omega
theorem nodup_len : ∀ (n : Nat) {l : List Int} {lo : Int}, l.Nodup → (∀ x ∈ l, lo ≤ x ∧ x < lo + n) → l.length ≤ n
  | 0, [], _, _, _ => Nat.le_refl 0
  | 0, x :: r, lo, _, h => by have := h x (by simp); omega
  | n + 1, l, lo, hn, h => by
    have hn' : (wo l (lo + n)).Nodup := hn.sublist List.filter_sublist
    have := nodup_len n (l := wo l (lo + n)) (lo := lo) hn' fun x hx => by
      obtain ⟨h1, h2⟩ := mem_wo.1 hx
      have := h x h1
      omega
    by_cases hm : (lo + n) ∈ l
    · have := wo_mem_len hn hm; omega
    · rw [wo_none hm] at this; omega
theorem ChkP.len {l : Ls} (h : ChkP l) : (l.A ++ l.I).length ≤ 64 := nodup_len 64 (lo := 1) h.nodup fun x hx => by have := h.known x hx; omega
theorem ChkP.lenR {l : Ls} (h : ChkP l) : l.R.length ≤ 64 := nodup_len 64 (lo := 1) (h.asc.imp fun h => by omega) fun x hx => by have := h.known x (h.sub x hx); omega
theorem ChkP.small {l : Ls} (h : ChkP l) : SmallL l := by
  have := h.len; have := h.lenR
  rw [List.length_append] at *
  exact ⟨by omega, by omega, by omega⟩
theorem ChkP.notA {l : Ls} (h : ChkP l) {f : Int} (hf : f ∈ l.I) : f ∉ l.A := fun ha => (List.nodup_append.1 h.nodup).2.2 f ha f hf rfl
theorem ChkP.notI {l : Ls} (h : ChkP l) {f : Int} (hf : f ∈ l.A) : f ∉ l.I := fun hi => h.notA hi hf
theorem wo_nodup {l : List Int} (h : l.Nodup) (x : Int) : (wo l x).Nodup := h.sublist List.filter_sublist
theorem wo_asc {l : List Int} (h : l.Pairwise (· < ·)) (x : Int) : (wo l x).Pairwise (· < ·) := h.sublist List.filter_sublist
def touF (l : Ls) (f : Int) : Ls × Int :=
  bif !chkL l then (l, 1) else bif !knownB f then (l, 2) else bif !hasL l f then (l, 4) else
  bif !decide (f ∈ l.R) then (⟨l.A, l.I, insI l.R (atI l.R f) f⟩, 0) else bif decide (f ∈ l.I) then (⟨f :: wo l.A f, wo l.I f, wo l.R f⟩, 0) else (l, 0)
set_option maxRecDepth 20000 in
set_option maxHeartbeats 1000000 in
theorem ok41 (l : Ls) (f : Int) (hl : SmallL l) : FnC Try.prog 41 [] [.agg l.c, .int .i64 f] (.tup [.agg (touF l f).1.c, .int .i64 (touF l f).2]) [] := by
  have h1 := hl.a; have h2 := hl.i; have h3 := hl.r
  refine fn_okC (ob0 := []) (rc := rc41) (rvs := rv41) Try.func41 rfl rcq41 rvq41 (show 2 ≤ _ by decide) ?_
  generalize hk : touF l f = q
  rw [touF] at hk
  repeat ((conv => whnf); first | refine Cd.seq ?_ | refine Cd.cut ?_ | refine Cd.reg ?_ | refine Cd.block ?_ | refine Cd.cond ?_ | refine Cd.dreg ?_ | refine Cd.skip ?_ | refine Cd.ret ?_ | refine Cd.exit ?_ | refine Cd.loop ?_ | refine ⟨rfl, ?_⟩ | refine ⟨Nat.le_of_ble_eq_true rfl, ?_⟩ | refine ⟨.inl rfl, ?_⟩ | refine ⟨fun h => Bool.noConfusion h, ?_⟩ | refine .inl ⟨_, fun _ => ⟨purA rfl, (by first | exact ok43 l hl)⟩, .inl rfl, ?_⟩)
  conv => whnf
  refine ⟨fun c1 => ?_, fun c1 => ?_⟩ <;> try simp only [Bool.cond_true_left, Bool.cond_false_right, Bool.not_eq_true', Bool.not_eq_false', Bool.not_not] at c1
  · rw [show (!chkL l) = true by rw [c1]; rfl, cond_true] at hk
    subst hk
    repeat ((conv => whnf); first | refine Cd.seq ?_ | refine Cd.cut ?_ | refine Cd.reg ?_ | refine Cd.block ?_ | refine Cd.cond ?_ | refine Cd.dreg ?_ | refine Cd.skip ?_ | refine Cd.ret ?_ | refine Cd.exit ?_ | refine Cd.loop ?_ | refine ⟨rfl, ?_⟩ | refine ⟨Nat.le_of_ble_eq_true rfl, ?_⟩ | refine ⟨.inl rfl, ?_⟩ | refine ⟨fun h => Bool.noConfusion h, ?_⟩)
    conv => whnf
    refine ⟨[], ?_, rfl, trivial, rfl, ?_⟩
    · exact trivial
    try subst hk
    repeat' (first | exact trivial | rfl | exact .inl rfl | exact .inr rfl | exact id | exact (fun h => Bool.noConfusion h) | refine And.intro ?_ ?_)
  have hP := (chk_iff' l).1 c1
  rw [show (!chkL l) = false by rw [c1]; rfl, cond_false] at hk
  repeat ((conv => whnf); first | refine Cd.seq ?_ | refine Cd.cut ?_ | refine Cd.reg ?_ | refine Cd.block ?_ | refine Cd.cond ?_ | refine Cd.dreg ?_ | refine Cd.skip ?_ | refine Cd.ret ?_ | refine Cd.exit ?_ | refine Cd.loop ?_ | refine ⟨rfl, ?_⟩ | refine ⟨Nat.le_of_ble_eq_true rfl, ?_⟩ | refine ⟨.inl rfl, ?_⟩ | refine ⟨fun h => Bool.noConfusion h, ?_⟩)
  conv => whnf
  rw [known_bif]
  refine ⟨fun c2 => ?_, fun c2 => ?_⟩ <;> try simp only [Bool.cond_true_left, Bool.cond_false_right, Bool.not_eq_true', Bool.not_eq_false', Bool.not_not] at c2
  · rw [show (!knownB f) = true by rw [c2]; rfl, cond_true] at hk
    subst hk
    repeat ((conv => whnf); first | refine Cd.seq ?_ | refine Cd.cut ?_ | refine Cd.reg ?_ | refine Cd.block ?_ | refine Cd.cond ?_ | refine Cd.dreg ?_ | refine Cd.skip ?_ | refine Cd.ret ?_ | refine Cd.exit ?_ | refine Cd.loop ?_ | refine ⟨rfl, ?_⟩ | refine ⟨Nat.le_of_ble_eq_true rfl, ?_⟩ | refine ⟨.inl rfl, ?_⟩ | refine ⟨fun h => Bool.noConfusion h, ?_⟩)
    conv => whnf
    refine ⟨[], ?_, rfl, trivial, rfl, ?_⟩
    · exact trivial
    try subst hk
    repeat' (first | exact trivial | rfl | exact .inl rfl | exact .inr rfl | exact id | exact (fun h => Bool.noConfusion h) | refine And.intro ?_ ?_)
  rw [show (!knownB f) = false by rw [c2]; rfl, cond_false] at hk
  repeat ((conv => whnf); first | refine Cd.seq ?_ | refine Cd.cut ?_ | refine Cd.reg ?_ | refine Cd.block ?_ | refine Cd.cond ?_ | refine Cd.dreg ?_ | refine Cd.skip ?_ | refine Cd.ret ?_ | refine Cd.exit ?_ | refine Cd.loop ?_ | refine ⟨rfl, ?_⟩ | refine ⟨Nat.le_of_ble_eq_true rfl, ?_⟩ | refine ⟨.inl rfl, ?_⟩ | refine ⟨fun h => Bool.noConfusion h, ?_⟩ | refine .inl ⟨_, fun _ => ⟨purA rfl, (by first | exact ok69 l f hl)⟩, .inl rfl, ?_⟩)
  conv => whnf
  refine ⟨fun c3 => ?_, fun c3 => ?_⟩ <;> try simp only [Bool.cond_true_left, Bool.cond_false_right, Bool.not_eq_true', Bool.not_eq_false', Bool.not_not] at c3
  · rw [show (!hasL l f) = true by rw [c3]; rfl, cond_true] at hk
    subst hk
    repeat ((conv => whnf); first | refine Cd.seq ?_ | refine Cd.cut ?_ | refine Cd.reg ?_ | refine Cd.block ?_ | refine Cd.cond ?_ | refine Cd.dreg ?_ | refine Cd.skip ?_ | refine Cd.ret ?_ | refine Cd.exit ?_ | refine Cd.loop ?_ | refine ⟨rfl, ?_⟩ | refine ⟨Nat.le_of_ble_eq_true rfl, ?_⟩ | refine ⟨.inl rfl, ?_⟩ | refine ⟨fun h => Bool.noConfusion h, ?_⟩)
    conv => whnf
    refine ⟨[], ?_, rfl, trivial, rfl, ?_⟩
    · exact trivial
    try subst hk
    repeat' (first | exact trivial | rfl | exact .inl rfl | exact .inr rfl | exact id | exact (fun h => Bool.noConfusion h) | refine And.intro ?_ ?_)
  rw [show (!hasL l f) = false by rw [c3]; rfl, cond_false] at hk
  repeat ((conv => whnf); first | refine Cd.seq ?_ | refine Cd.cut ?_ | refine Cd.reg ?_ | refine Cd.block ?_ | refine Cd.cond ?_ | refine Cd.dreg ?_ | refine Cd.skip ?_ | refine Cd.ret ?_ | refine Cd.exit ?_ | refine Cd.loop ?_ | refine ⟨rfl, ?_⟩ | refine ⟨Nat.le_of_ble_eq_true rfl, ?_⟩ | refine ⟨.inl rfl, ?_⟩ | refine ⟨fun h => Bool.noConfusion h, ?_⟩ | refine .inl ⟨_, fun _ => ⟨purA rfl, (by first | exact ok54 l.R false f (by omega))⟩, .inl rfl, ?_⟩)
  conv => whnf
  rw [atN]
  refine ⟨fun c4 => ?_, fun c4 => ?_⟩ <;> try simp only [Bool.cond_true_left, Bool.cond_false_right, Bool.not_eq_true', Bool.not_eq_false', Bool.not_not] at c4
  · have c4 : f ∉ l.R := by simpa using c4
    rw [show (!decide (f ∈ l.R)) = true by simpa using c4, cond_true] at hk
    subst hk
    repeat ((conv => whnf); first | refine Cd.seq ?_ | refine Cd.cut ?_ | refine Cd.reg ?_ | refine Cd.block ?_ | refine Cd.cond ?_ | refine Cd.dreg ?_ | refine Cd.skip ?_ | refine Cd.ret ?_ | refine Cd.exit ?_ | refine Cd.loop ?_ | refine ⟨rfl, ?_⟩ | refine ⟨Nat.le_of_ble_eq_true rfl, ?_⟩ | refine ⟨.inl rfl, ?_⟩ | refine ⟨fun h => Bool.noConfusion h, ?_⟩ | refine .inl ⟨_, fun _ => ⟨purA rfl, (by first | exact ok74 l.R false f (by omega) c4)⟩, .inl rfl, ?_⟩)
    conv => whnf
    refine ⟨[], ?_, rfl, trivial, rfl, ?_⟩
    · exact trivial
    try subst hk
    repeat' (first | exact trivial | rfl | exact .inl rfl | exact .inr rfl | exact id | exact (fun h => Bool.noConfusion h) | refine And.intro ?_ ?_)
  have c4 : f ∈ l.R := by simpa using c4
  rw [show (!decide (f ∈ l.R)) = false by simpa using c4, cond_false] at hk
  repeat ((conv => whnf); first | refine Cd.seq ?_ | refine Cd.cut ?_ | refine Cd.reg ?_ | refine Cd.block ?_ | refine Cd.cond ?_ | refine Cd.dreg ?_ | refine Cd.skip ?_ | refine Cd.ret ?_ | refine Cd.exit ?_ | refine Cd.loop ?_ | refine ⟨rfl, ?_⟩ | refine ⟨Nat.le_of_ble_eq_true rfl, ?_⟩ | refine ⟨.inl rfl, ?_⟩ | refine ⟨fun h => Bool.noConfusion h, ?_⟩ | refine .inl ⟨_, fun _ => ⟨purA rfl, (by first | exact ok54 l.I false f (by omega))⟩, .inl rfl, ?_⟩)
  conv => whnf
  rw [atM]
  refine ⟨fun c5 => ?_, fun c5 => ?_⟩ <;> try simp only [Bool.cond_true_left, Bool.cond_false_right, Bool.not_eq_true', Bool.not_eq_false', Bool.not_not] at c5
  · rw [c5, cond_true] at hk
    rw [wo_none (hP.notA (by simpa using c5))] at hk
    subst hk
    repeat ((conv => whnf); first | refine Cd.seq ?_ | refine Cd.cut ?_ | refine Cd.reg ?_ | refine Cd.block ?_ | refine Cd.cond ?_ | refine Cd.dreg ?_ | refine Cd.skip ?_ | refine Cd.ret ?_ | refine Cd.exit ?_ | refine Cd.loop ?_ | refine ⟨rfl, ?_⟩ | refine ⟨Nat.le_of_ble_eq_true rfl, ?_⟩ | refine ⟨.inl rfl, ?_⟩ | refine ⟨fun h => Bool.noConfusion h, ?_⟩ | refine .inl ⟨_, fun _ => ⟨purA rfl, (by first | exact ok70 l.A false f (by omega) | exact ok72 l.I false f (by omega) | exact ok72 l.R false f (by omega))⟩, .inl rfl, ?_⟩)
    conv => whnf
    refine ⟨[], ?_, rfl, trivial, rfl, ?_⟩
    · exact trivial
    try subst hk
    repeat' (first | exact trivial | rfl | exact .inl rfl | exact .inr rfl | exact id | exact (fun h => Bool.noConfusion h) | refine And.intro ?_ ?_)
  rw [c5, cond_false] at hk
  subst hk
  repeat ((conv => whnf); first | refine Cd.seq ?_ | refine Cd.cut ?_ | refine Cd.reg ?_ | refine Cd.block ?_ | refine Cd.cond ?_ | refine Cd.dreg ?_ | refine Cd.skip ?_ | refine Cd.ret ?_ | refine Cd.exit ?_ | refine Cd.loop ?_ | refine ⟨rfl, ?_⟩ | refine ⟨Nat.le_of_ble_eq_true rfl, ?_⟩ | refine ⟨.inl rfl, ?_⟩ | refine ⟨fun h => Bool.noConfusion h, ?_⟩)
  conv => whnf
  refine ⟨[], ?_, rfl, trivial, rfl, ?_⟩
  · exact trivial
  try subst hk
  repeat' (first | exact trivial | rfl | exact .inl rfl | exact .inr rfl | exact id | exact (fun h => Bool.noConfusion h) | refine And.intro ?_ ?_)
end Go.Proofs.Ytcifhjkodbaghaa

namespace Go.Proofs.Ytcifhjkodbaghaa
open Go Go.Sk Go.RowKit

/- pagecache/lru.Balance -/
def rc45 : RC :=
  (.seq
  (.reg [⟨(some 1), none, (.box (.t 0))⟩,
    ⟨(some 2), none, (.alloc [(.lst 0 true []), (.lst 0 true []), (.lst 0 true [])])⟩] [])
  (.seq
  (.reg [⟨(some 5), none, (.ld true 3 (.t 1))⟩,
    ⟨(some 6), none, (.call 65 [(.t 5)])⟩,
    ⟨(some 3), none, (.alloc [(.lst 0 true []), (.lst 0 true []), (.lst 0 true [])])⟩,
    ⟨none, none, (.st 3 (.t 3) (.t 6))⟩] [5, 6])
  (.seq
  (.seq
  (.reg [⟨(some 7), none, (.ld true 3 (.t 1))⟩,
    ⟨(some 8), none, (.call 42 [(.t 7)])⟩,
    ⟨(some 9), none, (.un .not (.t 8))⟩] [7, 8])
  (.cond (.t 9)
   (.seq
   (.reg [⟨(some 10), none, (.ld true 3 (.t 3))⟩,
     ⟨none, none, (.st 3 (.t 2) (.t 10))⟩] [10])
   .ret)
   .skip))
  (.seq
  (.seq
  (.reg [⟨(some 11), none, (.faddr 0 (.t 1))⟩,
    ⟨(some 12), none, (.ld false 1 (.t 11))⟩,
    ⟨(some 13), none, (.len (.t 12))⟩,
    ⟨(some 14), none, (.mv (.c (.int .i64 0)))⟩] [11, 12])
  (.block 0
   (.loop
    (.seq
    (.reg [⟨(some 15), none, (.bin .lss (.t 14) (.t 13))⟩] [])
    (.seq
    (.cond (.t 15)
     .skip
     (.exit 0))
    (.seq
    (.block 1
     (.seq
     (.seq
     (.reg [⟨(some 16), none, (.faddr 0 (.t 3))⟩,
       ⟨(some 17), none, (.ld false 1 (.t 16))⟩,
       ⟨(some 18), none, (.len (.t 17))⟩,
       ⟨(some 19), none, (.faddr 1 (.t 3))⟩,
       ⟨(some 20), none, (.ld false 1 (.t 19))⟩,
       ⟨(some 21), none, (.len (.t 20))⟩,
       ⟨(some 22), none, (.bin .leq (.t 18) (.t 21))⟩] [16, 17, 18, 19, 20, 21])
     (.cond (.t 22)
      (.exit 0)
      .skip))
     (.seq
     (.reg [⟨(some 23), none, (.faddr 0 (.t 3))⟩,
       ⟨(some 24), none, (.ld false 1 (.t 23))⟩,
       ⟨(some 25), none, (.faddr 0 (.t 3))⟩,
       ⟨(some 26), none, (.ld false 1 (.t 25))⟩,
       ⟨(some 27), none, (.len (.t 26))⟩,
       ⟨(some 28), none, (.bin .sub (.t 27) (.c (.int .i64 1)))⟩,
       ⟨(some 29), none, (.iaddr 1 (.t 24) (.t 28))⟩,
       ⟨(some 30), none, (.ld false 1 (.t 29))⟩,
       ⟨(some 4), none, (.mv (.t 30))⟩] [23, 24, 25, 26, 27, 28, 29, 30])
     (.seq
     (.seq
     (.reg [⟨(some 31), none, (.faddr 2 (.t 3))⟩,
       ⟨(some 32), none, (.ld false 1 (.t 31))⟩,
       ⟨(some 33), none, (.mv (.t 4))⟩,
       ⟨(some 34), none, (.call 73 [(.t 32), (.t 33)])⟩] [31, 32, 33])
     (.cond (.t 34)
      (.seq
      (.reg [⟨(some 35), none, (.faddr 0 (.t 3))⟩,
        ⟨(some 36), none, (.ld false 1 (.t 35))⟩,
        ⟨(some 37), none, (.mv (.t 4))⟩,
        ⟨(some 38), none, (.call 68 [(.t 36), (.t 37)])⟩,
        ⟨(some 39), none, (.faddr 0 (.t 3))⟩,
        ⟨none, none, (.st 1 (.t 39) (.t 38))⟩] [35, 36, 37, 38, 39])
      (.seq
      (.reg [⟨(some 40), none, (.faddr 2 (.t 3))⟩,
        ⟨(some 41), none, (.ld false 1 (.t 40))⟩,
        ⟨(some 42), none, (.mv (.t 4))⟩,
        ⟨(some 43), none, (.call 71 [(.t 41), (.t 42)])⟩,
        ⟨(some 44), none, (.faddr 2 (.t 3))⟩,
        ⟨none, none, (.st 1 (.t 44) (.t 43))⟩] [40, 41, 42, 43, 44])
      (.exit 1)))
      .skip))
     (.seq
     (.reg [⟨(some 45), none, (.faddr 0 (.t 3))⟩,
       ⟨(some 46), none, (.ld false 1 (.t 45))⟩,
       ⟨(some 47), none, (.faddr 0 (.t 3))⟩,
       ⟨(some 48), none, (.ld false 1 (.t 47))⟩,
       ⟨(some 49), none, (.len (.t 48))⟩,
       ⟨(some 50), none, (.bin .sub (.t 49) (.c (.int .i64 1)))⟩,
       ⟨(some 51), none, (.slc 1 (.t 46) none (some (.t 50)))⟩,
       ⟨(some 52), none, (.faddr 0 (.t 3))⟩,
       ⟨none, none, (.st 1 (.t 52) (.t 51))⟩] [45, 46, 47, 48, 49, 50, 51, 52])
     (.reg [⟨(some 53), none, (.faddr 1 (.t 3))⟩,
       ⟨(some 54), none, (.ld false 1 (.t 53))⟩,
       ⟨(some 55), none, (.mv (.t 4))⟩,
       ⟨(some 56), none, (.call 68 [(.t 54), (.t 55)])⟩,
       ⟨(some 57), none, (.faddr 1 (.t 3))⟩,
       ⟨none, none, (.st 1 (.t 57) (.t 56))⟩] [53, 54, 55, 56, 57]))))))
    (.reg [⟨(some 58), none, (.bin .add (.t 14) (.c (.int .i64 1)))⟩,
      ⟨(some 14), none, (.mv (.t 58))⟩] [58])))))))
  (.seq
  (.reg [⟨(some 59), none, (.ld true 3 (.t 3))⟩,
    ⟨none, none, (.st 3 (.t 2) (.t 59))⟩] [59])
  .ret)))))
theorem rcq45 : resC Go.Proofs.Try.prog Go.Proofs.Try.f45.ntmps ((Go.Proofs.Try.f45.body).getD .skip) = some (strip rc45) := by kernel_rfl
def rv45 : List RV := [(.cell 2 true 3)]
theorem rvq45 : Go.Proofs.Try.f45.results.toList.mapM (resRV Go.Proofs.Try.prog) = some rv45 := by kernel_rfl

/- pagecache/pagecacheref08.Balance -/
def rc46 : RC :=
  (.seq
  (.reg [⟨(some 1), none, (.box (.t 0))⟩,
    ⟨(some 2), none, (.alloc [(.lst 0 true []), (.lst 0 true []), (.lst 0 true [])])⟩] [])
  (.seq
  (.seq
  (.reg [⟨(some 6), none, (.ld true 3 (.t 1))⟩,
    ⟨(some 7), none, (.call 43 [(.t 6)])⟩,
    ⟨(some 8), none, (.un .not (.t 7))⟩] [6, 7])
  (.cond (.t 8)
   (.seq
   (.reg [⟨(some 9), none, (.ld true 3 (.t 1))⟩,
     ⟨none, none, (.st 3 (.t 2) (.t 9))⟩] [9])
   .ret)
   .skip))
  (.seq
  (.seq
  (.reg [⟨(some 10), none, (.faddr 0 (.t 1))⟩,
    ⟨(some 11), none, (.ld false 1 (.t 10))⟩,
    ⟨(some 12), none, (.len (.t 11))⟩,
    ⟨(some 3), none, (.mv (.t 12))⟩] [10, 11, 12])
  (.block 0
   (.loop
    (.seq
    (.seq
    (.reg [⟨(some 13), none, (.mv (.t 3))⟩,
      ⟨(some 14), none, (.bin .gtr (.t 13) (.c (.int .i64 0)))⟩,
      ⟨(some 15), none, (.mv (.t 14))⟩,
      ⟨(some 16), (some (15, true)), (.faddr 0 (.t 1))⟩,
      ⟨(some 17), (some (15, true)), (.ld false 1 (.t 16))⟩,
      ⟨(some 18), (some (15, true)), (.len (.t 17))⟩,
      ⟨(some 19), (some (15, true)), (.faddr 1 (.t 1))⟩,
      ⟨(some 20), (some (15, true)), (.ld false 1 (.t 19))⟩,
      ⟨(some 21), (some (15, true)), (.len (.t 20))⟩,
      ⟨(some 22), (some (15, true)), (.bin .gtr (.t 18) (.t 21))⟩,
      ⟨(some 23), none, (.pick (.t 15) (.t 22) (.c (.bool false)))⟩] [13, 14, 15, 16, 17, 18, 19, 20, 21, 22])
    (.cond (.t 23)
     .skip
     (.exit 0)))
    (.seq
    (.block 1
     (.seq
     (.reg [⟨(some 26), none, (.faddr 0 (.t 1))⟩,
       ⟨(some 27), none, (.ld false 1 (.t 26))⟩,
       ⟨(some 28), none, (.faddr 0 (.t 1))⟩,
       ⟨(some 29), none, (.ld false 1 (.t 28))⟩,
       ⟨(some 30), none, (.len (.t 29))⟩,
       ⟨(some 31), none, (.bin .sub (.t 30) (.c (.int .i64 1)))⟩,
       ⟨(some 32), none, (.iaddr 1 (.t 27) (.t 31))⟩,
       ⟨(some 33), none, (.ld false 1 (.t 32))⟩,
       ⟨(some 4), none, (.mv (.t 33))⟩] [26, 27, 28, 29, 30, 31, 32, 33])
     (.cut
     (.reg [⟨(some 34), none, (.faddr 0 (.t 1))⟩,
       ⟨(some 35), none, (.ld false 1 (.t 34))⟩,
       ⟨(some 36), none, (.faddr 0 (.t 1))⟩,
       ⟨(some 37), none, (.ld false 1 (.t 36))⟩,
       ⟨(some 38), none, (.len (.t 37))⟩,
       ⟨(some 39), none, (.bin .sub (.t 38) (.c (.int .i64 1)))⟩,
       ⟨(some 40), none, (.slc 1 (.t 35) none (some (.t 39)))⟩,
       ⟨(some 41), none, (.app 1 8 (.c (.lst 0 true [])) (.t 40))⟩,
       ⟨(some 5), none, (.mv (.t 41))⟩] [34, 35, 36, 37, 38, 39, 40, 41])
     (.seq
     (.reg [⟨(some 42), none, (.faddr 2 (.t 1))⟩,
       ⟨(some 43), none, (.ld false 1 (.t 42))⟩,
       ⟨(some 44), none, (.mv (.t 4))⟩,
       ⟨(some 45), none, (.call 54 [(.t 43), (.t 44)])⟩,
       ⟨(some 46), none, (.bin .geq (.t 45) (.c (.int .i64 0)))⟩] [42, 43, 44, 45])
     (.cond (.t 46)
      (.dreg 10240 10416 [⟨(some 47), none, (.mv (.t 5))⟩,
        ⟨(some 48), none, (.mv (.t 4))⟩,
        ⟨(some 49), none, (.call 70 [(.t 47), (.t 48)])⟩,
        ⟨(some 50), none, (.faddr 1 (.t 1))⟩,
        ⟨(some 51), none, (.ld false 1 (.t 50))⟩,
        ⟨(some 52), none, (.faddr 2 (.t 1))⟩,
        ⟨(some 53), none, (.ld false 1 (.t 52))⟩,
        ⟨(some 54), none, (.mv (.t 4))⟩,
        ⟨(some 55), none, (.call 72 [(.t 53), (.t 54)])⟩,
        ⟨(some 56), none, (.build [(.lst 0 true []), (.lst 0 true []), (.lst 0 true [])] [(0, (1, (.t 49))), (1, (1, (.t 51))), (2, (1, (.t 55)))])⟩,
        ⟨none, none, (.st 3 (.t 1) (.t 56))⟩] [47, 48, 49, 50, 51, 52, 53, 54, 55, 56] [[], [], [0, 1], [], [3], [], [5], [], [6, 5, 7, 2, 1, 0], [4, 3, 8, 0, 1, 2, 7, 5, 6], [9, 6, 5, 7, 2, 1, 0, 8, 3, 4]] [10240, 10256, 10272, 10288, 10304, 10320, 10336, 10352, 10368, 10384, 10400])
      (.dreg 11264 11408 [⟨(some 57), none, (.mv (.t 5))⟩,
        ⟨(some 58), none, (.faddr 1 (.t 1))⟩,
        ⟨(some 59), none, (.ld false 1 (.t 58))⟩,
        ⟨(some 60), none, (.mv (.t 4))⟩,
        ⟨(some 61), none, (.call 70 [(.t 59), (.t 60)])⟩,
        ⟨(some 62), none, (.faddr 2 (.t 1))⟩,
        ⟨(some 63), none, (.ld false 1 (.t 62))⟩,
        ⟨(some 64), none, (.build [(.lst 0 true []), (.lst 0 true []), (.lst 0 true [])] [(0, (1, (.t 57))), (1, (1, (.t 61))), (2, (1, (.t 63)))])⟩,
        ⟨none, none, (.st 3 (.t 1) (.t 64))⟩] [57, 58, 59, 60, 61, 62, 63, 64] [[], [], [1], [], [2, 1, 3], [], [5], [0, 4, 3, 1, 2, 6, 5], [7, 5, 6, 2, 1, 3, 4, 0]] [11264, 11280, 11296, 11312, 11328, 11344, 11360, 11376, 11392]))))))
    (.reg [⟨(some 24), none, (.mv (.t 3))⟩,
      ⟨(some 25), none, (.bin .sub (.t 24) (.c (.int .i64 1)))⟩,
      ⟨(some 3), none, (.mv (.t 25))⟩] [24, 25]))))))
  (.seq
  (.reg [⟨(some 65), none, (.ld true 3 (.t 1))⟩,
    ⟨none, none, (.st 3 (.t 2) (.t 65))⟩] [65])
  .ret))))
theorem rcq46 : resC Go.Proofs.Try.prog Go.Proofs.Try.f46.ntmps ((Go.Proofs.Try.f46.body).getD .skip) = some (strip rc46) := by kernel_rfl
def rv46 : List RV := [(.cell 2 true 3)]
theorem rvq46 : Go.Proofs.Try.f46.results.toList.mapM (resRV Go.Proofs.Try.prog) = some rv46 := by kernel_rfl

def lastA (l : Ls) : Int := l.A.getD (l.A.length - 1) 0
def restA (l : Ls) : List Int := l.A.take (l.A.length - 1)
def balS (l : Ls) : Ls := bif decide (lastA l ∈ l.R) then ⟨lastA l :: restA l, l.I, wo l.R (lastA l)⟩ else ⟨restA l, lastA l :: l.I, l.R⟩
def balN : Nat → Ls → Ls
  | 0, l => l
  | n + 1, l => bif decide ((l.A.length : Int) ≤ (l.I.length : Int)) then l else balN n (balS l)
def balF (l : Ls) : Ls := bif !chkL l then l else balN l.A.length l
theorem A_split {l : Ls} (h : 0 < l.A.length) : l.A = restA l ++ [lastA l] := by
  have := List.take_succ_eq_append_getElem (l := l.A) (i := l.A.length - 1) (by omega)
  rw [show l.A.length - 1 + 1 = l.A.length by omega, List.take_length, getI _ _ (by omega)] at this
  exact this
theorem balS_perm {l : Ls} (h : 0 < l.A.length) : ((balS l).A ++ (balS l).I).Perm (l.A ++ l.I) := by
  have e := A_split h
  unfold balS
  cases decide (lastA l ∈ l.R) with
  | true =>
    simp only [cond_true]
    conv => rhs; rw [e]
    exact List.Perm.append_right _ (List.perm_append_comm (l₁ := [lastA l]))
  | false =>
    simp only [cond_false]
    conv => rhs; rw [e]
    rw [List.append_assoc]; rfl
theorem ChkP.of_perm {l m : Ls} (h : ChkP l) (hp : (m.A ++ m.I).Perm (l.A ++ l.I)) (ha : m.R.Pairwise (· < ·)) (hs : ∀ f ∈ m.R, f ∈ l.A ++ l.I) : ChkP m :=
  ⟨hp.nodup_iff.2 h.nodup, fun f hf => h.known f (hp.mem_iff.1 hf), ha, fun f hf => hp.mem_iff.2 (hs f hf)⟩
theorem ChkP.bal {l : Ls} (h : ChkP l) (h0 : 0 < l.A.length) : ChkP (balS l) := by
  refine h.of_perm (balS_perm h0) ?_ ?_
  · unfold balS
    cases decide (lastA l ∈ l.R) with
    | true => exact wo_asc h.asc _
    | false => exact h.asc
  · unfold balS
    cases decide (lastA l ∈ l.R) with
    | true => exact fun f hf => h.sub f (mem_wo.1 hf).1
    | false => exact h.sub
theorem ChkP.lastA {l : Ls} (h : ChkP l) (h0 : 0 < l.A.length) : lastA l ∈ l.A ∧ wo l.A (lastA l) = restA l ∧ wo l.I (Ytcifhjkodbaghaa.lastA l) = l.I := by
  have e := A_split h0
  have hm : Ytcifhjkodbaghaa.lastA l ∈ l.A := by rw [e]; simp
  have hn := h.nodup
  rw [e, List.append_assoc] at hn
  have hn2 := (List.nodup_append.1 hn).2.2
  refine ⟨hm, ?_, wo_none (h.notI hm)⟩
  have h1 : Ytcifhjkodbaghaa.lastA l ∉ restA l := fun hx => hn2 _ hx _ (by simp) rfl
  rw [show wo l.A (Ytcifhjkodbaghaa.lastA l) = wo (restA l ++ [Ytcifhjkodbaghaa.lastA l]) (Ytcifhjkodbaghaa.lastA l) by rw [← e]]
  rw [wo, List.filter_append]
  rw [show (restA l).filter (fun y => y != Ytcifhjkodbaghaa.lastA l) = restA l from wo_none h1]
  simp
theorem takeK (l : Ls) (h : 0 < l.A.length) : List.drop (Int.toNat 0) (List.take (((l.A.length - 1 : Nat) : Int)).toNat (rowsI l.A)) = rowsI (restA l) := by
  rw [Int.toNat_natCast, restA, rowsI, rowsI, List.map_take]; rfl
set_option maxRecDepth 20000 in
set_option maxHeartbeats 1000000 in
theorem ok45 (l : Ls) (hl : SmallL l) : FnC Try.prog 45 [] [.agg l.c] (.agg (balF l).c) [] := by
  refine fn_okC (ob0 := []) (rc := rc45) (rvs := rv45) Try.func45 rfl rcq45 rvq45 (show 1 ≤ _ by decide) ?_
  generalize hk : balF l = q
  rw [balF] at hk
  repeat ((conv => whnf); first | refine Cd.seq ?_ | refine Cd.cut ?_ | refine Cd.reg ?_ | refine Cd.block ?_ | refine Cd.cond ?_ | refine Cd.dreg ?_ | refine Cd.skip ?_ | refine Cd.ret ?_ | refine Cd.exit ?_ | refine Cd.loop ?_ | refine ⟨rfl, ?_⟩ | refine ⟨Nat.le_of_ble_eq_true rfl, ?_⟩ | refine ⟨.inl rfl, ?_⟩ | refine ⟨fun h => Bool.noConfusion h, ?_⟩ | refine .inl ⟨_, fun _ => ⟨purA rfl, (by first | exact ok65 l hl | exact ok42 l hl)⟩, .inl rfl, ?_⟩)
  conv => whnf
  refine ⟨fun c1 => ?_, fun c1 => ?_⟩ <;> try simp only [Bool.cond_true_left, Bool.cond_false_right, Bool.not_eq_true', Bool.not_eq_false', Bool.not_not] at c1
  · rw [show (!chkL l) = true by rw [c1]; rfl, cond_true] at hk
    subst hk
    repeat ((conv => whnf); first | refine Cd.seq ?_ | refine Cd.cut ?_ | refine Cd.reg ?_ | refine Cd.block ?_ | refine Cd.cond ?_ | refine Cd.dreg ?_ | refine Cd.skip ?_ | refine Cd.ret ?_ | refine Cd.exit ?_ | refine Cd.loop ?_ | refine ⟨rfl, ?_⟩ | refine ⟨Nat.le_of_ble_eq_true rfl, ?_⟩ | refine ⟨.inl rfl, ?_⟩ | refine ⟨fun h => Bool.noConfusion h, ?_⟩)
    conv => whnf
    refine ⟨[], ?_, rfl, trivial, rfl, ?_⟩
    · exact trivial
    try subst hk
    repeat' (first | exact trivial | rfl | exact .inl rfl | exact .inr rfl | exact id | exact (fun h => Bool.noConfusion h) | refine And.intro ?_ ?_)
  have hP := (chk_iff' l).1 c1
  rw [show (!chkL l) = false by rw [c1]; rfl, cond_false] at hk
  repeat ((conv => whnf); first | refine Cd.seq ?_ | refine Cd.cut ?_ | refine Cd.reg ?_ | refine Cd.block ?_ | refine Cd.cond ?_ | refine Cd.dreg ?_ | refine Cd.skip ?_ | refine Cd.ret ?_ | refine Cd.exit ?_ | refine Cd.loop ?_ | refine ⟨rfl, ?_⟩ | refine ⟨Nat.le_of_ble_eq_true rfl, ?_⟩ | refine ⟨.inl rfl, ?_⟩ | refine ⟨fun h => Bool.noConfusion h, ?_⟩)
  conv => whnf
  rw [rowsI_len]
  generalize hn : l.A.length = n at hk ⊢
  have hn' : n ≤ 64 := by have := hP.len; rw [List.length_append] at this; omega
  refine ⟨Nat × Ls, fun p => (p.1 ≤ n ∧ balN (n - p.1) p.2 = q) ∧ ChkP p.2, fun p => ⟨[(2, ⟨[], true, .ptr 0 0 0⟩), (3, ⟨[], true, .ptr 1 0 0⟩), (13, ⟨[], true, .int .i64 (n : Int)⟩), (14, ⟨[], true, .int .i64 (p.1 : Int)⟩)],
    [(0, .box [.lst 0 true [], .lst 0 true [], .lst 0 true []]), (1, .box p.2.c)], 2⟩, fun p => n - p.1, ⟨(0, l), ⟨⟨by simp, hk⟩, hP⟩, ?_⟩, fun p hp => ?_⟩
  · refine viewI [some 1, some 2] rfl rfl ?_ rfl ?_ rfl ?_
    repeat' (first | exact trivial | rfl | exact .inl rfl | exact .inr rfl | exact id | exact (fun h => Bool.noConfusion h) | refine And.intro ?_ ?_)
  obtain ⟨i, m⟩ := p
  obtain ⟨⟨hp1, hp2⟩, hm⟩ := hp
  dsimp only at hp1 hp2 hm ⊢
  have hml := hm.len
  rw [List.length_append] at hml
  have hmr := hm.lenR
  repeat ((conv => whnf); first | refine Cd.seq ?_ | refine Cd.cut ?_ | refine Cd.reg ?_ | refine Cd.block ?_ | refine Cd.cond ?_ | refine Cd.dreg ?_ | refine Cd.skip ?_ | refine Cd.ret ?_ | refine Cd.exit ?_ | refine Cd.loop ?_ | refine ⟨rfl, ?_⟩ | refine ⟨Nat.le_of_ble_eq_true rfl, ?_⟩ | refine ⟨.inl rfl, ?_⟩ | refine ⟨fun h => Bool.noConfusion h, ?_⟩)
  conv => whnf
  refine ⟨fun b1 => ?_, fun b1 => ?_⟩ <;> try simp only [Bool.cond_true_left, Bool.cond_false_right, Bool.not_eq_true', Bool.not_eq_false', Bool.not_not] at b1
  · have b1 : i < n := by simp at b1; omega
    obtain ⟨k, hk⟩ : ∃ k, n - i = k + 1 := ⟨n - i - 1, by omega⟩
    rw [hk, balN] at hp2
    have hi1 : IntKind.i64.wrap ((i : Int) + 1) = ((i + 1 : Nat) : Int) := by rw [wrapI (by omega) (by omega)]; omega
    repeat ((conv => whnf); first | refine Cd.seq ?_ | refine Cd.cut ?_ | refine Cd.reg ?_ | refine Cd.block ?_ | refine Cd.cond ?_ | refine Cd.dreg ?_ | refine Cd.skip ?_ | refine Cd.ret ?_ | refine Cd.exit ?_ | refine Cd.loop ?_ | refine ⟨rfl, ?_⟩ | refine ⟨Nat.le_of_ble_eq_true rfl, ?_⟩ | refine ⟨.inl rfl, ?_⟩ | refine ⟨fun h => Bool.noConfusion h, ?_⟩)
    conv => whnf
    rw [rowsI_len, rowsI_len]
    refine ⟨fun b2 => ?_, fun b2 => ?_⟩ <;> try simp only [Bool.cond_true_left, Bool.cond_false_right, Bool.not_eq_true', Bool.not_eq_false', Bool.not_not] at b2
    · rw [b2, cond_true] at hp2
      subst hp2
      repeat ((conv => whnf); first | refine Cd.seq ?_ | refine Cd.cut ?_ | refine Cd.reg ?_ | refine Cd.block ?_ | refine Cd.cond ?_ | refine Cd.dreg ?_ | refine Cd.skip ?_ | refine Cd.ret ?_ | refine Cd.exit ?_ | refine Cd.loop ?_ | refine ⟨rfl, ?_⟩ | refine ⟨Nat.le_of_ble_eq_true rfl, ?_⟩ | refine ⟨.inl rfl, ?_⟩ | refine ⟨fun h => Bool.noConfusion h, ?_⟩)
      conv => whnf
      refine ⟨[], ?_, rfl, trivial, rfl, ?_⟩
      · exact trivial
      try subst hk
      repeat' (first | exact trivial | rfl | exact .inl rfl | exact .inr rfl | exact id | exact (fun h => Bool.noConfusion h) | refine And.intro ?_ ?_)
    rw [b2, cond_false] at hp2
    have b2 : 0 < m.A.length := by simp at b2; omega
    obtain ⟨l1, l2, l3⟩ := hm.lastA b2
    have hlA : m.A.getD (m.A.length - 1) 0 = lastA m := rfl
    repeat ((conv => whnf); first | refine Cd.seq ?_ | refine Cd.cut ?_ | refine Cd.reg ?_ | refine Cd.block ?_ | refine Cd.cond ?_ | refine Cd.dreg ?_ | refine Cd.skip ?_ | refine Cd.ret ?_ | refine Cd.exit ?_ | refine Cd.loop ?_ | refine ⟨rfl, ?_⟩ | refine ⟨Nat.le_of_ble_eq_true rfl, ?_⟩ | refine ⟨.inl rfl, ?_⟩ | refine ⟨fun h => Bool.noConfusion h, ?_⟩)
    conv => whnf
    rw [rowsI_len, wrapI (n := (m.A.length : Int) - 1) (by omega) (by omega), show ((m.A.length : Int) - 1) = ((m.A.length - 1 : Nat) : Int) by omega]
    refine ⟨fun _ => ⟨rfl, by omega, by omega⟩, ?_⟩
    rw [rowsI_getK m.A (m.A.length - 1) (by omega), hlA]
    repeat ((conv => whnf); first | refine Cd.seq ?_ | refine Cd.cut ?_ | refine Cd.reg ?_ | refine Cd.block ?_ | refine Cd.cond ?_ | refine Cd.dreg ?_ | refine Cd.skip ?_ | refine Cd.ret ?_ | refine Cd.exit ?_ | refine Cd.loop ?_ | refine ⟨rfl, ?_⟩ | refine ⟨Nat.le_of_ble_eq_true rfl, ?_⟩ | refine ⟨.inl rfl, ?_⟩ | refine ⟨fun h => Bool.noConfusion h, ?_⟩ | refine .inl ⟨_, fun _ => ⟨purA rfl, (by first | exact ok73 m.R false (lastA m) (by omega))⟩, .inl rfl, ?_⟩)
    conv => whnf
    have hbal := hm.bal b2
    have hS : balS m = bif decide (lastA m ∈ m.R) then ⟨lastA m :: restA m, m.I, wo m.R (lastA m)⟩ else ⟨restA m, lastA m :: m.I, m.R⟩ := rfl
    have hki : k = n - (i + 1) := by omega
    rw [hki] at hp2
    generalize balS m = m' at hbal hp2 hS
    refine ⟨fun b3 => ?_, fun b3 => ?_⟩ <;> try simp only [Bool.cond_true_left, Bool.cond_false_right, Bool.not_eq_true', Bool.not_eq_false', Bool.not_not] at b3
    · rw [b3, cond_true] at hS
      repeat ((conv => whnf); first | refine Cd.seq ?_ | refine Cd.cut ?_ | refine Cd.reg ?_ | refine Cd.block ?_ | refine Cd.cond ?_ | refine Cd.dreg ?_ | refine Cd.skip ?_ | refine Cd.ret ?_ | refine Cd.exit ?_ | refine Cd.loop ?_ | refine ⟨rfl, ?_⟩ | refine ⟨Nat.le_of_ble_eq_true rfl, ?_⟩ | refine ⟨.inl rfl, ?_⟩ | refine ⟨fun h => Bool.noConfusion h, ?_⟩ | refine .inl ⟨_, fun _ => ⟨purA rfl, (by first | exact ok68 m.A false (lastA m) (by omega) | exact ok71 m.R false (lastA m) (by omega))⟩, .inl rfl, ?_⟩)
      conv => whnf
      rw [l2, hi1]
      refine ⟨(i + 1, m'), ⟨⟨by show i + 1 ≤ n; omega, hp2⟩, hbal⟩, ?_, by show n - (i + 1) < n - i; omega⟩
      subst hS
      refine viewI [some 0, some 1] rfl rfl ?_ rfl ?_ rfl ?_
      repeat' (first | exact trivial | rfl | exact .inl rfl | exact .inr rfl | exact id | exact (fun h => Bool.noConfusion h) | refine And.intro ?_ ?_)
    rw [b3, cond_false] at hS
    repeat ((conv => whnf); first | refine Cd.seq ?_ | refine Cd.cut ?_ | refine Cd.reg ?_ | refine Cd.block ?_ | refine Cd.cond ?_ | refine Cd.dreg ?_ | refine Cd.skip ?_ | refine Cd.ret ?_ | refine Cd.exit ?_ | refine Cd.loop ?_ | refine ⟨rfl, ?_⟩ | refine ⟨Nat.le_of_ble_eq_true rfl, ?_⟩ | refine ⟨.inl rfl, ?_⟩ | refine ⟨fun h => Bool.noConfusion h, ?_⟩)
    conv => whnf
    rw [rowsI_len, wrapI (n := (m.A.length : Int) - 1) (by omega) (by omega), show ((m.A.length : Int) - 1) = ((m.A.length - 1 : Nat) : Int) by omega]
    refine ⟨fun _ => ⟨.inl rfl, Int.le_refl _, by omega, by omega⟩, ?_⟩
    rw [takeK m b2]
    repeat ((conv => whnf); first | refine Cd.seq ?_ | refine Cd.cut ?_ | refine Cd.reg ?_ | refine Cd.block ?_ | refine Cd.cond ?_ | refine Cd.dreg ?_ | refine Cd.skip ?_ | refine Cd.ret ?_ | refine Cd.exit ?_ | refine Cd.loop ?_ | refine ⟨rfl, ?_⟩ | refine ⟨Nat.le_of_ble_eq_true rfl, ?_⟩ | refine ⟨.inl rfl, ?_⟩ | refine ⟨fun h => Bool.noConfusion h, ?_⟩ | refine .inl ⟨_, fun _ => ⟨purA rfl, (by first | exact ok68 m.I false (lastA m) (by omega))⟩, .inl rfl, ?_⟩)
    conv => whnf
    rw [l3, hi1]
    refine ⟨(i + 1, m'), ⟨⟨by show i + 1 ≤ n; omega, hp2⟩, hbal⟩, ?_, by show n - (i + 1) < n - i; omega⟩
    subst hS
    refine viewI [some 0, some 1] rfl rfl ?_ rfl ?_ rfl ?_
    repeat' (first | exact trivial | rfl | exact .inl rfl | exact .inr rfl | exact id | exact (fun h => Bool.noConfusion h) | refine And.intro ?_ ?_)
  have b1 : i = n := by simp at b1; omega
  rw [b1, Nat.sub_self] at hp2
  have hp2 : m = q := hp2
  subst hp2
  repeat ((conv => whnf); first | refine Cd.seq ?_ | refine Cd.cut ?_ | refine Cd.reg ?_ | refine Cd.block ?_ | refine Cd.cond ?_ | refine Cd.dreg ?_ | refine Cd.skip ?_ | refine Cd.ret ?_ | refine Cd.exit ?_ | refine Cd.loop ?_ | refine ⟨rfl, ?_⟩ | refine ⟨Nat.le_of_ble_eq_true rfl, ?_⟩ | refine ⟨.inl rfl, ?_⟩ | refine ⟨fun h => Bool.noConfusion h, ?_⟩)
  conv => whnf
  refine ⟨[], ?_, rfl, trivial, rfl, ?_⟩
  · exact trivial
  try subst hk
  repeat' (first | exact trivial | rfl | exact .inl rfl | exact .inr rfl | exact id | exact (fun h => Bool.noConfusion h) | refine And.intro ?_ ?_)
set_option maxRecDepth 20000 in
set_option maxHeartbeats 1000000 in
theorem ok46 (l : Ls) (hl : SmallL l) : FnC Try.prog 46 [] [.agg l.c] (.agg (balF l).c) [] := by
  refine fn_okC (ob0 := []) (rc := rc46) (rvs := rv46) Try.func46 rfl rcq46 rvq46 (show 1 ≤ _ by decide) ?_
  generalize hk : balF l = q
  rw [balF] at hk
  repeat ((conv => whnf); first | refine Cd.seq ?_ | refine Cd.cut ?_ | refine Cd.reg ?_ | refine Cd.block ?_ | refine Cd.cond ?_ | refine Cd.dreg ?_ | refine Cd.skip ?_ | refine Cd.ret ?_ | refine Cd.exit ?_ | refine Cd.loop ?_ | refine ⟨rfl, ?_⟩ | refine ⟨Nat.le_of_ble_eq_true rfl, ?_⟩ | refine ⟨.inl rfl, ?_⟩ | refine ⟨fun h => Bool.noConfusion h, ?_⟩ | refine .inl ⟨_, fun _ => ⟨purA rfl, (by first | exact ok43 l hl)⟩, .inl rfl, ?_⟩)
  conv => whnf
  refine ⟨fun c1 => ?_, fun c1 => ?_⟩ <;> try simp only [Bool.cond_true_left, Bool.cond_false_right, Bool.not_eq_true', Bool.not_eq_false', Bool.not_not] at c1
  · rw [show (!chkL l) = true by rw [c1]; rfl, cond_true] at hk
    subst hk
    repeat ((conv => whnf); first | refine Cd.seq ?_ | refine Cd.cut ?_ | refine Cd.reg ?_ | refine Cd.block ?_ | refine Cd.cond ?_ | refine Cd.dreg ?_ | refine Cd.skip ?_ | refine Cd.ret ?_ | refine Cd.exit ?_ | refine Cd.loop ?_ | refine ⟨rfl, ?_⟩ | refine ⟨Nat.le_of_ble_eq_true rfl, ?_⟩ | refine ⟨.inl rfl, ?_⟩ | refine ⟨fun h => Bool.noConfusion h, ?_⟩)
    conv => whnf
    refine ⟨[], ?_, rfl, trivial, rfl, ?_⟩
    · exact trivial
    try subst hk
    repeat' (first | exact trivial | rfl | exact .inl rfl | exact .inr rfl | exact id | exact (fun h => Bool.noConfusion h) | refine And.intro ?_ ?_)
  have hP := (chk_iff' l).1 c1
  rw [show (!chkL l) = false by rw [c1]; rfl, cond_false] at hk
  repeat ((conv => whnf); first | refine Cd.seq ?_ | refine Cd.cut ?_ | refine Cd.reg ?_ | refine Cd.block ?_ | refine Cd.cond ?_ | refine Cd.dreg ?_ | refine Cd.skip ?_ | refine Cd.ret ?_ | refine Cd.exit ?_ | refine Cd.loop ?_ | refine ⟨rfl, ?_⟩ | refine ⟨Nat.le_of_ble_eq_true rfl, ?_⟩ | refine ⟨.inl rfl, ?_⟩ | refine ⟨fun h => Bool.noConfusion h, ?_⟩)
  conv => whnf
  rw [rowsI_len]
  have hn' : l.A.length ≤ 64 := by have := hP.len; rw [List.length_append] at this; omega
  refine ⟨Nat × Ls, fun p => (p.1 ≤ 64 ∧ balN p.1 p.2 = q) ∧ ChkP p.2, fun p => ⟨[(1, ⟨[], true, .ptr 0 0 0⟩), (2, ⟨[], true, .ptr 1 0 0⟩), (3, ⟨[], true, .int .i64 (p.1 : Int)⟩)],
    [(0, .box p.2.c), (1, .box [.lst 0 true [], .lst 0 true [], .lst 0 true []])], 2⟩, fun p => p.1, ⟨(l.A.length, l), ⟨⟨hn', hk⟩, hP⟩, ?_⟩, fun p hp => ?_⟩
  · refine viewI [some 0, some 1] rfl rfl ?_ rfl ?_ rfl ?_
    repeat' (first | exact trivial | rfl | exact .inl rfl | exact .inr rfl | exact id | exact (fun h => Bool.noConfusion h) | refine And.intro ?_ ?_)
  obtain ⟨n, m⟩ := p
  obtain ⟨⟨hp1, hp2⟩, hm⟩ := hp
  dsimp only at hp1 hp2 hm ⊢
  have hml := hm.len
  rw [List.length_append] at hml
  have hmr := hm.lenR
  repeat ((conv => whnf); first | refine Cd.seq ?_ | refine Cd.cut ?_ | refine Cd.reg ?_ | refine Cd.block ?_ | refine Cd.cond ?_ | refine Cd.dreg ?_ | refine Cd.skip ?_ | refine Cd.ret ?_ | refine Cd.exit ?_ | refine Cd.loop ?_ | refine ⟨rfl, ?_⟩ | refine ⟨Nat.le_of_ble_eq_true rfl, ?_⟩ | refine ⟨.inl rfl, ?_⟩ | refine ⟨fun h => Bool.noConfusion h, ?_⟩)
  conv => whnf
  rw [rowsI_len, rowsI_len]
  by_cases hn0 : n = 0
  · subst hn0
    have hp2 : m = q := hp2
    subst hp2
    rw [show decide (0 < (((0 : Nat)) : Int)) = false from rfl]
    repeat ((conv => whnf); first | refine Cd.seq ?_ | refine Cd.cut ?_ | refine Cd.reg ?_ | refine Cd.block ?_ | refine Cd.cond ?_ | refine Cd.dreg ?_ | refine Cd.skip ?_ | refine Cd.ret ?_ | refine Cd.exit ?_ | refine Cd.loop ?_ | refine ⟨rfl, ?_⟩ | refine ⟨Nat.le_of_ble_eq_true rfl, ?_⟩ | refine ⟨.inl rfl, ?_⟩ | refine ⟨fun h => Bool.noConfusion h, ?_⟩ | refine ⟨?_, fun h => Bool.noConfusion h⟩ | refine fun (_ : false = false) => ?_ | refine fun (_ : true = true) => ?_)
    conv => whnf
    refine ⟨[], ?_, rfl, trivial, rfl, ?_⟩
    · exact trivial
    try subst hk
    repeat' (first | exact trivial | rfl | exact .inl rfl | exact .inr rfl | exact id | exact (fun h => Bool.noConfusion h) | refine And.intro ?_ ?_)
  obtain ⟨k, rfl⟩ : ∃ k, n = k + 1 := ⟨n - 1, by omega⟩
  rw [balN] at hp2
  rw [show decide (0 < (((k + 1 : Nat)) : Int)) = true by rw [decide_eq_true_eq]; omega, cond_true]
  refine ⟨fun b2 => ?_, fun b2 => ?_⟩ <;> try simp only [Bool.cond_true_left, Bool.cond_false_right, Bool.not_eq_true', Bool.not_eq_false', Bool.not_not] at b2
  · have b2 : m.I.length < m.A.length := by simp at b2; omega
    rw [show decide ((m.A.length : Int) ≤ (m.I.length : Int)) = false by rw [decide_eq_false_iff_not]; omega, cond_false] at hp2
    have b2 : 0 < m.A.length := by omega
    have hlA : m.A.getD (m.A.length - 1) 0 = lastA m := rfl
    have hk1 : IntKind.i64.wrap (((k + 1 : Nat) : Int) - 1) = (k : Int) := by rw [wrapI (by omega) (by omega)]; omega
    repeat ((conv => whnf); first | refine Cd.seq ?_ | refine Cd.cut ?_ | refine Cd.reg ?_ | refine Cd.block ?_ | refine Cd.cond ?_ | refine Cd.dreg ?_ | refine Cd.skip ?_ | refine Cd.ret ?_ | refine Cd.exit ?_ | refine Cd.loop ?_ | refine ⟨rfl, ?_⟩ | refine ⟨Nat.le_of_ble_eq_true rfl, ?_⟩ | refine ⟨.inl rfl, ?_⟩ | refine ⟨fun h => Bool.noConfusion h, ?_⟩)
    conv => whnf
    rw [rowsI_len, wrapI (n := (m.A.length : Int) - 1) (by omega) (by omega), show ((m.A.length : Int) - 1) = ((m.A.length - 1 : Nat) : Int) by omega]
    refine ⟨fun _ => ⟨rfl, by omega, by omega⟩, ?_⟩
    rw [rowsI_getK m.A (m.A.length - 1) (by omega), hlA]
    repeat ((conv => whnf); first | refine Cd.seq ?_ | refine Cd.cut ?_ | refine Cd.reg ?_ | refine Cd.block ?_ | refine Cd.cond ?_ | refine Cd.dreg ?_ | refine Cd.skip ?_ | refine Cd.ret ?_ | refine Cd.exit ?_ | refine Cd.loop ?_ | refine ⟨rfl, ?_⟩ | refine ⟨Nat.le_of_ble_eq_true rfl, ?_⟩ | refine ⟨.inl rfl, ?_⟩ | refine ⟨fun h => Bool.noConfusion h, ?_⟩)
    conv => whnf
    refine ⟨Unit, fun _ => True, fun _ => ⟨[(1, ⟨[], true, .ptr 0 0 0⟩), (2, ⟨[], true, .ptr 1 0 0⟩), (3, ⟨[], true, .int .i64 ((k + 1 : Nat) : Int)⟩), (4, ⟨[], true, .int .i64 (lastA m)⟩), (5, ⟨[], true, .lst 1 false (rowsI (restA m))⟩)],
      [(0, .box m.c), (1, .box [.lst 0 true [], .lst 0 true [], .lst 0 true []])], 2⟩, ?_, fun _ _ => ?_⟩
    · repeat ((conv => whnf); first | refine Cd.seq ?_ | refine Cd.cut ?_ | refine Cd.reg ?_ | refine Cd.block ?_ | refine Cd.cond ?_ | refine Cd.dreg ?_ | refine Cd.skip ?_ | refine Cd.ret ?_ | refine Cd.exit ?_ | refine Cd.loop ?_ | refine ⟨rfl, ?_⟩ | refine ⟨Nat.le_of_ble_eq_true rfl, ?_⟩ | refine ⟨.inl rfl, ?_⟩ | refine ⟨fun h => Bool.noConfusion h, ?_⟩)
      conv => whnf
      rw [rowsI_len, wrapI (n := (m.A.length : Int) - 1) (by omega) (by omega), show ((m.A.length : Int) - 1) = ((m.A.length - 1 : Nat) : Int) by omega]
      refine ⟨fun _ => ⟨.inl rfl, Int.le_refl _, by omega, by omega⟩, ?_⟩
      rw [takeK m b2]
      repeat ((conv => whnf); first | refine Cd.seq ?_ | refine Cd.cut ?_ | refine Cd.reg ?_ | refine Cd.block ?_ | refine Cd.cond ?_ | refine Cd.dreg ?_ | refine Cd.skip ?_ | refine Cd.ret ?_ | refine Cd.exit ?_ | refine Cd.loop ?_ | refine ⟨rfl, ?_⟩ | refine ⟨Nat.le_of_ble_eq_true rfl, ?_⟩ | refine ⟨.inl rfl, ?_⟩ | refine ⟨fun h => Bool.noConfusion h, ?_⟩)
      conv => whnf
      have hrl : (restA m).length ≤ 64 := by rw [restA, List.length_take]; omega
      rw [rowsI_len]
      refine ⟨by omega, by omega, ?_⟩
      repeat ((conv => whnf); first | refine Cd.seq ?_ | refine Cd.cut ?_ | refine Cd.reg ?_ | refine Cd.block ?_ | refine Cd.cond ?_ | refine Cd.dreg ?_ | refine Cd.skip ?_ | refine Cd.ret ?_ | refine Cd.exit ?_ | refine Cd.loop ?_ | refine ⟨rfl, ?_⟩ | refine ⟨Nat.le_of_ble_eq_true rfl, ?_⟩ | refine ⟨.inl rfl, ?_⟩ | refine ⟨fun h => Bool.noConfusion h, ?_⟩)
      conv => whnf
      refine ⟨(), trivial, ?_⟩
      refine viewI [some 0, some 1] rfl rfl ?_ rfl ?_ rfl ?_
      repeat' (first | exact trivial | rfl | exact .inl rfl | exact .inr rfl | exact id | exact (fun h => Bool.noConfusion h) | refine And.intro ?_ ?_)
      · show 0 + (restA m).length ≤ _
        rw [rowsI_len]; omega
      · exact take0 (rowsI_len _)
    have hrl : (restA m).length ≤ 64 := by rw [restA, List.length_take]; omega
    repeat ((conv => whnf); first | refine Cd.seq ?_ | refine Cd.cut ?_ | refine Cd.reg ?_ | refine Cd.block ?_ | refine Cd.cond ?_ | refine Cd.dreg ?_ | refine Cd.skip ?_ | refine Cd.ret ?_ | refine Cd.exit ?_ | refine Cd.loop ?_ | refine ⟨rfl, ?_⟩ | refine ⟨Nat.le_of_ble_eq_true rfl, ?_⟩ | refine ⟨.inl rfl, ?_⟩ | refine ⟨fun h => Bool.noConfusion h, ?_⟩ | refine .inl ⟨_, fun _ => ⟨purA rfl, (by first | exact ok54 m.R false (lastA m) (by omega))⟩, .inl rfl, ?_⟩)
    conv => whnf
    rw [atM]
    have hbal := hm.bal b2
    have hS : balS m = bif decide (lastA m ∈ m.R) then ⟨lastA m :: restA m, m.I, wo m.R (lastA m)⟩ else ⟨restA m, lastA m :: m.I, m.R⟩ := rfl
    generalize balS m = m' at hbal hp2 hS
    refine ⟨fun b3 => ?_, fun b3 => ?_⟩ <;> try simp only [Bool.cond_true_left, Bool.cond_false_right, Bool.not_eq_true', Bool.not_eq_false', Bool.not_not] at b3
    · rw [b3, cond_true] at hS
      repeat ((conv => whnf); first | refine Cd.seq ?_ | refine Cd.cut ?_ | refine Cd.reg ?_ | refine Cd.block ?_ | refine Cd.cond ?_ | refine Cd.dreg ?_ | refine Cd.skip ?_ | refine Cd.ret ?_ | refine Cd.exit ?_ | refine Cd.loop ?_ | refine ⟨rfl, ?_⟩ | refine ⟨Nat.le_of_ble_eq_true rfl, ?_⟩ | refine ⟨.inl rfl, ?_⟩ | refine ⟨fun h => Bool.noConfusion h, ?_⟩ | refine .inl ⟨_, fun _ => ⟨purA rfl, (by first | exact ok70 (restA m) false (lastA m) (by omega) | exact ok72 m.R false (lastA m) (by omega))⟩, .inl rfl, ?_⟩)
      conv => whnf
      rw [hk1]
      refine ⟨(k, m'), ⟨⟨by show k ≤ 64; omega, hp2⟩, hbal⟩, ?_, by show k < k + 1; omega⟩
      subst hS
      refine viewI [some 0, some 1] rfl rfl ?_ rfl ?_ rfl ?_
      repeat' (first | exact trivial | rfl | exact .inl rfl | exact .inr rfl | exact id | exact (fun h => Bool.noConfusion h) | refine And.intro ?_ ?_)
    rw [b3, cond_false] at hS
    repeat ((conv => whnf); first | refine Cd.seq ?_ | refine Cd.cut ?_ | refine Cd.reg ?_ | refine Cd.block ?_ | refine Cd.cond ?_ | refine Cd.dreg ?_ | refine Cd.skip ?_ | refine Cd.ret ?_ | refine Cd.exit ?_ | refine Cd.loop ?_ | refine ⟨rfl, ?_⟩ | refine ⟨Nat.le_of_ble_eq_true rfl, ?_⟩ | refine ⟨.inl rfl, ?_⟩ | refine ⟨fun h => Bool.noConfusion h, ?_⟩ | refine .inl ⟨_, fun _ => ⟨purA rfl, (by first | exact ok70 m.I false (lastA m) (by omega))⟩, .inl rfl, ?_⟩)
    conv => whnf
    rw [hk1]
    refine ⟨(k, m'), ⟨⟨by show k ≤ 64; omega, hp2⟩, hbal⟩, ?_, by show k < k + 1; omega⟩
    subst hS
    refine viewI [some 0, some 1] rfl rfl ?_ rfl ?_ rfl ?_
    repeat' (first | exact trivial | rfl | exact .inl rfl | exact .inr rfl | exact id | exact (fun h => Bool.noConfusion h) | refine And.intro ?_ ?_)
  have b2 : m.A.length ≤ m.I.length := by simp at b2; omega
  rw [show decide ((m.A.length : Int) ≤ (m.I.length : Int)) = true by rw [decide_eq_true_eq]; omega, cond_true] at hp2
  subst hp2
  repeat ((conv => whnf); first | refine Cd.seq ?_ | refine Cd.cut ?_ | refine Cd.reg ?_ | refine Cd.block ?_ | refine Cd.cond ?_ | refine Cd.dreg ?_ | refine Cd.skip ?_ | refine Cd.ret ?_ | refine Cd.exit ?_ | refine Cd.loop ?_ | refine ⟨rfl, ?_⟩ | refine ⟨Nat.le_of_ble_eq_true rfl, ?_⟩ | refine ⟨.inl rfl, ?_⟩ | refine ⟨fun h => Bool.noConfusion h, ?_⟩)
  conv => whnf
  refine ⟨[], ?_, rfl, trivial, rfl, ?_⟩
  · exact trivial
  try subst hk
  repeat' (first | exact trivial | rfl | exact .inl rfl | exact .inr rfl | exact id | exact (fun h => Bool.noConfusion h) | refine And.intro ?_ ?_)
end Go.Proofs.Ytcifhjkodbaghaa

namespace Go.Proofs.Ytcifhjkodbaghaa
open Go Go.Sk Go.RowKit

/- pagecache/lru.Scan -/
def rc50 : RC :=
  (.seq
  (.reg [⟨(some 3), none, (.box (.t 0))⟩,
    ⟨(some 6), none, (.alloc [(.lst 0 true []), (.lst 0 true []), (.lst 0 true [])])⟩,
    ⟨(some 7), none, (.mv (.c (.lst 0 true [])))⟩] [])
  (.seq
  (.reg [⟨(some 15), none, (.ld true 3 (.t 3))⟩,
    ⟨(some 16), none, (.call 65 [(.t 15)])⟩,
    ⟨(some 8), none, (.alloc [(.lst 0 true []), (.lst 0 true []), (.lst 0 true [])])⟩,
    ⟨none, none, (.st 3 (.t 8) (.t 16))⟩] [15, 16])
  (.seq
  (.seq
  (.reg [⟨(some 17), none, (.ld true 3 (.t 3))⟩,
    ⟨(some 18), none, (.call 42 [(.t 17)])⟩,
    ⟨(some 19), none, (.un .not (.t 18))⟩] [17, 18])
  (.cond (.t 19)
   (.seq
   (.reg [⟨(some 20), none, (.ld true 3 (.t 8))⟩,
     ⟨none, none, (.st 3 (.t 6) (.t 20))⟩,
     ⟨(some 7), none, (.mv (.c (.lst 0 true [])))⟩] [20])
   .ret)
   .skip))
  (.seq
  (.reg [⟨(some 21), none, .mkmap⟩,
    ⟨(some 9), none, (.mv (.t 21))⟩] [21])
  (.seq
  (.seq
  (.reg [⟨(some 22), none, (.mv (.t 2))⟩,
    ⟨(some 23), none, (.len (.t 22))⟩,
    ⟨(some 24), none, (.mv (.c (.int .i64 0)))⟩] [])
  (.block 0
   (.loop
    (.seq
    (.reg [⟨(some 25), none, (.bin .lss (.t 24) (.t 23))⟩] [])
    (.seq
    (.cond (.t 25)
     .skip
     (.exit 0))
    (.seq
    (.block 1
     (.seq
     (.reg [⟨(some 26), none, (.iaddr 1 (.t 22) (.t 24))⟩,
       ⟨(some 27), none, (.ld false 1 (.t 26))⟩,
       ⟨(some 11), none, (.mv (.t 27))⟩] [26, 27])
     (.reg [⟨(some 28), none, (.mv (.t 9))⟩,
       ⟨(some 29), none, (.mv (.t 11))⟩,
       ⟨none, none, (.mput (.t 28) (.t 29) (.c (.bool true)))⟩] [28, 29])))
    (.reg [⟨(some 30), none, (.bin .add (.t 24) (.c (.int .i64 1)))⟩,
      ⟨(some 24), none, (.mv (.t 30))⟩] [30])))))))
  (.seq
  (.reg [⟨(some 12), none, (.mv (.c (.lst 0 true [])))⟩] [])
  (.seq
  (.seq
  (.reg [⟨(some 31), none, (.faddr 1 (.t 3))⟩,
    ⟨(some 32), none, (.ld false 1 (.t 31))⟩,
    ⟨(some 33), none, (.len (.t 32))⟩,
    ⟨(some 34), none, (.bin .sub (.t 33) (.c (.int .i64 1)))⟩,
    ⟨(some 13), none, (.mv (.t 34))⟩] [31, 32, 33, 34])
  (.block 2
   (.loop
    (.seq
    (.seq
    (.reg [⟨(some 35), none, (.mv (.t 13))⟩,
      ⟨(some 36), none, (.bin .geq (.t 35) (.c (.int .i64 0)))⟩,
      ⟨(some 37), none, (.mv (.t 36))⟩,
      ⟨(some 38), (some (37, true)), (.mv (.t 12))⟩,
      ⟨(some 39), (some (37, true)), (.len (.t 38))⟩,
      ⟨(some 40), (some (37, true)), (.mv (.t 1))⟩,
      ⟨(some 41), (some (37, true)), (.bin .lss (.t 39) (.t 40))⟩,
      ⟨(some 42), none, (.pick (.t 37) (.t 41) (.c (.bool false)))⟩] [35, 36, 37, 38, 39, 40, 41])
    (.cond (.t 42)
     .skip
     (.exit 2)))
    (.seq
    (.block 3
     (.seq
     (.reg [⟨(some 45), none, (.faddr 1 (.t 3))⟩,
       ⟨(some 46), none, (.ld false 1 (.t 45))⟩,
       ⟨(some 47), none, (.mv (.t 13))⟩,
       ⟨(some 48), none, (.iaddr 1 (.t 46) (.t 47))⟩,
       ⟨(some 49), none, (.ld false 1 (.t 48))⟩,
       ⟨(some 14), none, (.mv (.t 49))⟩] [45, 46, 47, 48, 49])
     (.block 4
      (.seq
      (.reg [⟨(some 55), none, (.mv (.t 9))⟩,
        ⟨(some 56), none, (.mv (.t 14))⟩,
        ⟨(some 57), none, (.mget (.bool false) false (.t 55) (.t 56))⟩,
        ⟨(some 54), none, (.mv (.t 57))⟩] [55, 56, 57])
      (.cond (.t 54)
       .skip
       (.seq
       (.reg [⟨(some 59), none, (.faddr 2 (.t 3))⟩,
         ⟨(some 60), none, (.ld false 1 (.t 59))⟩,
         ⟨(some 61), none, (.mv (.t 14))⟩,
         ⟨(some 62), none, (.call 73 [(.t 60), (.t 61)])⟩,
         ⟨(some 58), none, (.mv (.t 62))⟩] [59, 60, 61, 62])
       (.cond (.t 58)
        (.seq
        (.reg [⟨(some 63), none, (.faddr 1 (.t 8))⟩,
          ⟨(some 64), none, (.ld false 1 (.t 63))⟩,
          ⟨(some 65), none, (.mv (.t 14))⟩,
          ⟨(some 66), none, (.call 68 [(.t 64), (.t 65)])⟩,
          ⟨(some 67), none, (.faddr 1 (.t 8))⟩,
          ⟨none, none, (.st 1 (.t 67) (.t 66))⟩] [63, 64, 65, 66, 67])
        (.reg [⟨(some 68), none, (.faddr 2 (.t 8))⟩,
          ⟨(some 69), none, (.ld false 1 (.t 68))⟩,
          ⟨(some 70), none, (.mv (.t 14))⟩,
          ⟨(some 71), none, (.call 71 [(.t 69), (.t 70)])⟩,
          ⟨(some 72), none, (.faddr 2 (.t 8))⟩,
          ⟨none, none, (.st 1 (.t 72) (.t 71))⟩] [68, 69, 70, 71, 72]))
        (.reg [⟨(some 50), none, (.mv (.t 12))⟩,
          ⟨(some 51), none, (.mv (.t 14))⟩,
          ⟨(some 52), none, (.bslice 1 [(.int .i64 0)] 1 [(0, (.t 51))])⟩,
          ⟨(some 53), none, (.app 1 8 (.t 50) (.t 52))⟩,
          ⟨(some 12), none, (.mv (.t 53))⟩] [50, 51, 52, 53]))))))))
    (.reg [⟨(some 43), none, (.mv (.t 13))⟩,
      ⟨(some 44), none, (.bin .sub (.t 43) (.c (.int .i64 1)))⟩,
      ⟨(some 13), none, (.mv (.t 44))⟩] [43, 44]))))))
  (.seq
  (.reg [⟨(some 73), none, (.ld true 3 (.t 8))⟩,
    ⟨(some 74), none, (.mv (.t 12))⟩,
    ⟨none, none, (.st 3 (.t 6) (.t 73))⟩,
    ⟨(some 7), none, (.mv (.t 74))⟩] [73, 74])
  .ret))))))))
theorem rcq50 : resC Go.Proofs.Try.prog Go.Proofs.Try.f50.ntmps ((Go.Proofs.Try.f50.body).getD .skip) = some (strip rc50) := by kernel_rfl
def rv50 : List RV := [(.cell 6 true 3), (.tmp 7)]
theorem rvq50 : Go.Proofs.Try.f50.results.toList.mapM (resRV Go.Proofs.Try.prog) = some rv50 := by kernel_rfl

/- pagecache/pagecacheref08.Scan -/
def rc51 : RC :=
  (.seq
  (.reg [⟨(some 3), none, (.box (.t 0))⟩,
    ⟨(some 6), none, (.alloc [(.lst 0 true []), (.lst 0 true []), (.lst 0 true [])])⟩,
    ⟨(some 7), none, (.mv (.c (.lst 0 true [])))⟩] [])
  (.seq
  (.seq
  (.reg [⟨(some 12), none, (.ld true 3 (.t 3))⟩,
    ⟨(some 13), none, (.call 43 [(.t 12)])⟩,
    ⟨(some 14), none, (.un .not (.t 13))⟩,
    ⟨(some 15), none, (.mv (.t 14))⟩,
    ⟨(some 16), (some (15, false)), (.mv (.t 1))⟩,
    ⟨(some 17), (some (15, false)), (.bin .lss (.t 16) (.c (.int .i64 1)))⟩,
    ⟨(some 18), none, (.pick (.t 15) (.c (.bool true)) (.t 17))⟩] [12, 13, 14, 15, 16, 17])
  (.cond (.t 18)
   (.seq
   (.reg [⟨(some 19), none, (.ld true 3 (.t 3))⟩,
     ⟨none, none, (.st 3 (.t 6) (.t 19))⟩,
     ⟨(some 7), none, (.mv (.c (.lst 0 true [])))⟩] [19])
   .ret)
   .skip))
  (.cut
  (.reg [⟨(some 20), none, (.faddr 1 (.t 3))⟩,
    ⟨(some 21), none, (.ld false 1 (.t 20))⟩,
    ⟨(some 22), none, (.app 1 8 (.c (.lst 0 true [])) (.t 21))⟩,
    ⟨(some 8), none, (.mv (.t 22))⟩] [20, 21, 22])
  (.seq
  (.reg [⟨(some 9), none, (.mv (.c (.lst 0 true [])))⟩] [])
  (.seq
  (.seq
  (.reg [⟨(some 23), none, (.mv (.t 8))⟩,
    ⟨(some 24), none, (.len (.t 23))⟩,
    ⟨(some 25), none, (.bin .sub (.t 24) (.c (.int .i64 1)))⟩,
    ⟨(some 10), none, (.mv (.t 25))⟩] [23, 24, 25])
  (.block 0
   (.loop
    (.seq
    (.seq
    (.reg [⟨(some 26), none, (.mv (.t 10))⟩,
      ⟨(some 27), none, (.bin .geq (.t 26) (.c (.int .i64 0)))⟩,
      ⟨(some 28), none, (.mv (.t 27))⟩,
      ⟨(some 29), (some (28, true)), (.mv (.t 9))⟩,
      ⟨(some 30), (some (28, true)), (.len (.t 29))⟩,
      ⟨(some 31), (some (28, true)), (.mv (.t 1))⟩,
      ⟨(some 32), (some (28, true)), (.bin .lss (.t 30) (.t 31))⟩,
      ⟨(some 33), none, (.pick (.t 28) (.t 32) (.c (.bool false)))⟩] [26, 27, 28, 29, 30, 31, 32])
    (.cond (.t 33)
     .skip
     (.exit 0)))
    (.seq
    (.block 1
     (.seq
     (.reg [⟨(some 36), none, (.mv (.t 8))⟩,
       ⟨(some 37), none, (.mv (.t 10))⟩,
       ⟨(some 38), none, (.iaddr 1 (.t 36) (.t 37))⟩,
       ⟨(some 39), none, (.ld false 1 (.t 38))⟩,
       ⟨(some 11), none, (.mv (.t 39))⟩] [36, 37, 38, 39])
     (.block 2
      (.seq
      (.reg [⟨(some 45), none, (.mv (.t 2))⟩,
        ⟨(some 46), none, (.mv (.t 11))⟩,
        ⟨(some 47), none, (.call 54 [(.t 45), (.t 46)])⟩,
        ⟨(some 48), none, (.bin .geq (.t 47) (.c (.int .i64 0)))⟩,
        ⟨(some 44), none, (.mv (.t 48))⟩] [45, 46, 47, 48])
      (.cond (.t 44)
       .skip
       (.seq
       (.reg [⟨(some 50), none, (.faddr 2 (.t 3))⟩,
         ⟨(some 51), none, (.ld false 1 (.t 50))⟩,
         ⟨(some 52), none, (.mv (.t 11))⟩,
         ⟨(some 53), none, (.call 54 [(.t 51), (.t 52)])⟩,
         ⟨(some 54), none, (.bin .geq (.t 53) (.c (.int .i64 0)))⟩,
         ⟨(some 49), none, (.mv (.t 54))⟩] [50, 51, 52, 53, 54])
       (.cond (.t 49)
        (.dreg 13312 13536 [⟨(some 55), none, (.faddr 0 (.t 3))⟩,
          ⟨(some 56), none, (.ld false 1 (.t 55))⟩,
          ⟨(some 57), none, (.faddr 1 (.t 3))⟩,
          ⟨(some 58), none, (.ld false 1 (.t 57))⟩,
          ⟨(some 59), none, (.mv (.t 11))⟩,
          ⟨(some 60), none, (.call 72 [(.t 58), (.t 59)])⟩,
          ⟨(some 61), none, (.mv (.t 11))⟩,
          ⟨(some 62), none, (.call 70 [(.t 60), (.t 61)])⟩,
          ⟨(some 63), none, (.faddr 2 (.t 3))⟩,
          ⟨(some 64), none, (.ld false 1 (.t 63))⟩,
          ⟨(some 65), none, (.mv (.t 11))⟩,
          ⟨(some 66), none, (.call 72 [(.t 64), (.t 65)])⟩,
          ⟨(some 67), none, (.build [(.lst 0 true []), (.lst 0 true []), (.lst 0 true [])] [(0, (1, (.t 56))), (1, (1, (.t 62))), (2, (1, (.t 66)))])⟩,
          ⟨none, none, (.st 3 (.t 3) (.t 67))⟩] [55, 56, 57, 58, 59, 60, 61, 62, 63, 64, 65, 66, 67] [[], [0], [], [2], [], [3, 2, 4], [], [6, 5, 4, 2, 3], [], [8], [], [9, 8, 10, 7, 3, 2, 4, 5, 6], [1, 0, 11, 6, 5, 4, 2, 3, 7, 10, 8, 9], [12, 9, 8, 10, 7, 3, 2, 4, 5, 6, 11, 0, 1]] [13312, 13328, 13344, 13360, 13376, 13392, 13408, 13424, 13440, 13456, 13472, 13488, 13504, 13520])
        (.reg [⟨(some 40), none, (.mv (.t 9))⟩,
          ⟨(some 41), none, (.mv (.t 11))⟩,
          ⟨(some 42), none, (.bslice 1 [(.int .i64 0)] 1 [(0, (.t 41))])⟩,
          ⟨(some 43), none, (.app 1 8 (.t 40) (.t 42))⟩,
          ⟨(some 9), none, (.mv (.t 43))⟩] [40, 41, 42, 43]))))))))
    (.reg [⟨(some 34), none, (.mv (.t 10))⟩,
      ⟨(some 35), none, (.bin .sub (.t 34) (.c (.int .i64 1)))⟩,
      ⟨(some 10), none, (.mv (.t 35))⟩] [34, 35]))))))
  (.seq
  (.reg [⟨(some 68), none, (.ld true 3 (.t 3))⟩,
    ⟨(some 69), none, (.mv (.t 9))⟩,
    ⟨none, none, (.st 3 (.t 6) (.t 68))⟩,
    ⟨(some 7), none, (.mv (.t 69))⟩] [68, 69])
  .ret))))))
theorem rcq51 : resC Go.Proofs.Try.prog Go.Proofs.Try.f51.ntmps ((Go.Proofs.Try.f51.body).getD .skip) = some (strip rc51) := by kernel_rfl
def rv51 : List RV := [(.cell 6 true 3), (.tmp 7)]
theorem rvq51 : Go.Proofs.Try.f51.results.toList.mapM (resRV Go.Proofs.Try.prog) = some rv51 := by kernel_rfl

structure ScS where
  I : List Int
  R : List Int
  v : List Int
def scanS (R0 held : List Int) (s : ScS) (f : Int) : ScS :=
  bif decide (f ∈ held) then s else bif decide (f ∈ R0) then ⟨f :: wo s.I f, wo s.R f, s.v⟩ else ⟨s.I, s.R, s.v ++ [f]⟩
def scanG (R0 held : List Int) (n : Int) : List Int → ScS → ScS
  | [], s => s
  | f :: r, s => bif decide ((s.v.length : Int) < n) then scanG R0 held n r (scanS R0 held s f) else s
def scanF (l : Ls) (n : Int) (held : List Int) : Ls × List Int :=
  bif !chkL l then (l, []) else
  (⟨l.A, (scanG l.R held n l.I.reverse ⟨l.I, l.R, []⟩).I, (scanG l.R held n l.I.reverse ⟨l.I, l.R, []⟩).R⟩, (scanG l.R held n l.I.reverse ⟨l.I, l.R, []⟩).v)
theorem rev_take {l : List Int} {k : Nat} (h : k < l.length) : (l.take (k + 1)).reverse = l[k] :: (l.take k).reverse := by
  rw [List.take_succ_eq_append_getElem h, List.reverse_append]; rfl
theorem rev_take0 (l : List Int) : (l.take 0).reverse = [] := rfl
theorem rev_takeN (l : List Int) : (l.take l.length).reverse = l.reverse := by rw [List.take_length]
/-- How much a scan may have grown things. -/
structure ScB (l : Ls) (k : Nat) (s : ScS) : Prop where
  kk : k ≤ l.I.length
  i : s.I.length + k ≤ l.I.length + l.I.length
  r : s.R.length ≤ l.R.length
  v : s.v.length + k ≤ l.I.length
theorem ScB.next {l : Ls} {k : Nat} {s : ScS} (h : ScB l (k + 1) s) (R0 held : List Int) (f : Int) : ScB l k (scanS R0 held s f) := by
  obtain ⟨h1, h2, h3, h4⟩ := h
  unfold scanS
  cases decide (f ∈ held) with
  | true => exact ⟨by omega, by simp only [cond_true]; omega, h3, by simp only [cond_true]; omega⟩
  | false =>
    cases decide (f ∈ R0) with
    | true =>
      have := wo_len s.I f
      have := wo_len s.R f
      exact ⟨by omega, by simp only [cond_true, cond_false, List.length_cons]; omega, by simp only [cond_true, cond_false]; omega, by simp only [cond_true, cond_false]; omega⟩
    | false => exact ⟨by omega, by simp only [cond_false]; omega, h3, by simp only [cond_false, List.length_append, List.length_singleton]; omega⟩
set_option maxRecDepth 20000 in
set_option maxHeartbeats 1000000 in
theorem ok50 (l : Ls) (n : Int) (held : List Int) (t : Bool) (hl : SmallL l) (hh : held.length ≤ 100000) : FnC Try.prog 50 [] [.agg l.c, .int .i64 n, .lst 1 t (rowsI held)] (.tup [.agg (scanF l n held).1.c, .lst 1 false (rowsI (scanF l n held).2)]) [] := by
  refine fn_okC (ob0 := []) (rc := rc50) (rvs := rv50) Try.func50 rfl rcq50 rvq50 (show 3 ≤ _ by decide) ?_
  generalize hk : scanF l n held = q
  rw [scanF] at hk
  repeat ((conv => whnf); first | refine Cd.seq ?_ | refine Cd.cut ?_ | refine Cd.reg ?_ | refine Cd.block ?_ | refine Cd.cond ?_ | refine Cd.dreg ?_ | refine Cd.skip ?_ | refine Cd.ret ?_ | refine Cd.exit ?_ | refine Cd.loop ?_ | refine ⟨rfl, ?_⟩ | refine ⟨Nat.le_of_ble_eq_true rfl, ?_⟩ | refine ⟨.inl rfl, ?_⟩ | refine ⟨fun h => Bool.noConfusion h, ?_⟩ | refine .inl ⟨_, fun _ => ⟨purA rfl, (by first | exact ok65 l hl | exact ok42 l hl)⟩, .inl rfl, ?_⟩)
  conv => whnf
  refine ⟨fun c1 => ?_, fun c1 => ?_⟩ <;> try simp only [Bool.cond_true_left, Bool.cond_false_right, Bool.not_eq_true', Bool.not_eq_false', Bool.not_not] at c1
  · rw [show (!chkL l) = true by rw [c1]; rfl, cond_true] at hk
    subst hk
    repeat ((conv => whnf); first | refine Cd.seq ?_ | refine Cd.cut ?_ | refine Cd.reg ?_ | refine Cd.block ?_ | refine Cd.cond ?_ | refine Cd.dreg ?_ | refine Cd.skip ?_ | refine Cd.ret ?_ | refine Cd.exit ?_ | refine Cd.loop ?_ | refine ⟨rfl, ?_⟩ | refine ⟨Nat.le_of_ble_eq_true rfl, ?_⟩ | refine ⟨.inl rfl, ?_⟩ | refine ⟨fun h => Bool.noConfusion h, ?_⟩)
    conv => whnf
    refine ⟨[], ?_, rfl, trivial, rfl, ?_⟩
    · exact trivial
    try subst hk
    repeat' (first | exact trivial | rfl | exact .inl rfl | exact .inr rfl | exact id | exact (fun h => Bool.noConfusion h) | refine And.intro ?_ ?_)
  have hP := (chk_iff' l).1 c1
  rw [show (!chkL l) = false by rw [c1]; rfl, cond_false] at hk
  have hml := hP.len
  rw [List.length_append] at hml
  have hmr := hP.lenR
  repeat ((conv => whnf); first | refine Cd.seq ?_ | refine Cd.cut ?_ | refine Cd.reg ?_ | refine Cd.block ?_ | refine Cd.cond ?_ | refine Cd.dreg ?_ | refine Cd.skip ?_ | refine Cd.ret ?_ | refine Cd.exit ?_ | refine Cd.loop ?_ | refine ⟨rfl, ?_⟩ | refine ⟨Nat.le_of_ble_eq_true rfl, ?_⟩ | refine ⟨.inl rfl, ?_⟩ | refine ⟨fun h => Bool.noConfusion h, ?_⟩)
  conv => whnf
  rw [rowsI_len]
  refine ⟨Nat × List (Int × V), fun p => p.1 ≤ held.length ∧ ∀ f, mgetV p.2 f (.bool false) = .bool (decide (f ∈ held.take p.1)), fun p => ⟨[(1, ⟨[], true, .int .i64 n⟩), (3, ⟨[], true, .ptr 0 0 0⟩), (6, ⟨[], true, .ptr 1 0 0⟩), (8, ⟨[], true, .ptr 2 0 0⟩), (9, ⟨[], true, .mp 3⟩), (22, ⟨[], true, .lst 1 t (rowsI held)⟩), (23, ⟨[], true, .int .i64 (held.length : Int)⟩), (24, ⟨[], true, .int .i64 (p.1 : Int)⟩)],
    [(0, .box l.c), (1, .box [.lst 0 true [], .lst 0 true [], .lst 0 true []]), (2, .box l.c), (3, .mp p.2)], 4⟩, fun p => held.length - p.1, ⟨(0, []), ⟨by simp, fun f => by simp [mgetV]⟩, ?_⟩, fun p hp => ?_⟩
  · refine viewI [some 0, some 1, some 2, some 3] rfl rfl ?_ rfl ?_ rfl ?_
    repeat' (first | exact trivial | rfl | exact .inl rfl | exact .inr rfl | exact id | exact (fun h => Bool.noConfusion h) | refine And.intro ?_ ?_)
  obtain ⟨i, M⟩ := p
  obtain ⟨hp1, hM⟩ := hp
  dsimp only at hp1 hM ⊢
  repeat ((conv => whnf); first | refine Cd.seq ?_ | refine Cd.cut ?_ | refine Cd.reg ?_ | refine Cd.block ?_ | refine Cd.cond ?_ | refine Cd.dreg ?_ | refine Cd.skip ?_ | refine Cd.ret ?_ | refine Cd.exit ?_ | refine Cd.loop ?_ | refine ⟨rfl, ?_⟩ | refine ⟨Nat.le_of_ble_eq_true rfl, ?_⟩ | refine ⟨.inl rfl, ?_⟩ | refine ⟨fun h => Bool.noConfusion h, ?_⟩)
  conv => whnf
  refine ⟨fun b1 => ?_, fun b1 => ?_⟩ <;> try simp only [Bool.cond_true_left, Bool.cond_false_right, Bool.not_eq_true', Bool.not_eq_false', Bool.not_not] at b1
  · have b1 : i < held.length := by simp at b1; omega
    have hi1 : IntKind.i64.wrap ((i : Int) + 1) = ((i + 1 : Nat) : Int) := by rw [wrapI (by omega) (by omega)]; omega
    repeat ((conv => whnf); first | refine Cd.seq ?_ | refine Cd.cut ?_ | refine Cd.reg ?_ | refine Cd.block ?_ | refine Cd.cond ?_ | refine Cd.dreg ?_ | refine Cd.skip ?_ | refine Cd.ret ?_ | refine Cd.exit ?_ | refine Cd.loop ?_ | refine ⟨rfl, ?_⟩ | refine ⟨Nat.le_of_ble_eq_true rfl, ?_⟩ | refine ⟨.inl rfl, ?_⟩ | refine ⟨fun h => Bool.noConfusion h, ?_⟩)
    conv => whnf
    refine ⟨fun _ => ⟨rfl, by omega, by rw [rowsI_len]; omega⟩, ?_⟩
    rw [rowsI_getK held i b1]
    have hmem : ∀ y, y ∈ held.take (i + 1) ↔ y ∈ held.take i ∨ y = held.getD i 0 := fun y => by
      rw [List.take_succ_eq_append_getElem b1, List.mem_append, List.mem_singleton, getI held i b1]
    generalize held.getD i 0 = f at hmem ⊢
    repeat ((conv => whnf); first | refine Cd.seq ?_ | refine Cd.cut ?_ | refine Cd.reg ?_ | refine Cd.block ?_ | refine Cd.cond ?_ | refine Cd.dreg ?_ | refine Cd.skip ?_ | refine Cd.ret ?_ | refine Cd.exit ?_ | refine Cd.loop ?_ | refine ⟨rfl, ?_⟩ | refine ⟨Nat.le_of_ble_eq_true rfl, ?_⟩ | refine ⟨.inl rfl, ?_⟩ | refine ⟨fun h => Bool.noConfusion h, ?_⟩)
    conv => whnf
    rw [hi1]
    refine ⟨(i + 1, msetV M f (.bool true)), ⟨by show i + 1 ≤ _; omega, fun y => ?_⟩, ?_, by show held.length - (i + 1) < held.length - i; omega⟩
    · show mgetV (msetV M f (.bool true)) y (.bool false) = .bool (decide (y ∈ held.take (i + 1)))
      rw [mgetV_set, hM y]
      by_cases e : y = f
      · rw [if_pos e, show decide (y ∈ held.take (i + 1)) = true by rw [decide_eq_true_eq, hmem]; exact .inr e]
      · rw [if_neg e]
        congr 1
        exact decide_eq_decide.2 (by rw [hmem]; exact ⟨.inl, fun h => h.resolve_right e⟩)
    refine viewI [some 0, some 1, some 2, some 3] rfl rfl ?_ rfl ?_ rfl ?_
    repeat' (first | exact trivial | rfl | exact .inl rfl | exact .inr rfl | exact id | exact (fun h => Bool.noConfusion h) | refine And.intro ?_ ?_)
  have b1 : i = held.length := by simp at b1; omega
  subst b1
  rw [List.take_length] at hM
  repeat ((conv => whnf); first | refine Cd.seq ?_ | refine Cd.cut ?_ | refine Cd.reg ?_ | refine Cd.block ?_ | refine Cd.cond ?_ | refine Cd.dreg ?_ | refine Cd.skip ?_ | refine Cd.ret ?_ | refine Cd.exit ?_ | refine Cd.loop ?_ | refine ⟨rfl, ?_⟩ | refine ⟨Nat.le_of_ble_eq_true rfl, ?_⟩ | refine ⟨.inl rfl, ?_⟩ | refine ⟨fun h => Bool.noConfusion h, ?_⟩)
  conv => whnf
  rw [rowsI_len, wrapI (n := (l.I.length : Int) - 1) (by omega) (by omega)]
  refine ⟨Nat × ScS, fun p => ScB l p.1 p.2 ∧ (⟨l.A, (scanG l.R held n (l.I.take p.1).reverse p.2).I, (scanG l.R held n (l.I.take p.1).reverse p.2).R⟩, (scanG l.R held n (l.I.take p.1).reverse p.2).v) = q, fun p => ⟨[(1, ⟨[], true, .int .i64 n⟩), (3, ⟨[], true, .ptr 0 0 0⟩), (6, ⟨[], true, .ptr 1 0 0⟩), (8, ⟨[], true, .ptr 2 0 0⟩), (9, ⟨[], true, .mp 3⟩), (12, ⟨[], true, .sl 4 0 p.2.v.length⟩), (13, ⟨[], true, .int .i64 ((p.1 : Int) - 1)⟩)],
    [(0, .box l.c), (1, .box [.lst 0 true [], .lst 0 true [], .lst 0 true []]), (2, .box [.lst 1 false (rowsI l.A), .lst 1 false (rowsI p.2.I), .lst 1 false (rowsI p.2.R)]), (3, .mp M), (4, .row 1 (rowsI p.2.v))], 5⟩, fun p => p.1, ⟨(l.I.length, ⟨l.I, l.R, []⟩), ⟨⟨Nat.le_refl _, by show l.I.length + l.I.length ≤ _; omega, Nat.le_refl _, by show ([] : List Int).length + l.I.length ≤ _; simp⟩, by dsimp only; rw [rev_takeN]; exact hk⟩, ?_⟩, fun p hp => ?_⟩
  · refine viewI [some 0, some 1, some 2, some 3, none] rfl rfl ?_ rfl ?_ rfl ?_
    repeat' (first | exact trivial | rfl | exact .inl rfl | exact .inr rfl | exact id | exact (fun h => Bool.noConfusion h) | refine And.intro ?_ ?_)
  obtain ⟨k, s⟩ := p
  obtain ⟨hB, hq⟩ := hp
  dsimp only at hB hq ⊢
  have hBk := hB.kk; have hBi := hB.i; have hBr := hB.r; have hBv := hB.v
  repeat ((conv => whnf); first | refine Cd.seq ?_ | refine Cd.cut ?_ | refine Cd.reg ?_ | refine Cd.block ?_ | refine Cd.cond ?_ | refine Cd.dreg ?_ | refine Cd.skip ?_ | refine Cd.ret ?_ | refine Cd.exit ?_ | refine Cd.loop ?_ | refine ⟨rfl, ?_⟩ | refine ⟨Nat.le_of_ble_eq_true rfl, ?_⟩ | refine ⟨.inl rfl, ?_⟩ | refine ⟨fun h => Bool.noConfusion h, ?_⟩)
  conv => whnf
  by_cases hk0 : k = 0
  · subst hk0
    rw [show decide (0 ≤ (((0 : Nat)) : Int) - 1) = false from rfl]
    subst hq
    repeat ((conv => whnf); first | refine Cd.seq ?_ | refine Cd.cut ?_ | refine Cd.reg ?_ | refine Cd.block ?_ | refine Cd.cond ?_ | refine Cd.dreg ?_ | refine Cd.skip ?_ | refine Cd.ret ?_ | refine Cd.exit ?_ | refine Cd.loop ?_ | refine ⟨rfl, ?_⟩ | refine ⟨Nat.le_of_ble_eq_true rfl, ?_⟩ | refine ⟨.inl rfl, ?_⟩ | refine ⟨fun h => Bool.noConfusion h, ?_⟩ | refine ⟨?_, fun h => Bool.noConfusion h⟩ | refine fun (_ : false = false) => ?_ | refine fun (_ : true = true) => ?_)
    conv => whnf
    refine ⟨[], ?_, rfl, trivial, rfl, ?_⟩
    · exact trivial
    try subst hk
    repeat' (first | exact trivial | rfl | exact .inl rfl | exact .inr rfl | exact id | exact (fun h => Bool.noConfusion h) | refine And.intro ?_ ?_)
    · show 0 + s.v.length ≤ _
      rw [rowsI_len]; omega
    · exact take0 (rowsI_len _)
  obtain ⟨k, rfl⟩ : ∃ j, k = j + 1 := ⟨k - 1, by omega⟩
  rw [show (((k + 1 : Nat) : Int) - 1) = (k : Int) by omega, show decide (0 ≤ (k : Int)) = true by rw [decide_eq_true_eq]; omega, cond_true]
  have hkl : k < l.I.length := by omega
  rw [rev_take hkl, scanG] at hq
  have hw : IntKind.i64.wrap ((k : Int) - 1) = (k : Int) - 1 := wrapI (by omega) (by omega)
  refine ⟨fun b2 => ?_, fun b2 => ?_⟩ <;> try simp only [Bool.cond_true_left, Bool.cond_false_right, Bool.not_eq_true', Bool.not_eq_false', Bool.not_not] at b2
  · rw [b2, cond_true] at hq
    have hB' := hB.next l.R held l.I[k]
    repeat ((conv => whnf); first | refine Cd.seq ?_ | refine Cd.cut ?_ | refine Cd.reg ?_ | refine Cd.block ?_ | refine Cd.cond ?_ | refine Cd.dreg ?_ | refine Cd.skip ?_ | refine Cd.ret ?_ | refine Cd.exit ?_ | refine Cd.loop ?_ | refine ⟨rfl, ?_⟩ | refine ⟨Nat.le_of_ble_eq_true rfl, ?_⟩ | refine ⟨.inl rfl, ?_⟩ | refine ⟨fun h => Bool.noConfusion h, ?_⟩)
    conv => whnf
    refine ⟨fun _ => ⟨rfl, by omega, by rw [rowsI_len]; omega⟩, ?_⟩
    rw [rowsI_getK l.I k hkl, ← getI l.I k hkl]
    repeat ((conv => whnf); first | refine Cd.seq ?_ | refine Cd.cut ?_ | refine Cd.reg ?_ | refine Cd.block ?_ | refine Cd.cond ?_ | refine Cd.dreg ?_ | refine Cd.skip ?_ | refine Cd.ret ?_ | refine Cd.exit ?_ | refine Cd.loop ?_ | refine ⟨rfl, ?_⟩ | refine ⟨Nat.le_of_ble_eq_true rfl, ?_⟩ | refine ⟨.inl rfl, ?_⟩ | refine ⟨fun h => Bool.noConfusion h, ?_⟩)
    conv => whnf
    rw [hM]
    have hS : scanS l.R held s l.I[k] = bif decide (l.I[k] ∈ held) then s else bif decide (l.I[k] ∈ l.R) then ⟨l.I[k] :: wo s.I l.I[k], wo s.R l.I[k], s.v⟩ else ⟨s.I, s.R, s.v ++ [l.I[k]]⟩ := rfl
    generalize scanS l.R held s l.I[k] = s' at hB' hq hS
    generalize l.I[k] = f at hS ⊢
    repeat ((conv => whnf); first | refine Cd.seq ?_ | refine Cd.cut ?_ | refine Cd.reg ?_ | refine Cd.block ?_ | refine Cd.cond ?_ | refine Cd.dreg ?_ | refine Cd.skip ?_ | refine Cd.ret ?_ | refine Cd.exit ?_ | refine Cd.loop ?_ | refine ⟨rfl, ?_⟩ | refine ⟨Nat.le_of_ble_eq_true rfl, ?_⟩ | refine ⟨.inl rfl, ?_⟩ | refine ⟨fun h => Bool.noConfusion h, ?_⟩)
    conv => whnf
    refine ⟨fun b3 => ?_, fun b3 => ?_⟩ <;> try simp only [Bool.cond_true_left, Bool.cond_false_right, Bool.not_eq_true', Bool.not_eq_false', Bool.not_not] at b3
    · rw [b3, cond_true] at hS
      subst hS
      repeat ((conv => whnf); first | refine Cd.seq ?_ | refine Cd.cut ?_ | refine Cd.reg ?_ | refine Cd.block ?_ | refine Cd.cond ?_ | refine Cd.dreg ?_ | refine Cd.skip ?_ | refine Cd.ret ?_ | refine Cd.exit ?_ | refine Cd.loop ?_ | refine ⟨rfl, ?_⟩ | refine ⟨Nat.le_of_ble_eq_true rfl, ?_⟩ | refine ⟨.inl rfl, ?_⟩ | refine ⟨fun h => Bool.noConfusion h, ?_⟩)
      conv => whnf
      rw [hw]
      refine ⟨(k, s'), ⟨hB', hq⟩, ?_, by show k < k + 1; omega⟩
      refine viewI [some 0, some 1, some 2, some 3, some 4] rfl rfl ?_ rfl ?_ rfl ?_
      repeat' (first | exact trivial | rfl | exact .inl rfl | exact .inr rfl | exact id | exact (fun h => Bool.noConfusion h) | refine And.intro ?_ ?_)
    rw [b3, cond_false] at hS
    repeat ((conv => whnf); first | refine Cd.seq ?_ | refine Cd.cut ?_ | refine Cd.reg ?_ | refine Cd.block ?_ | refine Cd.cond ?_ | refine Cd.dreg ?_ | refine Cd.skip ?_ | refine Cd.ret ?_ | refine Cd.exit ?_ | refine Cd.loop ?_ | refine ⟨rfl, ?_⟩ | refine ⟨Nat.le_of_ble_eq_true rfl, ?_⟩ | refine ⟨.inl rfl, ?_⟩ | refine ⟨fun h => Bool.noConfusion h, ?_⟩ | refine .inl ⟨_, fun _ => ⟨purA rfl, (by first | exact ok73 l.R false f (by omega))⟩, .inl rfl, ?_⟩)
    conv => whnf
    refine ⟨fun b4 => ?_, fun b4 => ?_⟩ <;> try simp only [Bool.cond_true_left, Bool.cond_false_right, Bool.not_eq_true', Bool.not_eq_false', Bool.not_not] at b4
    · rw [b4, cond_true] at hS
      repeat ((conv => whnf); first | refine Cd.seq ?_ | refine Cd.cut ?_ | refine Cd.reg ?_ | refine Cd.block ?_ | refine Cd.cond ?_ | refine Cd.dreg ?_ | refine Cd.skip ?_ | refine Cd.ret ?_ | refine Cd.exit ?_ | refine Cd.loop ?_ | refine ⟨rfl, ?_⟩ | refine ⟨Nat.le_of_ble_eq_true rfl, ?_⟩ | refine ⟨.inl rfl, ?_⟩ | refine ⟨fun h => Bool.noConfusion h, ?_⟩ | refine .inl ⟨_, fun _ => ⟨purA rfl, (by first | exact ok68 s.I false f (by omega) | exact ok71 s.R false f (by omega))⟩, .inl rfl, ?_⟩)
      conv => whnf
      rw [hw]
      refine ⟨(k, s'), ⟨hB', hq⟩, ?_, by show k < k + 1; omega⟩
      subst hS
      refine viewI [some 0, some 1, some 2, some 3, some 4] rfl rfl ?_ rfl ?_ rfl ?_
      repeat' (first | exact trivial | rfl | exact .inl rfl | exact .inr rfl | exact id | exact (fun h => Bool.noConfusion h) | refine And.intro ?_ ?_)
    rw [b4, cond_false] at hS
    repeat ((conv => whnf); first | refine Cd.seq ?_ | refine Cd.cut ?_ | refine Cd.reg ?_ | refine Cd.block ?_ | refine Cd.cond ?_ | refine Cd.dreg ?_ | refine Cd.skip ?_ | refine Cd.ret ?_ | refine Cd.exit ?_ | refine Cd.loop ?_ | refine ⟨rfl, ?_⟩ | refine ⟨Nat.le_of_ble_eq_true rfl, ?_⟩ | refine ⟨.inl rfl, ?_⟩ | refine ⟨fun h => Bool.noConfusion h, ?_⟩)
    conv => whnf
    refine ⟨(rowsI_len s.v).symm, by show (((rowsI s.v).length + 1 : Nat) : Int) ≤ _; rw [rowsI_len]; omega, by show ((rowsI s.v).length + 1) * 8 ≤ _; rw [rowsI_len]; omega, ?_⟩
    repeat ((conv => whnf); first | refine Cd.seq ?_ | refine Cd.cut ?_ | refine Cd.reg ?_ | refine Cd.block ?_ | refine Cd.cond ?_ | refine Cd.dreg ?_ | refine Cd.skip ?_ | refine Cd.ret ?_ | refine Cd.exit ?_ | refine Cd.loop ?_ | refine ⟨rfl, ?_⟩ | refine ⟨Nat.le_of_ble_eq_true rfl, ?_⟩ | refine ⟨.inl rfl, ?_⟩ | refine ⟨fun h => Bool.noConfusion h, ?_⟩)
    conv => whnf
    rw [hw]
    refine ⟨(k, s'), ⟨hB', hq⟩, ?_, by show k < k + 1; omega⟩
    subst hS
    refine viewI [some 0, some 1, some 2, some 3, some ?k177_4] rfl rfl ?h3_177 ?h4_177 ?h5_177 ?h6_177 ?h7_177
    case' h7_177 => repeat' (first | exact trivial | rfl | exact .inl rfl | exact .inr rfl | exact id | exact (fun h => Bool.noConfusion h) | refine And.intro ?_ ?_)
    case' h4_177 => rfl
    case' h6_177 => rfl
    case' h3_177 => repeat' (first | exact trivial | rfl | exact .inl rfl | exact .inr rfl | exact id | exact (fun h => Bool.noConfusion h) | refine And.intro ?_ ?_)
    case' h5_177 => repeat' (first | exact trivial | rfl | exact .inl rfl | exact .inr rfl | exact id | exact (fun h => Bool.noConfusion h) | refine And.intro ?_ ?_)
    · exact rowsI_snoc s.v f
    · show (rowsI s.v).length + 1 = _
      rw [rowsI_len, List.length_append]; rfl
  rw [b2, cond_false] at hq
  subst hq
  repeat ((conv => whnf); first | refine Cd.seq ?_ | refine Cd.cut ?_ | refine Cd.reg ?_ | refine Cd.block ?_ | refine Cd.cond ?_ | refine Cd.dreg ?_ | refine Cd.skip ?_ | refine Cd.ret ?_ | refine Cd.exit ?_ | refine Cd.loop ?_ | refine ⟨rfl, ?_⟩ | refine ⟨Nat.le_of_ble_eq_true rfl, ?_⟩ | refine ⟨.inl rfl, ?_⟩ | refine ⟨fun h => Bool.noConfusion h, ?_⟩)
  conv => whnf
  refine ⟨[], ?_, rfl, trivial, rfl, ?_⟩
  · exact trivial
  try subst hk
  repeat' (first | exact trivial | rfl | exact .inl rfl | exact .inr rfl | exact id | exact (fun h => Bool.noConfusion h) | refine And.intro ?_ ?_)
  · show 0 + s.v.length ≤ _
    rw [rowsI_len]; omega
  · exact take0 (rowsI_len _)
/-- What is left to scan is referenced just as it was at first. -/
def ScR (l : Ls) (k : Nat) (s : ScS) : Prop := ∀ (j : Nat) (h : j < l.I.length), j < k → (l.I[j] ∈ s.R ↔ l.I[j] ∈ l.R)
theorem ScR.next {l : Ls} {k : Nat} {s : ScS} (h : ScR l (k + 1) s) (hP : ChkP l) (hk : k < l.I.length) (held : List Int) : ScR l k (scanS l.R held s l.I[k]) := fun j hj hjk => by
  have h1 := h j hj (by omega)
  have hne : l.I[j] ≠ l.I[k] := List.pairwise_iff_getElem.1 (List.nodup_append.1 hP.nodup).2.1 j k hj hk hjk
  unfold scanS
  cases decide (l.I[k] ∈ held) with
  | true => exact h1
  | false =>
    cases decide (l.I[k] ∈ l.R) with
    | true =>
      simp only [cond_true, cond_false]
      rw [mem_wo, h1]
      exact ⟨fun h => h.1, fun h => ⟨h, hne⟩⟩
    | false => exact h1
set_option maxRecDepth 20000 in
set_option maxHeartbeats 1000000 in
theorem ok51 (l : Ls) (n : Int) (held : List Int) (t : Bool) (hl : SmallL l) (hh : held.length ≤ 100000) : FnC Try.prog 51 [] [.agg l.c, .int .i64 n, .lst 1 t (rowsI held)] (.tup [.agg (scanF l n held).1.c, .lst 1 false (rowsI (scanF l n held).2)]) [] := by
  refine fn_okC (ob0 := []) (rc := rc51) (rvs := rv51) Try.func51 rfl rcq51 rvq51 (show 3 ≤ _ by decide) ?_
  generalize hk : scanF l n held = q
  rw [scanF] at hk
  repeat ((conv => whnf); first | refine Cd.seq ?_ | refine Cd.cut ?_ | refine Cd.reg ?_ | refine Cd.block ?_ | refine Cd.cond ?_ | refine Cd.dreg ?_ | refine Cd.skip ?_ | refine Cd.ret ?_ | refine Cd.exit ?_ | refine Cd.loop ?_ | refine ⟨rfl, ?_⟩ | refine ⟨Nat.le_of_ble_eq_true rfl, ?_⟩ | refine ⟨.inl rfl, ?_⟩ | refine ⟨fun h => Bool.noConfusion h, ?_⟩ | refine .inl ⟨_, fun _ => ⟨purA rfl, (by first | exact ok43 l hl)⟩, .inl rfl, ?_⟩)
  conv => whnf
  refine ⟨fun c1 => ?_, fun c1 => ?_⟩ <;> try simp only [Bool.cond_true_left, Bool.cond_false_right, Bool.not_eq_true', Bool.not_eq_false', Bool.not_not] at c1
  · by_cases c0 : chkL l = true
    · have hP := (chk_iff' l).1 c0
      have c1 : n < 1 := by simp [c0] at c1; omega
      rw [c0, Bool.not_true, cond_false] at hk
      have e : scanG l.R held n l.I.reverse ⟨l.I, l.R, []⟩ = ⟨l.I, l.R, []⟩ := by
        cases l.I.reverse with
        | nil => rfl
        | cons f r =>
          rw [scanG, show decide ((([] : List Int).length : Int) < n) = false by rw [decide_eq_false_iff_not]; simp; omega]; rfl
      rw [e] at hk
      subst hk
      repeat ((conv => whnf); first | refine Cd.seq ?_ | refine Cd.cut ?_ | refine Cd.reg ?_ | refine Cd.block ?_ | refine Cd.cond ?_ | refine Cd.dreg ?_ | refine Cd.skip ?_ | refine Cd.ret ?_ | refine Cd.exit ?_ | refine Cd.loop ?_ | refine ⟨rfl, ?_⟩ | refine ⟨Nat.le_of_ble_eq_true rfl, ?_⟩ | refine ⟨.inl rfl, ?_⟩ | refine ⟨fun h => Bool.noConfusion h, ?_⟩)
      conv => whnf
      refine ⟨[], ?_, rfl, trivial, rfl, ?_⟩
      · exact trivial
      try subst hk
      repeat' (first | exact trivial | rfl | exact .inl rfl | exact .inr rfl | exact id | exact (fun h => Bool.noConfusion h) | refine And.intro ?_ ?_)
    · rw [show (!chkL l) = true by simpa using c0, cond_true] at hk
      subst hk
      repeat ((conv => whnf); first | refine Cd.seq ?_ | refine Cd.cut ?_ | refine Cd.reg ?_ | refine Cd.block ?_ | refine Cd.cond ?_ | refine Cd.dreg ?_ | refine Cd.skip ?_ | refine Cd.ret ?_ | refine Cd.exit ?_ | refine Cd.loop ?_ | refine ⟨rfl, ?_⟩ | refine ⟨Nat.le_of_ble_eq_true rfl, ?_⟩ | refine ⟨.inl rfl, ?_⟩ | refine ⟨fun h => Bool.noConfusion h, ?_⟩)
      conv => whnf
      refine ⟨[], ?_, rfl, trivial, rfl, ?_⟩
      · exact trivial
      try subst hk
      repeat' (first | exact trivial | rfl | exact .inl rfl | exact .inr rfl | exact id | exact (fun h => Bool.noConfusion h) | refine And.intro ?_ ?_)
  have c0 : chkL l = true := by
    cases h : chkL l with
    | true => rfl
    | false => rw [h] at c1; simp at c1
  have hP := (chk_iff' l).1 c0
  rw [c0, Bool.not_true, cond_false] at hk
  have hml := hP.len
  rw [List.length_append] at hml
  have hmr := hP.lenR
  repeat ((conv => whnf); first | refine Cd.seq ?_ | refine Cd.cut ?_ | refine Cd.reg ?_ | refine Cd.block ?_ | refine Cd.cond ?_ | refine Cd.dreg ?_ | refine Cd.skip ?_ | refine Cd.ret ?_ | refine Cd.exit ?_ | refine Cd.loop ?_ | refine ⟨rfl, ?_⟩ | refine ⟨Nat.le_of_ble_eq_true rfl, ?_⟩ | refine ⟨.inl rfl, ?_⟩ | refine ⟨fun h => Bool.noConfusion h, ?_⟩)
  conv => whnf
  refine ⟨Unit, fun _ => True, fun _ => ⟨[(1, ⟨[], true, .int .i64 n⟩), (2, ⟨[], true, .lst 1 t (rowsI held)⟩), (3, ⟨[], true, .ptr 0 0 0⟩), (6, ⟨[], true, .ptr 1 0 0⟩), (8, ⟨[], true, .lst 1 false (rowsI l.I)⟩)],
    [(0, .box l.c), (1, .box [.lst 0 true [], .lst 0 true [], .lst 0 true []])], 2⟩, ?_, fun _ _ => ?_⟩
  · repeat ((conv => whnf); first | refine Cd.seq ?_ | refine Cd.cut ?_ | refine Cd.reg ?_ | refine Cd.block ?_ | refine Cd.cond ?_ | refine Cd.dreg ?_ | refine Cd.skip ?_ | refine Cd.ret ?_ | refine Cd.exit ?_ | refine Cd.loop ?_ | refine ⟨rfl, ?_⟩ | refine ⟨Nat.le_of_ble_eq_true rfl, ?_⟩ | refine ⟨.inl rfl, ?_⟩ | refine ⟨fun h => Bool.noConfusion h, ?_⟩)
    conv => whnf
    refine ⟨by rw [rowsI_len]; omega, by rw [rowsI_len]; omega, ?_⟩
    repeat ((conv => whnf); first | refine Cd.seq ?_ | refine Cd.cut ?_ | refine Cd.reg ?_ | refine Cd.block ?_ | refine Cd.cond ?_ | refine Cd.dreg ?_ | refine Cd.skip ?_ | refine Cd.ret ?_ | refine Cd.exit ?_ | refine Cd.loop ?_ | refine ⟨rfl, ?_⟩ | refine ⟨Nat.le_of_ble_eq_true rfl, ?_⟩ | refine ⟨.inl rfl, ?_⟩ | refine ⟨fun h => Bool.noConfusion h, ?_⟩)
    conv => whnf
    refine ⟨(), trivial, ?_⟩
    rw [rowsI_len]
    refine viewI [some 0, some 1] rfl rfl ?_ rfl ?_ rfl ?_
    repeat' (first | exact trivial | rfl | exact .inl rfl | exact .inr rfl | exact id | exact (fun h => Bool.noConfusion h) | refine And.intro ?_ ?_)
    · show 0 + l.I.length ≤ _
      rw [rowsI_len]; omega
    · exact take0 (rowsI_len _)
  repeat ((conv => whnf); first | refine Cd.seq ?_ | refine Cd.cut ?_ | refine Cd.reg ?_ | refine Cd.block ?_ | refine Cd.cond ?_ | refine Cd.dreg ?_ | refine Cd.skip ?_ | refine Cd.ret ?_ | refine Cd.exit ?_ | refine Cd.loop ?_ | refine ⟨rfl, ?_⟩ | refine ⟨Nat.le_of_ble_eq_true rfl, ?_⟩ | refine ⟨.inl rfl, ?_⟩ | refine ⟨fun h => Bool.noConfusion h, ?_⟩)
  conv => whnf
  rw [rowsI_len, wrapI (n := (l.I.length : Int) - 1) (by omega) (by omega)]
  refine ⟨Nat × ScS, fun p => (ScB l p.1 p.2 ∧ ScR l p.1 p.2) ∧ (⟨l.A, (scanG l.R held n (l.I.take p.1).reverse p.2).I, (scanG l.R held n (l.I.take p.1).reverse p.2).R⟩, (scanG l.R held n (l.I.take p.1).reverse p.2).v) = q, fun p => ⟨[(1, ⟨[], true, .int .i64 n⟩), (2, ⟨[], true, .lst 1 t (rowsI held)⟩), (3, ⟨[], true, .ptr 0 0 0⟩), (6, ⟨[], true, .ptr 1 0 0⟩), (8, ⟨[], true, .lst 1 false (rowsI l.I)⟩), (9, ⟨[], true, .sl 2 0 p.2.v.length⟩), (10, ⟨[], true, .int .i64 ((p.1 : Int) - 1)⟩)],
    [(0, .box [.lst 1 false (rowsI l.A), .lst 1 false (rowsI p.2.I), .lst 1 false (rowsI p.2.R)]), (1, .box [.lst 0 true [], .lst 0 true [], .lst 0 true []]), (2, .row 1 (rowsI p.2.v))], 3⟩, fun p => p.1, ⟨(l.I.length, ⟨l.I, l.R, []⟩), ⟨⟨⟨Nat.le_refl _, by show l.I.length + l.I.length ≤ _; omega, Nat.le_refl _, by show ([] : List Int).length + l.I.length ≤ _; simp⟩, fun _ _ _ => Iff.rfl⟩, by dsimp only; rw [rev_takeN]; exact hk⟩, ?_⟩, fun p hp => ?_⟩
  · refine viewI [some 0, some 1, none] rfl rfl ?_ rfl ?_ rfl ?_
    repeat' (first | exact trivial | rfl | exact .inl rfl | exact .inr rfl | exact id | exact (fun h => Bool.noConfusion h) | refine And.intro ?_ ?_)
  obtain ⟨k, s⟩ := p
  obtain ⟨⟨hB, hR⟩, hq⟩ := hp
  dsimp only at hB hR hq ⊢
  have hBk := hB.kk; have hBi := hB.i; have hBr := hB.r; have hBv := hB.v
  repeat ((conv => whnf); first | refine Cd.seq ?_ | refine Cd.cut ?_ | refine Cd.reg ?_ | refine Cd.block ?_ | refine Cd.cond ?_ | refine Cd.dreg ?_ | refine Cd.skip ?_ | refine Cd.ret ?_ | refine Cd.exit ?_ | refine Cd.loop ?_ | refine ⟨rfl, ?_⟩ | refine ⟨Nat.le_of_ble_eq_true rfl, ?_⟩ | refine ⟨.inl rfl, ?_⟩ | refine ⟨fun h => Bool.noConfusion h, ?_⟩)
  conv => whnf
  by_cases hk0 : k = 0
  · subst hk0
    rw [show decide (0 ≤ (((0 : Nat)) : Int) - 1) = false from rfl]
    subst hq
    repeat ((conv => whnf); first | refine Cd.seq ?_ | refine Cd.cut ?_ | refine Cd.reg ?_ | refine Cd.block ?_ | refine Cd.cond ?_ | refine Cd.dreg ?_ | refine Cd.skip ?_ | refine Cd.ret ?_ | refine Cd.exit ?_ | refine Cd.loop ?_ | refine ⟨rfl, ?_⟩ | refine ⟨Nat.le_of_ble_eq_true rfl, ?_⟩ | refine ⟨.inl rfl, ?_⟩ | refine ⟨fun h => Bool.noConfusion h, ?_⟩ | refine ⟨?_, fun h => Bool.noConfusion h⟩ | refine fun (_ : false = false) => ?_ | refine fun (_ : true = true) => ?_)
    conv => whnf
    refine ⟨[], ?_, rfl, trivial, rfl, ?_⟩
    · exact trivial
    try subst hk
    repeat' (first | exact trivial | rfl | exact .inl rfl | exact .inr rfl | exact id | exact (fun h => Bool.noConfusion h) | refine And.intro ?_ ?_)
    · show 0 + s.v.length ≤ _
      rw [rowsI_len]; omega
    · exact take0 (rowsI_len _)
  obtain ⟨k, rfl⟩ : ∃ j, k = j + 1 := ⟨k - 1, by omega⟩
  rw [show (((k + 1 : Nat) : Int) - 1) = (k : Int) by omega, show decide (0 ≤ (k : Int)) = true by rw [decide_eq_true_eq]; omega, cond_true]
  have hkl : k < l.I.length := by omega
  rw [rev_take hkl, scanG] at hq
  have hw : IntKind.i64.wrap ((k : Int) - 1) = (k : Int) - 1 := wrapI (by omega) (by omega)
  refine ⟨fun b2 => ?_, fun b2 => ?_⟩ <;> try simp only [Bool.cond_true_left, Bool.cond_false_right, Bool.not_eq_true', Bool.not_eq_false', Bool.not_not] at b2
  · rw [b2, cond_true] at hq
    have hB' := hB.next l.R held l.I[k]
    have hR' := hR.next hP hkl held
    have hRk := hR k hkl (by omega)
    repeat ((conv => whnf); first | refine Cd.seq ?_ | refine Cd.cut ?_ | refine Cd.reg ?_ | refine Cd.block ?_ | refine Cd.cond ?_ | refine Cd.dreg ?_ | refine Cd.skip ?_ | refine Cd.ret ?_ | refine Cd.exit ?_ | refine Cd.loop ?_ | refine ⟨rfl, ?_⟩ | refine ⟨Nat.le_of_ble_eq_true rfl, ?_⟩ | refine ⟨.inl rfl, ?_⟩ | refine ⟨fun h => Bool.noConfusion h, ?_⟩)
    conv => whnf
    refine ⟨fun _ => ⟨rfl, by omega, by rw [rowsI_len]; omega⟩, ?_⟩
    rw [rowsI_getK l.I k hkl, ← getI l.I k hkl]
    have hS : scanS l.R held s l.I[k] = bif decide (l.I[k] ∈ held) then s else bif decide (l.I[k] ∈ l.R) then ⟨l.I[k] :: wo s.I l.I[k], wo s.R l.I[k], s.v⟩ else ⟨s.I, s.R, s.v ++ [l.I[k]]⟩ := rfl
    generalize scanS l.R held s l.I[k] = s' at hB' hR' hq hS
    generalize l.I[k] = f at hS hRk ⊢
    have hdec : decide (f ∈ s.R) = decide (f ∈ l.R) := decide_eq_decide.2 hRk
    have hwl := wo_len s.I f
    repeat ((conv => whnf); first | refine Cd.seq ?_ | refine Cd.cut ?_ | refine Cd.reg ?_ | refine Cd.block ?_ | refine Cd.cond ?_ | refine Cd.dreg ?_ | refine Cd.skip ?_ | refine Cd.ret ?_ | refine Cd.exit ?_ | refine Cd.loop ?_ | refine ⟨rfl, ?_⟩ | refine ⟨Nat.le_of_ble_eq_true rfl, ?_⟩ | refine ⟨.inl rfl, ?_⟩ | refine ⟨fun h => Bool.noConfusion h, ?_⟩ | refine .inl ⟨_, fun _ => ⟨purA rfl, (by first | exact ok54 held t f (by omega))⟩, .inl rfl, ?_⟩)
    conv => whnf
    rw [atM]
    refine ⟨fun b3 => ?_, fun b3 => ?_⟩ <;> try simp only [Bool.cond_true_left, Bool.cond_false_right, Bool.not_eq_true', Bool.not_eq_false', Bool.not_not] at b3
    · rw [b3, cond_true] at hS
      subst hS
      repeat ((conv => whnf); first | refine Cd.seq ?_ | refine Cd.cut ?_ | refine Cd.reg ?_ | refine Cd.block ?_ | refine Cd.cond ?_ | refine Cd.dreg ?_ | refine Cd.skip ?_ | refine Cd.ret ?_ | refine Cd.exit ?_ | refine Cd.loop ?_ | refine ⟨rfl, ?_⟩ | refine ⟨Nat.le_of_ble_eq_true rfl, ?_⟩ | refine ⟨.inl rfl, ?_⟩ | refine ⟨fun h => Bool.noConfusion h, ?_⟩)
      conv => whnf
      rw [hw]
      refine ⟨(k, s'), ⟨⟨hB', hR'⟩, hq⟩, ?_, by show k < k + 1; omega⟩
      refine viewI [some 0, some 1, some 2] rfl rfl ?_ rfl ?_ rfl ?_
      repeat' (first | exact trivial | rfl | exact .inl rfl | exact .inr rfl | exact id | exact (fun h => Bool.noConfusion h) | refine And.intro ?_ ?_)
    rw [b3, cond_false] at hS
    repeat ((conv => whnf); first | refine Cd.seq ?_ | refine Cd.cut ?_ | refine Cd.reg ?_ | refine Cd.block ?_ | refine Cd.cond ?_ | refine Cd.dreg ?_ | refine Cd.skip ?_ | refine Cd.ret ?_ | refine Cd.exit ?_ | refine Cd.loop ?_ | refine ⟨rfl, ?_⟩ | refine ⟨Nat.le_of_ble_eq_true rfl, ?_⟩ | refine ⟨.inl rfl, ?_⟩ | refine ⟨fun h => Bool.noConfusion h, ?_⟩ | refine .inl ⟨_, fun _ => ⟨purA rfl, (by first | exact ok54 s.R false f (by omega))⟩, .inl rfl, ?_⟩)
    conv => whnf
    rw [atM, hdec]
    refine ⟨fun b4 => ?_, fun b4 => ?_⟩ <;> try simp only [Bool.cond_true_left, Bool.cond_false_right, Bool.not_eq_true', Bool.not_eq_false', Bool.not_not] at b4
    · rw [b4, cond_true] at hS
      repeat ((conv => whnf); first | refine Cd.seq ?_ | refine Cd.cut ?_ | refine Cd.reg ?_ | refine Cd.block ?_ | refine Cd.cond ?_ | refine Cd.dreg ?_ | refine Cd.skip ?_ | refine Cd.ret ?_ | refine Cd.exit ?_ | refine Cd.loop ?_ | refine ⟨rfl, ?_⟩ | refine ⟨Nat.le_of_ble_eq_true rfl, ?_⟩ | refine ⟨.inl rfl, ?_⟩ | refine ⟨fun h => Bool.noConfusion h, ?_⟩ | refine .inl ⟨_, fun _ => ⟨purA rfl, (by first | exact ok72 s.I false f (by omega) | exact ok72 s.R false f (by omega) | exact ok70 (wo s.I f) false f (by omega))⟩, .inl rfl, ?_⟩)
      conv => whnf
      rw [hw]
      refine ⟨(k, s'), ⟨⟨hB', hR'⟩, hq⟩, ?_, by show k < k + 1; omega⟩
      subst hS
      refine viewI [some 0, some 1, some 2] rfl rfl ?_ rfl ?_ rfl ?_
      repeat' (first | exact trivial | rfl | exact .inl rfl | exact .inr rfl | exact id | exact (fun h => Bool.noConfusion h) | refine And.intro ?_ ?_)
    rw [b4, cond_false] at hS
    repeat ((conv => whnf); first | refine Cd.seq ?_ | refine Cd.cut ?_ | refine Cd.reg ?_ | refine Cd.block ?_ | refine Cd.cond ?_ | refine Cd.dreg ?_ | refine Cd.skip ?_ | refine Cd.ret ?_ | refine Cd.exit ?_ | refine Cd.loop ?_ | refine ⟨rfl, ?_⟩ | refine ⟨Nat.le_of_ble_eq_true rfl, ?_⟩ | refine ⟨.inl rfl, ?_⟩ | refine ⟨fun h => Bool.noConfusion h, ?_⟩)
    conv => whnf
    refine ⟨(rowsI_len s.v).symm, by show (((rowsI s.v).length + 1 : Nat) : Int) ≤ _; rw [rowsI_len]; omega, by show ((rowsI s.v).length + 1) * 8 ≤ _; rw [rowsI_len]; omega, ?_⟩
    repeat ((conv => whnf); first | refine Cd.seq ?_ | refine Cd.cut ?_ | refine Cd.reg ?_ | refine Cd.block ?_ | refine Cd.cond ?_ | refine Cd.dreg ?_ | refine Cd.skip ?_ | refine Cd.ret ?_ | refine Cd.exit ?_ | refine Cd.loop ?_ | refine ⟨rfl, ?_⟩ | refine ⟨Nat.le_of_ble_eq_true rfl, ?_⟩ | refine ⟨.inl rfl, ?_⟩ | refine ⟨fun h => Bool.noConfusion h, ?_⟩)
    conv => whnf
    rw [hw]
    refine ⟨(k, s'), ⟨⟨hB', hR'⟩, hq⟩, ?_, by show k < k + 1; omega⟩
    subst hS
    refine viewI [some 0, some 1, some ?k350_2] rfl rfl ?h3_350 ?h4_350 ?h5_350 ?h6_350 ?h7_350
    case' h7_350 => repeat' (first | exact trivial | rfl | exact .inl rfl | exact .inr rfl | exact id | exact (fun h => Bool.noConfusion h) | refine And.intro ?_ ?_)
    case' h4_350 => rfl
    case' h6_350 => rfl
    case' h3_350 => repeat' (first | exact trivial | rfl | exact .inl rfl | exact .inr rfl | exact id | exact (fun h => Bool.noConfusion h) | refine And.intro ?_ ?_)
    case' h5_350 => repeat' (first | exact trivial | rfl | exact .inl rfl | exact .inr rfl | exact id | exact (fun h => Bool.noConfusion h) | refine And.intro ?_ ?_)
    · exact rowsI_snoc s.v f
    · show (rowsI s.v).length + 1 = _
      rw [rowsI_len, List.length_append]; rfl
  rw [b2, cond_false] at hq
  subst hq
  repeat ((conv => whnf); first | refine Cd.seq ?_ | refine Cd.cut ?_ | refine Cd.reg ?_ | refine Cd.block ?_ | refine Cd.cond ?_ | refine Cd.dreg ?_ | refine Cd.skip ?_ | refine Cd.ret ?_ | refine Cd.exit ?_ | refine Cd.loop ?_ | refine ⟨rfl, ?_⟩ | refine ⟨Nat.le_of_ble_eq_true rfl, ?_⟩ | refine ⟨.inl rfl, ?_⟩ | refine ⟨fun h => Bool.noConfusion h, ?_⟩)
  conv => whnf
  refine ⟨[], ?_, rfl, trivial, rfl, ?_⟩
  · exact trivial
  try subst hk
  repeat' (first | exact trivial | rfl | exact .inl rfl | exact .inr rfl | exact id | exact (fun h => Bool.noConfusion h) | refine And.intro ?_ ?_)
  · show 0 + s.v.length ≤ _
    rw [rowsI_len]; omega
  · exact take0 (rowsI_len _)
end Go.Proofs.Ytcifhjkodbaghaa

