/- Zone: Give. -/
import Derived.Test.YtcifhjkodbaghaaB13
set_option linter.unusedSimpArgs false
set_option linter.unusedVariables false
namespace Go.Proofs.Ytcifhjkodbaghaa
open Go Go.Sk Go.RowKit

/- pagecache/zone.Give -/
def rc20 : RC :=
  (.seq
  (.reg [⟨(some 3), none, (.box (.t 1))⟩,
    ⟨(some 4), none, (.mv (.c (.lst 0 true [])))⟩,
    ⟨(some 5), none, (.mv (.c (.int .i64 0)))⟩] [])
  (.seq
  (.reg [⟨(some 10), none, (.mv (.t 0))⟩,
    ⟨(some 11), none, (.call 55 [(.t 10)])⟩,
    ⟨(some 6), none, (.mv (.t 11))⟩] [10, 11])
  (.seq
  (.seq
  (.reg [⟨(some 12), none, (.mv (.t 0))⟩,
    ⟨(some 13), none, (.call 22 [(.t 12)])⟩,
    ⟨(some 14), none, (.un .not (.t 13))⟩] [12, 13])
  (.cond (.t 14)
   (.seq
   (.reg [⟨(some 15), none, (.mv (.t 6))⟩,
     ⟨(some 4), none, (.mv (.t 15))⟩,
     ⟨(some 5), none, (.mv (.c (.int .i64 1)))⟩] [15])
   .ret)
   .skip))
  (.seq
  (.reg [⟨(some 16), none, (.mv (.t 0))⟩,
    ⟨(some 17), none, (.mkfn 58 [(.t 3)])⟩,
    ⟨(some 18), none, (.call 57 [(.t 16), (.t 17)])⟩,
    ⟨(some 7), none, (.mv (.t 18))⟩] [16, 17, 18])
  (.seq
  (.seq
  (.reg [⟨(some 19), none, (.mv (.t 7))⟩,
    ⟨(some 20), none, (.bin .lss (.t 19) (.c (.int .i64 0)))⟩] [19])
  (.cond (.t 20)
   (.seq
   (.reg [⟨(some 21), none, (.mv (.t 6))⟩,
     ⟨(some 4), none, (.mv (.t 21))⟩,
     ⟨(some 5), none, (.mv (.c (.int .i64 2)))⟩] [21])
   .ret)
   .skip))
  (.seq
  (.dreg 8192 8384 [⟨(some 23), none, (.mv (.t 6))⟩,
    ⟨(some 24), none, (.mv (.t 7))⟩,
    ⟨(some 25), none, (.iaddr 6 (.t 23) (.t 24))⟩,
    ⟨(some 26), none, (.faddr 5 (.t 25))⟩,
    ⟨(some 27), none, (.ld false 1 (.t 26))⟩,
    ⟨(some 28), none, (.ld false 1 (.t 3))⟩,
    ⟨(some 29), none, (.call 60 [(.t 27), (.t 28)])⟩,
    ⟨(some 22), none, (.mv (.t 29))⟩,
    ⟨(some 30), none, (.extr 0 (.t 22))⟩,
    ⟨(some 31), none, (.extr 1 (.t 22))⟩,
    ⟨(some 8), none, (.mv (.t 30))⟩,
    ⟨(some 9), none, (.mv (.t 31))⟩] [23, 24, 25, 26, 27, 28, 29, 22, 30, 31] [[], [], [0, 1], [2, 1, 0], [3, 0, 1, 2], [], [4, 2, 1, 0, 3, 5], [6, 5, 3, 0, 1, 2, 4], [7, 4, 2, 1, 0, 3, 5, 6], [7, 4, 2, 1, 0, 3, 5, 6], [8, 6, 5, 3, 0, 1, 2, 4, 7], [9, 10, 7, 4, 2, 1, 0, 3, 5, 6, 8]] [8192, 8208, 8224, 8240, 8256, 8272, 8288, 8304, 8320, 8336, 8352, 8368])
  (.seq
  (.seq
  (.reg [⟨(some 32), none, (.mv (.t 9))⟩] [])
  (.cond (.t 32)
   (.seq
   (.reg [⟨(some 33), none, (.mv (.t 6))⟩,
     ⟨(some 4), none, (.mv (.t 33))⟩,
     ⟨(some 5), none, (.mv (.c (.int .i64 5)))⟩] [33])
   .ret)
   .skip))
  (.seq
  (.dreg 11264 11488 [⟨(some 34), none, (.mv (.t 6))⟩,
    ⟨(some 35), none, (.mv (.t 7))⟩,
    ⟨(some 36), none, (.mv (.t 6))⟩,
    ⟨(some 37), none, (.mv (.t 7))⟩,
    ⟨(some 38), none, (.iaddr 6 (.t 36) (.t 37))⟩,
    ⟨(some 39), none, (.faddr 5 (.t 38))⟩,
    ⟨(some 40), none, (.ld false 1 (.t 39))⟩,
    ⟨(some 41), none, (.mv (.t 8))⟩,
    ⟨(some 42), none, (.ld false 1 (.t 3))⟩,
    ⟨(some 43), none, (.bslice 1 [(.int .i64 0)] 1 [(0, (.t 42))])⟩,
    ⟨(some 44), none, (.call 61 [(.t 40), (.t 41), (.t 43)])⟩,
    ⟨(some 45), none, (.iaddr 6 (.t 34) (.t 35))⟩,
    ⟨(some 46), none, (.faddr 5 (.t 45))⟩,
    ⟨none, none, (.st 1 (.t 46) (.t 44))⟩] [34, 35, 36, 37, 38, 39, 40, 41, 42, 43, 44, 45, 46] [[], [], [], [], [2, 3], [4, 3, 2], [5, 2, 3, 4], [], [], [8], [6, 4, 3, 2, 5, 7, 9, 8], [0, 1, 10, 8, 9, 7, 5, 2, 3, 4, 6], [11, 0, 1, 10, 8, 9, 7, 5, 2, 3, 4, 6], [12, 11, 0, 1, 10, 8, 9, 7, 5, 2, 3, 4, 6]] [11264, 11280, 11296, 11312, 11328, 11344, 11360, 11376, 11392, 11408, 11424, 11440, 11456, 11472])
  (.seq
  (.reg [⟨(some 47), none, (.mv (.t 6))⟩,
    ⟨(some 4), none, (.mv (.t 47))⟩,
    ⟨(some 5), none, (.mv (.c (.int .i64 0)))⟩] [47])
  .ret)))))))))
theorem rcq20 : resC Go.Proofs.Try.prog Go.Proofs.Try.f20.ntmps ((Go.Proofs.Try.f20.body).getD .skip) = some (strip rc20) := by kernel_rfl
def rv20 : List RV := [(.tmp 4), (.tmp 5)]
theorem rvq20 : Go.Proofs.Try.f20.results.toList.mapM (resRV Go.Proofs.Try.prog) = some rv20 := by kernel_rfl

def gaveZ (z : Zn) (f : Int) : Zn := ⟨z.first, z.size, z.min, z.low, z.high, insI z.free (atI z.free f) f, false⟩
def giveG (base l : List Zn) (f : Int) : List Zn × Int :=
  bif !checkZ l then (base, 1) else bif decide (idxF (inG f) l < 0) then (base, 2) else
  bif hitI (l.getD (idxF (inG f) l).toNat zeroZ).free f then (base, 5) else
  (base.set (idxF (inG f) l).toNat (gaveZ (l.getD (idxF (inG f) l).toNat zeroZ) f), 0)
theorem ascN_pair (lo hi : Int) (l : List Int) (h : ascN lo hi l l.length = true) : l.Pairwise (· < ·) := by
  have step : ∀ i, i + 1 < l.length → l.getD i 0 < l.getD (i + 1) 0 := fun i hi => by
    have := ascN_mono lo _ l l.length (i + 1) hi h
    simp only [freeBad, Bool.or_eq_false_iff, Bool.and_eq_false_iff, decide_eq_false_iff_not] at this
    have h2 := this.2
    rw [Nat.add_sub_cancel] at h2
    omega
  have mon : ∀ d i, i + d + 1 < l.length → l.getD i 0 < l.getD (i + d + 1) 0 := fun d => by
    induction d with
    | zero => exact fun i hi => step i hi
    | succ d ih =>
      intro i hi
      have h1 := ih i (by omega)
      have h2 := step (i + d + 1) (by omega)
      rw [show i + (d + 1) + 1 = i + d + 1 + 1 by omega]
      omega
  refine List.pairwise_iff_getElem.2 fun i j hi hj hij => ?_
  rw [getI, getI]
  have := mon (j - i - 1) i (by omega)
  rwa [show i + (j - i - 1) + 1 = j by omega] at this
theorem atI_le : ∀ (l : List Int) (x : Int), atI l x ≤ l.length
  | [], _ => Nat.le_refl 0
  | y :: r, x => by
    have := atI_le r x
    simp only [atI, List.takeWhile_cons] at this ⊢
    split <;> simp <;> omega
set_option maxRecDepth 20000 in
set_option maxHeartbeats 1000000 in
theorem ok20 (l : List Zn) (t : Bool) (f : Int) (hl : SmallZ l) : FnC Try.prog 20 [] [.lst 6 t (rowsZ l), .int .i64 f] (.tup [.lst 6 false (rowsZ (giveG (l.map exZ) l f).1), .int .i64 (giveG (l.map exZ) l f).2]) [] := by
  have hlen := hl.len
  refine fn_okC (ob0 := []) (rc := rc20) (rvs := rv20) Try.func20 rfl rcq20 rvq20 (show 2 ≤ _ by decide) ?_
  generalize hk : giveG (l.map exZ) l f = q
  repeat ((conv => whnf); first | refine Cd.seq ?_ | refine Cd.cut ?_ | refine Cd.reg ?_ | refine Cd.block ?_ | refine Cd.cond ?_ | refine Cd.dreg ?_ | refine Cd.skip ?_ | refine Cd.ret ?_ | refine Cd.exit ?_ | refine Cd.loop ?_ | refine ⟨rfl, ?_⟩ | refine ⟨Nat.le_of_ble_eq_true rfl, ?_⟩ | refine ⟨.inl rfl, ?_⟩ | refine ⟨fun h => Bool.noConfusion h, ?_⟩)
  conv => whnf
  refine .inr ⟨fun _ => ⟨[], _, _, _, ok55 l t hl, trivial, rfl, rfl, rfl, rfl, ?_⟩, (by intro h; cases h)⟩
  repeat ((conv => whnf); first | refine Cd.seq ?_ | refine Cd.cut ?_ | refine Cd.reg ?_ | refine Cd.block ?_ | refine Cd.cond ?_ | refine Cd.dreg ?_ | refine Cd.skip ?_ | refine Cd.ret ?_ | refine Cd.exit ?_ | refine Cd.loop ?_ | refine ⟨rfl, ?_⟩ | refine ⟨Nat.le_of_ble_eq_true rfl, ?_⟩ | refine ⟨.inl rfl, ?_⟩ | refine ⟨fun h => Bool.noConfusion h, ?_⟩ | refine .inl ⟨_, fun _ => ⟨purA rfl, (by first | exact ok22 l t hl)⟩, .inl rfl, ?_⟩)
  conv => whnf
  refine ⟨fun h1 => ?_, fun h1 => ?_⟩ <;> try simp only [Bool.cond_true_left, Bool.cond_false_right, Bool.not_eq_true', Bool.not_eq_false', Bool.not_not] at h1
  · have h1 : (!checkZ l) = true := by rw [h1]; rfl
    simp only [giveG, h1, cond_true] at hk
    subst hk
    repeat ((conv => whnf); first | refine Cd.seq ?_ | refine Cd.cut ?_ | refine Cd.reg ?_ | refine Cd.block ?_ | refine Cd.cond ?_ | refine Cd.dreg ?_ | refine Cd.skip ?_ | refine Cd.ret ?_ | refine Cd.exit ?_ | refine Cd.loop ?_ | refine ⟨rfl, ?_⟩ | refine ⟨Nat.le_of_ble_eq_true rfl, ?_⟩ | refine ⟨.inl rfl, ?_⟩ | refine ⟨fun h => Bool.noConfusion h, ?_⟩)
    conv => whnf
    refine ⟨[], ?_, rfl, trivial, rfl, ?_⟩
    · exact trivial
    try subst hk
    repeat' (first | exact trivial | rfl | exact .inl rfl | exact .inr rfl | exact id | exact (fun h => Bool.noConfusion h) | refine And.intro ?_ ?_)
    · show 0 + l.length ≤ _
      rw [rowsZ_len]; simp
    · refine take0 ?_
      rw [rowsZ_len]; simp
  have h1' : checkZ l = true := by simpa using h1
  have h1 : (!checkZ l) = false := by rw [h1']; rfl
  have hg := check_good h1'
  simp only [giveG, h1, cond_false] at hk
  repeat ((conv => whnf); first | refine Cd.seq ?_ | refine Cd.cut ?_ | refine Cd.reg ?_ | refine Cd.block ?_ | refine Cd.cond ?_ | refine Cd.dreg ?_ | refine Cd.skip ?_ | refine Cd.ret ?_ | refine Cd.exit ?_ | refine Cd.loop ?_ | refine ⟨rfl, ?_⟩ | refine ⟨Nat.le_of_ble_eq_true rfl, ?_⟩ | refine ⟨.inl rfl, ?_⟩ | refine ⟨fun h => Bool.noConfusion h, ?_⟩)
  conv => whnf
  refine .inl ⟨_, fun _ => ⟨?_, ok57 l t 58 [.rp 1 [.int .i64 f] 0] (inG f) call58 rfl (fun x => ok58 x f) (by omega)⟩, .inr rfl, ?_⟩
  · intro v hv
    have hv : v ∈ [V.lst 6 t (rowsZ l), V.fn 58 [V.ptr 0 0 0]] := hv
    rcases List.mem_cons.1 hv with rfl | hv
    · exact trivial
    · obtain rfl := List.mem_singleton.1 hv
      intro c hc
      obtain rfl := List.mem_singleton.1 hc
      exact ⟨rfl, rfl⟩
  repeat ((conv => whnf); first | refine Cd.seq ?_ | refine Cd.cut ?_ | refine Cd.reg ?_ | refine Cd.block ?_ | refine Cd.cond ?_ | refine Cd.dreg ?_ | refine Cd.skip ?_ | refine Cd.ret ?_ | refine Cd.exit ?_ | refine Cd.loop ?_ | refine ⟨rfl, ?_⟩ | refine ⟨Nat.le_of_ble_eq_true rfl, ?_⟩ | refine ⟨.inl rfl, ?_⟩ | refine ⟨fun h => Bool.noConfusion h, ?_⟩)
  conv => whnf
  refine ⟨fun h2 => ?_, fun h2 => ?_⟩ <;> try simp only [Bool.cond_true_left, Bool.cond_false_right, Bool.not_eq_true', Bool.not_eq_false', Bool.not_not] at h2
  · simp only [h2, cond_true] at hk
    subst hk
    repeat ((conv => whnf); first | refine Cd.seq ?_ | refine Cd.cut ?_ | refine Cd.reg ?_ | refine Cd.block ?_ | refine Cd.cond ?_ | refine Cd.dreg ?_ | refine Cd.skip ?_ | refine Cd.ret ?_ | refine Cd.exit ?_ | refine Cd.loop ?_ | refine ⟨rfl, ?_⟩ | refine ⟨Nat.le_of_ble_eq_true rfl, ?_⟩ | refine ⟨.inl rfl, ?_⟩ | refine ⟨fun h => Bool.noConfusion h, ?_⟩)
    conv => whnf
    refine ⟨[], ?_, rfl, trivial, rfl, ?_⟩
    · exact trivial
    try subst hk
    repeat' (first | exact trivial | rfl | exact .inl rfl | exact .inr rfl | exact id | exact (fun h => Bool.noConfusion h) | refine And.intro ?_ ?_)
    · show 0 + l.length ≤ _
      rw [rowsZ_len]; simp
    · refine take0 ?_
      rw [rowsZ_len]; simp
  simp only [h2, cond_false] at hk
  obtain ⟨n, hn, hin, -, -⟩ := idxF_spec (inG f) l (by simpa using h2)
  rw [hin] at hk ⊢
  rw [Int.toNat_natCast] at hk
  have hgn := hg l[n] (List.getElem_mem hn)
  have hfn := hl.free l[n] (List.getElem_mem hn)
  have hpw := ascN_pair _ _ _ hgn.asc
  simp only [getZ l n hn] at hk
  repeat ((conv => whnf); first | refine Cd.seq ?_ | refine Cd.cut ?_ | refine Cd.reg ?_ | refine Cd.block ?_ | refine Cd.cond ?_ | refine Cd.dreg ?_ | refine Cd.skip ?_ | refine Cd.ret ?_ | refine Cd.exit ?_ | refine Cd.loop ?_ | refine ⟨rfl, ?_⟩ | refine ⟨Nat.le_of_ble_eq_true rfl, ?_⟩ | refine ⟨.inl rfl, ?_⟩ | refine ⟨fun h => Bool.noConfusion h, ?_⟩)
  conv => whnf
  refine ⟨fun _ => ⟨by omega, by omega⟩, ?_⟩
  repeat ((conv => whnf); first | refine Cd.seq ?_ | refine Cd.cut ?_ | refine Cd.reg ?_ | refine Cd.block ?_ | refine Cd.cond ?_ | refine Cd.dreg ?_ | refine Cd.skip ?_ | refine Cd.ret ?_ | refine Cd.exit ?_ | refine Cd.loop ?_ | refine ⟨rfl, ?_⟩ | refine ⟨Nat.le_of_ble_eq_true rfl, ?_⟩ | refine ⟨.inl rfl, ?_⟩ | refine ⟨fun h => Bool.noConfusion h, ?_⟩)
  conv => whnf
  refine ⟨fun _ => by rw [rowsZ_len]; simp; omega, ?_⟩
  repeat ((conv => whnf); first | refine Cd.seq ?_ | refine Cd.cut ?_ | refine Cd.reg ?_ | refine Cd.block ?_ | refine Cd.cond ?_ | refine Cd.dreg ?_ | refine Cd.skip ?_ | refine Cd.ret ?_ | refine Cd.exit ?_ | refine Cd.loop ?_ | refine ⟨rfl, ?_⟩ | refine ⟨Nat.le_of_ble_eq_true rfl, ?_⟩ | refine ⟨.inl rfl, ?_⟩ | refine ⟨fun h => Bool.noConfusion h, ?_⟩)
  conv => whnf
  rw [Nat.zero_add, Int.toNat_natCast, getEx l n hn]
  repeat ((conv => whnf); first | refine Cd.seq ?_ | refine Cd.cut ?_ | refine Cd.reg ?_ | refine Cd.block ?_ | refine Cd.cond ?_ | refine Cd.dreg ?_ | refine Cd.skip ?_ | refine Cd.ret ?_ | refine Cd.exit ?_ | refine Cd.loop ?_ | refine ⟨rfl, ?_⟩ | refine ⟨Nat.le_of_ble_eq_true rfl, ?_⟩ | refine ⟨.inl rfl, ?_⟩ | refine ⟨fun h => Bool.noConfusion h, ?_⟩ | refine .inl ⟨_, fun _ => ⟨purA rfl, (by first | exact ok60 l[n].free true f hfn hpw)⟩, .inl rfl, ?_⟩)
  conv => whnf
  refine ⟨fun h4 => ?_, fun h4 => ?_⟩ <;> try simp only [Bool.cond_true_left, Bool.cond_false_right, Bool.not_eq_true', Bool.not_eq_false', Bool.not_not] at h4
  · simp only [h4, cond_true] at hk
    subst hk
    repeat ((conv => whnf); first | refine Cd.seq ?_ | refine Cd.cut ?_ | refine Cd.reg ?_ | refine Cd.block ?_ | refine Cd.cond ?_ | refine Cd.dreg ?_ | refine Cd.skip ?_ | refine Cd.ret ?_ | refine Cd.exit ?_ | refine Cd.loop ?_ | refine ⟨rfl, ?_⟩ | refine ⟨Nat.le_of_ble_eq_true rfl, ?_⟩ | refine ⟨.inl rfl, ?_⟩ | refine ⟨fun h => Bool.noConfusion h, ?_⟩)
    conv => whnf
    refine ⟨[], ?_, rfl, trivial, rfl, ?_⟩
    · exact trivial
    try subst hk
    repeat' (first | exact trivial | rfl | exact .inl rfl | exact .inr rfl | exact id | exact (fun h => Bool.noConfusion h) | refine And.intro ?_ ?_)
    · show 0 + l.length ≤ _
      rw [rowsZ_len]; simp
    · refine take0 ?_
      rw [rowsZ_len]; simp
  simp only [h4, cond_false] at hk
  repeat ((conv => whnf); first | refine Cd.seq ?_ | refine Cd.cut ?_ | refine Cd.reg ?_ | refine Cd.block ?_ | refine Cd.cond ?_ | refine Cd.dreg ?_ | refine Cd.skip ?_ | refine Cd.ret ?_ | refine Cd.exit ?_ | refine Cd.loop ?_ | refine ⟨rfl, ?_⟩ | refine ⟨Nat.le_of_ble_eq_true rfl, ?_⟩ | refine ⟨.inl rfl, ?_⟩ | refine ⟨fun h => Bool.noConfusion h, ?_⟩)
  conv => whnf
  refine ⟨fun _ => ⟨by omega, by omega⟩, ?_⟩
  repeat ((conv => whnf); first | refine Cd.seq ?_ | refine Cd.cut ?_ | refine Cd.reg ?_ | refine Cd.block ?_ | refine Cd.cond ?_ | refine Cd.dreg ?_ | refine Cd.skip ?_ | refine Cd.ret ?_ | refine Cd.exit ?_ | refine Cd.loop ?_ | refine ⟨rfl, ?_⟩ | refine ⟨Nat.le_of_ble_eq_true rfl, ?_⟩ | refine ⟨.inl rfl, ?_⟩ | refine ⟨fun h => Bool.noConfusion h, ?_⟩)
  conv => whnf
  refine ⟨fun _ => by rw [rowsZ_len]; simp; omega, ?_⟩
  repeat ((conv => whnf); first | refine Cd.seq ?_ | refine Cd.cut ?_ | refine Cd.reg ?_ | refine Cd.block ?_ | refine Cd.cond ?_ | refine Cd.dreg ?_ | refine Cd.skip ?_ | refine Cd.ret ?_ | refine Cd.exit ?_ | refine Cd.loop ?_ | refine ⟨rfl, ?_⟩ | refine ⟨Nat.le_of_ble_eq_true rfl, ?_⟩ | refine ⟨.inl rfl, ?_⟩ | refine ⟨fun h => Bool.noConfusion h, ?_⟩)
  conv => whnf
  rw [Nat.zero_add, Int.toNat_natCast, getEx l n hn]
  repeat ((conv => whnf); first | refine Cd.seq ?_ | refine Cd.cut ?_ | refine Cd.reg ?_ | refine Cd.block ?_ | refine Cd.cond ?_ | refine Cd.dreg ?_ | refine Cd.skip ?_ | refine Cd.ret ?_ | refine Cd.exit ?_ | refine Cd.loop ?_ | refine ⟨rfl, ?_⟩ | refine ⟨Nat.le_of_ble_eq_true rfl, ?_⟩ | refine ⟨.inl rfl, ?_⟩ | refine ⟨fun h => Bool.noConfusion h, ?_⟩)
  conv => whnf
  refine .inr ⟨fun _ => ⟨[11408], _, _, _, ok61 l[n].free (atI l[n].free f) f (atI_le _ _) (by omega), ⟨rfl, rfl, trivial⟩, rfl, rfl, rfl, rfl, ?_⟩, (by intro h; cases h)⟩
  repeat ((conv => whnf); first | refine Cd.seq ?_ | refine Cd.cut ?_ | refine Cd.reg ?_ | refine Cd.block ?_ | refine Cd.cond ?_ | refine Cd.dreg ?_ | refine Cd.skip ?_ | refine Cd.ret ?_ | refine Cd.exit ?_ | refine Cd.loop ?_ | refine ⟨rfl, ?_⟩ | refine ⟨Nat.le_of_ble_eq_true rfl, ?_⟩ | refine ⟨.inl rfl, ?_⟩ | refine ⟨fun h => Bool.noConfusion h, ?_⟩)
  conv => whnf
  refine ⟨fun _ => ⟨by omega, by omega⟩, ?_⟩
  repeat ((conv => whnf); first | refine Cd.seq ?_ | refine Cd.cut ?_ | refine Cd.reg ?_ | refine Cd.block ?_ | refine Cd.cond ?_ | refine Cd.dreg ?_ | refine Cd.skip ?_ | refine Cd.ret ?_ | refine Cd.exit ?_ | refine Cd.loop ?_ | refine ⟨rfl, ?_⟩ | refine ⟨Nat.le_of_ble_eq_true rfl, ?_⟩ | refine ⟨.inl rfl, ?_⟩ | refine ⟨fun h => Bool.noConfusion h, ?_⟩)
  conv => whnf
  refine ⟨by rw [rowsZ_len]; simp; omega, ?_⟩
  repeat ((conv => whnf); first | refine Cd.seq ?_ | refine Cd.cut ?_ | refine Cd.reg ?_ | refine Cd.block ?_ | refine Cd.cond ?_ | refine Cd.dreg ?_ | refine Cd.skip ?_ | refine Cd.ret ?_ | refine Cd.exit ?_ | refine Cd.loop ?_ | refine ⟨rfl, ?_⟩ | refine ⟨Nat.le_of_ble_eq_true rfl, ?_⟩ | refine ⟨.inl rfl, ?_⟩ | refine ⟨fun h => Bool.noConfusion h, ?_⟩)
  conv => whnf
  subst hk
  refine ⟨[], ?_, rfl, trivial, rfl, ?_⟩
  · exact trivial
  try subst hk
  repeat' (first | exact trivial | rfl | exact .inl rfl | exact .inr rfl | exact id | exact (fun h => Bool.noConfusion h) | refine And.intro ?_ ?_)
  · show 0 + l.length ≤ _
    rw [List.length_set, rowsZ_len]; simp
  · rw [Nat.zero_add, Int.toNat_natCast]
    refine (congrArg (fun r => List.take l.length (List.drop 0 r)) (putFree (l.map exZ) n (by simp; omega) (insI l[n].free (atI l[n].free f) f) false)).trans ?_
    refine (take0 (by rw [rowsZ_len]; simp)).trans ?_
    simp only [List.getElem_map]
    rfl
end Go.Proofs.Ytcifhjkodbaghaa
