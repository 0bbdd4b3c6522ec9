/- Zone: clone. -/
import Derived.Test.YtcifhjkodbaghaaB4
set_option linter.unusedSimpArgs false
set_option linter.unusedVariables false
namespace Go.Proofs.Ytcifhjkodbaghaa
open Go Go.Sk Go.RowKit

/- pagecache/zone.clone -/
def rc55 : RC :=
  (.seq
  (.reg [⟨(some 2), none, (.mv (.c (.lst 0 true [])))⟩] [])
  (.seq
  (.reg [⟨(some 6), none, (.mv (.t 0))⟩,
    ⟨(some 7), none, (.call 77 [(.t 6)])⟩,
    ⟨(some 3), none, (.mv (.t 7))⟩] [6, 7])
  (.seq
  (.seq
  (.reg [⟨(some 8), none, (.mv (.t 3))⟩,
    ⟨(some 9), none, (.len (.t 8))⟩,
    ⟨(some 10), none, (.mv (.c (.int .i64 0)))⟩] [8])
  (.block 0
   (.loop
    (.seq
    (.reg [⟨(some 11), none, (.bin .lss (.t 10) (.t 9))⟩] [])
    (.seq
    (.cond (.t 11)
     .skip
     (.exit 0))
    (.seq
    (.block 1
     (.seq
     (.reg [⟨(some 12), none, (.mv (.t 10))⟩,
       ⟨(some 4), none, (.mv (.t 12))⟩] [12])
     (.seq
     (.reg [⟨(some 13), none, (.mv (.t 0))⟩,
       ⟨(some 14), none, (.mv (.t 4))⟩,
       ⟨(some 15), none, (.iaddr 6 (.t 13) (.t 14))⟩,
       ⟨(some 16), none, (.faddr 5 (.t 15))⟩,
       ⟨(some 17), none, (.ld false 1 (.t 16))⟩,
       ⟨(some 18), none, (.len (.t 17))⟩,
       ⟨(some 19), none, (.mk 1 8 [(.int .i64 0)] (.t 18) (.t 18))⟩,
       ⟨(some 5), none, (.mv (.t 19))⟩] [13, 14, 15, 16, 17, 18, 19])
     (.cut
     (.reg [⟨(some 20), none, (.mv (.t 5))⟩,
       ⟨(some 21), none, (.mv (.t 0))⟩,
       ⟨(some 22), none, (.mv (.t 4))⟩,
       ⟨(some 23), none, (.iaddr 6 (.t 21) (.t 22))⟩,
       ⟨(some 24), none, (.faddr 5 (.t 23))⟩,
       ⟨(some 25), none, (.ld false 1 (.t 24))⟩,
       ⟨(some 26), none, (.cpy 1 (.t 20) (.t 25))⟩] [20, 21, 22, 23, 24, 25, 26])
     (.reg [⟨(some 27), none, (.mv (.t 3))⟩,
       ⟨(some 28), none, (.mv (.t 4))⟩,
       ⟨(some 29), none, (.mv (.t 5))⟩,
       ⟨(some 30), none, (.iaddr 6 (.t 27) (.t 28))⟩,
       ⟨(some 31), none, (.faddr 5 (.t 30))⟩,
       ⟨none, none, (.st 1 (.t 31) (.t 29))⟩] [27, 28, 29, 30, 31])))))
    (.reg [⟨(some 32), none, (.bin .add (.t 10) (.c (.int .i64 1)))⟩,
      ⟨(some 10), none, (.mv (.t 32))⟩] [32])))))))
  (.seq
  (.reg [⟨(some 33), none, (.mv (.t 3))⟩,
    ⟨(some 2), none, (.mv (.t 33))⟩] [33])
  .ret))))
theorem rcq55 : resC Go.Proofs.Try.prog Go.Proofs.Try.f55.ntmps ((Go.Proofs.Try.f55.body).getD .skip) = some (strip rc55) := by kernel_rfl
def rv55 : List RV := [(.tmp 2)]
theorem rvq55 : Go.Proofs.Try.f55.results.toList.mapM (resRV Go.Proofs.Try.prog) = some rv55 := by kernel_rfl

def exZ (z : Zn) : Zn := ⟨z.first, z.size, z.min, z.low, z.high, z.free, true⟩
def cloned (l : List Zn) (i : Nat) : List Zn := (l.take i).map exZ ++ l.drop i
theorem cloned_len (l : List Zn) (i : Nat) : (cloned l i).length = l.length := by simp [cloned]; omega
theorem cloned_get (l : List Zn) (i : Nat) (h : i < l.length) : (cloned l i)[i]'(by rw [cloned_len]; exact h) = l[i] := by
  have hl : ((l.take i).map exZ).length = i := by simp; omega
  simp only [cloned]
  rw [List.getElem_append_right (by omega)]
  simp only [hl, Nat.sub_self, List.getElem_drop, Nat.add_zero]
theorem cloned_set (l : List Zn) (i : Nat) (h : i < l.length) : (cloned l i).set i (exZ l[i]) = cloned l (i + 1) := by
  have hl : ((l.take i).map exZ).length = i := by simp; omega
  simp only [cloned]
  rw [List.set_append_right _ _ (by omega), hl, Nat.sub_self, List.drop_eq_getElem_cons h, List.set_cons_zero, List.take_succ_eq_append_getElem h, List.map_append, List.append_assoc]
  rfl
theorem cloned_all (l : List Zn) : cloned l l.length = l.map exZ := by simp [cloned]
theorem cloned_zero (l : List Zn) : cloned l 0 = l := by simp [cloned]
/-- A zone's list of free frames is replaced. -/
theorem putFree (L : List Zn) (i : Nat) (h : i < L.length) (f : List Int) (e : Bool) :
    (rowsZ L).set i (putCells 6 ((rowsZ L).getD i []) 5 [.lst 1 e (rowsI f)]) = rowsZ (L.set i ⟨(L[i]'h).first, (L[i]'h).size, (L[i]'h).min, (L[i]'h).low, (L[i]'h).high, f, e⟩) := by
  rw [rowsZ_get L i h, rowsZ, rowsZ, List.map_set]
  rfl
theorem smallZ_ex {l : List Zn} (h : SmallZ l) : SmallZ (l.map exZ) := ⟨by simpa using h.len, fun z hz => by
  obtain ⟨y, hy, rfl⟩ := List.mem_map.1 hz
  exact h.free y hy⟩
theorem cpy_row {rows : List (List V)} {n : Nat} {z : List V} (h : rows.length = n) : (List.replicate n z).take 0 ++ rows.take (min rows.length n) ++ (List.replicate n z).drop (0 + min rows.length n) = rows := by
  subst h
  simp
set_option maxRecDepth 20000 in
theorem ok55 (l : List Zn) (t : Bool) (hl : SmallZ l) : FnC Try.prog 55 [] [.lst 6 t (rowsZ l)] (.sl 0 0 l.length) [.row 6 (rowsZ (l.map exZ))] := by
  have hlen := hl.len
  refine fn_okC (ob0 := []) (rc := rc55) (rvs := rv55) Try.func55 rfl rcq55 rvq55 (show 1 ≤ _ by decide) ?_
  repeat ((conv => whnf); first | refine Cd.seq ?_ | refine Cd.cut ?_ | refine Cd.reg ?_ | refine Cd.block ?_ | refine Cd.cond ?_ | refine Cd.dreg ?_ | refine Cd.skip ?_ | refine Cd.ret ?_ | refine Cd.exit ?_ | refine Cd.loop ?_ | refine ⟨rfl, ?_⟩ | refine ⟨Nat.le_of_ble_eq_true rfl, ?_⟩ | refine ⟨.inl rfl, ?_⟩ | refine ⟨fun h => Bool.noConfusion h, ?_⟩)
  conv => whnf
  refine .inr ⟨fun _ => ⟨[], _, _, _, ok77 (rowsZ l) t (by rw [rowsZ_len]; omega), trivial, rfl, rfl, rfl, rfl, ?_⟩, (by intro h; cases h)⟩
  rw [rowsZ_len]
  repeat ((conv => whnf); first | refine Cd.seq ?_ | refine Cd.cut ?_ | refine Cd.reg ?_ | refine Cd.block ?_ | refine Cd.cond ?_ | refine Cd.dreg ?_ | refine Cd.skip ?_ | refine Cd.ret ?_ | refine Cd.exit ?_ | refine Cd.loop ?_ | refine ⟨rfl, ?_⟩ | refine ⟨Nat.le_of_ble_eq_true rfl, ?_⟩ | refine ⟨.inl rfl, ?_⟩ | refine ⟨fun h => Bool.noConfusion h, ?_⟩)
  conv => whnf
  refine ⟨Nat, fun i => i ≤ l.length, fun i => ⟨[(0, ⟨[], true, .lst 6 t (rowsZ l)⟩), (3, ⟨[], true, .sl 0 0 l.length⟩), (9, ⟨[], true, .int .i64 (l.length : Int)⟩), (10, ⟨[], true, .int .i64 (i : Int)⟩)], [(0, .row 6 (rowsZ (cloned l i)))], 1⟩, fun i => l.length - i, ⟨0, by omega, ?_⟩, fun i hI => ?_⟩
  · refine viewI [some 0] rfl rfl ?_ rfl ?_ rfl ?_
    repeat' (first | exact trivial | rfl | exact .inl rfl | exact .inr rfl | exact id | exact (fun h => Bool.noConfusion h) | refine And.intro ?_ ?_)
    try rw [cloned_zero]
  have hI : i ≤ l.length := hI
  repeat ((conv => whnf); first | refine Cd.seq ?_ | refine Cd.cut ?_ | refine Cd.reg ?_ | refine Cd.block ?_ | refine Cd.cond ?_ | refine Cd.dreg ?_ | refine Cd.skip ?_ | refine Cd.ret ?_ | refine Cd.exit ?_ | refine Cd.loop ?_ | refine ⟨rfl, ?_⟩ | refine ⟨Nat.le_of_ble_eq_true rfl, ?_⟩ | refine ⟨.inl rfl, ?_⟩ | refine ⟨fun h => Bool.noConfusion h, ?_⟩)
  conv => whnf
  refine ⟨fun h3 => ?_, fun h3 => ?_⟩ <;> try simp only [Bool.cond_true_left, Bool.cond_false_right, Bool.not_eq_true', Bool.not_eq_false', Bool.not_not] at h3
  · have h3 : i < l.length := by simp at h3; omega
    have hf := hl.free _ (List.getElem_mem h3)
    repeat ((conv => whnf); first | refine Cd.seq ?_ | refine Cd.cut ?_ | refine Cd.reg ?_ | refine Cd.block ?_ | refine Cd.cond ?_ | refine Cd.dreg ?_ | refine Cd.skip ?_ | refine Cd.ret ?_ | refine Cd.exit ?_ | refine Cd.loop ?_ | refine ⟨rfl, ?_⟩ | refine ⟨Nat.le_of_ble_eq_true rfl, ?_⟩ | refine ⟨.inl rfl, ?_⟩ | refine ⟨fun h => Bool.noConfusion h, ?_⟩)
    conv => whnf
    refine ⟨fun _ => ⟨rfl, by omega, by rw [rowsZ_len]; omega⟩, ?_⟩
    rw [Int.toNat_natCast, rowsZ_get l i h3]
    generalize hz : l[i] = z at hf
    repeat ((conv => whnf); first | refine Cd.seq ?_ | refine Cd.cut ?_ | refine Cd.reg ?_ | refine Cd.block ?_ | refine Cd.cond ?_ | refine Cd.dreg ?_ | refine Cd.skip ?_ | refine Cd.ret ?_ | refine Cd.exit ?_ | refine Cd.loop ?_ | refine ⟨rfl, ?_⟩ | refine ⟨Nat.le_of_ble_eq_true rfl, ?_⟩ | refine ⟨.inl rfl, ?_⟩ | refine ⟨fun h => Bool.noConfusion h, ?_⟩)
    conv => whnf
    rw [rowsI_len]
    repeat ((conv => whnf); first | refine Cd.seq ?_ | refine Cd.cut ?_ | refine Cd.reg ?_ | refine Cd.block ?_ | refine Cd.cond ?_ | refine Cd.dreg ?_ | refine Cd.skip ?_ | refine Cd.ret ?_ | refine Cd.exit ?_ | refine Cd.loop ?_ | refine ⟨rfl, ?_⟩ | refine ⟨Nat.le_of_ble_eq_true rfl, ?_⟩ | refine ⟨.inl rfl, ?_⟩ | refine ⟨fun h => Bool.noConfusion h, ?_⟩)
    conv => whnf
    refine ⟨by omega, by omega, by omega, by omega, ?_⟩
    rw [Int.toNat_natCast]
    repeat ((conv => whnf); first | refine Cd.seq ?_ | refine Cd.cut ?_ | refine Cd.reg ?_ | refine Cd.block ?_ | refine Cd.cond ?_ | refine Cd.dreg ?_ | refine Cd.skip ?_ | refine Cd.ret ?_ | refine Cd.exit ?_ | refine Cd.loop ?_ | refine ⟨rfl, ?_⟩ | refine ⟨Nat.le_of_ble_eq_true rfl, ?_⟩ | refine ⟨.inl rfl, ?_⟩ | refine ⟨fun h => Bool.noConfusion h, ?_⟩)
    conv => whnf
    refine ⟨Unit, fun _ => True, fun _ => ⟨[(0, ⟨[], true, .lst 6 t (rowsZ l)⟩), (3, ⟨[], true, .sl 0 0 l.length⟩), (4, ⟨[], true, .int .i64 (i : Int)⟩), (5, ⟨[], true, .lst 1 true (rowsI z.free)⟩), (9, ⟨[], true, .int .i64 (l.length : Int)⟩), (10, ⟨[], true, .int .i64 (i : Int)⟩)], [(0, .row 6 (rowsZ (cloned l i)))], 1⟩, ?_, fun _ _ => ?_⟩
    · repeat ((conv => whnf); first | refine Cd.seq ?_ | refine Cd.cut ?_ | refine Cd.reg ?_ | refine Cd.block ?_ | refine Cd.cond ?_ | refine Cd.dreg ?_ | refine Cd.skip ?_ | refine Cd.ret ?_ | refine Cd.exit ?_ | refine Cd.loop ?_ | refine ⟨rfl, ?_⟩ | refine ⟨Nat.le_of_ble_eq_true rfl, ?_⟩ | refine ⟨.inl rfl, ?_⟩ | refine ⟨fun h => Bool.noConfusion h, ?_⟩)
      conv => whnf
      refine ⟨fun _ => ⟨rfl, by omega, by rw [rowsZ_len]; omega⟩, ?_⟩
      rw [Int.toNat_natCast, rowsZ_get l i h3, hz]
      repeat ((conv => whnf); first | refine Cd.seq ?_ | refine Cd.cut ?_ | refine Cd.reg ?_ | refine Cd.block ?_ | refine Cd.cond ?_ | refine Cd.dreg ?_ | refine Cd.skip ?_ | refine Cd.ret ?_ | refine Cd.exit ?_ | refine Cd.loop ?_ | refine ⟨rfl, ?_⟩ | refine ⟨Nat.le_of_ble_eq_true rfl, ?_⟩ | refine ⟨.inl rfl, ?_⟩ | refine ⟨fun h => Bool.noConfusion h, ?_⟩)
      conv => whnf
      refine ⟨by simp, ?_⟩
      rw [cpy_row (rowsI_len _)]
      repeat ((conv => whnf); first | refine Cd.seq ?_ | refine Cd.cut ?_ | refine Cd.reg ?_ | refine Cd.block ?_ | refine Cd.cond ?_ | refine Cd.dreg ?_ | refine Cd.skip ?_ | refine Cd.ret ?_ | refine Cd.exit ?_ | refine Cd.loop ?_ | refine ⟨rfl, ?_⟩ | refine ⟨Nat.le_of_ble_eq_true rfl, ?_⟩ | refine ⟨.inl rfl, ?_⟩ | refine ⟨fun h => Bool.noConfusion h, ?_⟩)
      conv => whnf
      refine ⟨(), trivial, ?_⟩
      refine viewI [some 0] rfl rfl ?_ rfl ?_ rfl ?_
      repeat' (first | exact trivial | rfl | exact .inl rfl | exact .inr rfl | exact id | exact (fun h => Bool.noConfusion h) | refine And.intro ?_ ?_)
      · exact fun _ => rfl
      · show 0 + z.free.length ≤ (rowsI z.free).length
        rw [rowsI_len]; omega
      · exact take0 (rowsI_len _)
    · repeat ((conv => whnf); first | refine Cd.seq ?_ | refine Cd.cut ?_ | refine Cd.reg ?_ | refine Cd.block ?_ | refine Cd.cond ?_ | refine Cd.dreg ?_ | refine Cd.skip ?_ | refine Cd.ret ?_ | refine Cd.exit ?_ | refine Cd.loop ?_ | refine ⟨rfl, ?_⟩ | refine ⟨Nat.le_of_ble_eq_true rfl, ?_⟩ | refine ⟨.inl rfl, ?_⟩ | refine ⟨fun h => Bool.noConfusion h, ?_⟩)
      conv => whnf
      refine ⟨fun _ => ⟨by omega, by omega⟩, ?_⟩
      repeat ((conv => whnf); first | refine Cd.seq ?_ | refine Cd.cut ?_ | refine Cd.reg ?_ | refine Cd.block ?_ | refine Cd.cond ?_ | refine Cd.dreg ?_ | refine Cd.skip ?_ | refine Cd.ret ?_ | refine Cd.exit ?_ | refine Cd.loop ?_ | refine ⟨rfl, ?_⟩ | refine ⟨Nat.le_of_ble_eq_true rfl, ?_⟩ | refine ⟨.inl rfl, ?_⟩ | refine ⟨fun h => Bool.noConfusion h, ?_⟩)
      conv => whnf
      refine ⟨by rw [rowsZ_len, cloned_len]; omega, ?_⟩
      repeat ((conv => whnf); first | refine Cd.seq ?_ | refine Cd.cut ?_ | refine Cd.reg ?_ | refine Cd.block ?_ | refine Cd.cond ?_ | refine Cd.dreg ?_ | refine Cd.skip ?_ | refine Cd.ret ?_ | refine Cd.exit ?_ | refine Cd.loop ?_ | refine ⟨rfl, ?_⟩ | refine ⟨Nat.le_of_ble_eq_true rfl, ?_⟩ | refine ⟨.inl rfl, ?_⟩ | refine ⟨fun h => Bool.noConfusion h, ?_⟩)
      conv => whnf
      rw [Int.toNat_natCast, Nat.zero_add, wrapI (n := (i : Int) + 1) (by omega) (by omega), show ((i : Int) + 1) = ((i + 1 : Nat) : Int) by omega]
      refine ⟨i + 1, by show i + 1 ≤ _; omega, ?_, by show l.length - (i + 1) < l.length - i; omega⟩
      refine viewI [some 0] rfl rfl ?_ rfl ?_ rfl ?_
      repeat' (first | exact trivial | rfl | exact .inl rfl | exact .inr rfl | exact id | exact (fun h => Bool.noConfusion h) | refine And.intro ?_ ?_)
      refine (putFree (cloned l i) i (by rw [cloned_len]; exact h3) z.free true).trans ?_
      rw [cloned_get l i h3, ← cloned_set l i h3, hz]
      rfl
  have h3 : i = l.length := by simp at h3; omega
  subst h3
  rw [cloned_all]
  repeat ((conv => whnf); first | refine Cd.seq ?_ | refine Cd.cut ?_ | refine Cd.reg ?_ | refine Cd.block ?_ | refine Cd.cond ?_ | refine Cd.dreg ?_ | refine Cd.skip ?_ | refine Cd.ret ?_ | refine Cd.exit ?_ | refine Cd.loop ?_ | refine ⟨rfl, ?_⟩ | refine ⟨Nat.le_of_ble_eq_true rfl, ?_⟩ | refine ⟨.inl rfl, ?_⟩ | refine ⟨fun h => Bool.noConfusion h, ?_⟩)
  conv => whnf
  try subst hk
  refine ⟨[some 0], ?_, rfl, ?_, rfl, ?_⟩
  all_goals repeat' (first | exact trivial | rfl | exact .inl rfl | exact .inr rfl | exact id | exact (fun h => Bool.noConfusion h) | refine And.intro ?_ ?_)
end Go.Proofs.Ytcifhjkodbaghaa
