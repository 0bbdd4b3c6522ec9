import Derived.Test.YteelckbeekgfiaaDoorBase
import Derived.KernelRfl
set_option linter.unusedSimpArgs false
set_option linter.unusedVariables false
namespace Go.Proofs.YteelckbeekgfiaaDoor
open Go Go.Sk Go.RowKit

/- pagecache/pagecachemade.Cut -/
def rc25 : RC :=
  (.seq
  (.reg [⟨(some 4), none, (.mv (.c (.int .i64 0)))⟩] [])
  (.seq
  (.reg [⟨(some 5), none, (.mv (.t 0))⟩,
    ⟨(some 6), none, (.conv .u64 (.t 5))⟩,
    ⟨(some 7), none, (.mv (.t 1))⟩,
    ⟨(some 8), none, (.conv .u64 (.t 7))⟩,
    ⟨(some 9), none, (.bin .rem (.t 6) (.t 8))⟩,
    ⟨(some 10), none, (.conv .i64 (.t 9))⟩,
    ⟨(some 4), none, (.mv (.t 10))⟩] [5, 6, 7, 8, 9, 10])
  .ret))
theorem rcq25 : resC Go.Proofs.Tryd.prog Go.Proofs.Tryd.f25.ntmps ((Go.Proofs.Tryd.f25.body).getD .skip) = some (strip rc25) := by kernel_rfl
def rv25 : List RV := [(.tmp 4)]
theorem rvq25 : Go.Proofs.Tryd.f25.results.toList.mapM (resRV Go.Proofs.Tryd.prog) = some rv25 := by kernel_rfl


/- (*pagecache/pagecachemade.Tape).Next -/
def rc7 : RC :=
  (.seq
  (.reg [⟨(some 4), none, (.mv (.c (.int .i64 0)))⟩] [])
  (.seq
  (.seq
  (.dreg 2048 2208 [⟨(some 5), none, (.mv (.t 0))⟩,
    ⟨(some 6), none, (.nilck (.t 5))⟩,
    ⟨(some 7), none, (.faddr 1 (.t 6))⟩,
    ⟨(some 8), none, (.ld false 1 (.t 7))⟩,
    ⟨(some 9), none, (.mv (.t 0))⟩,
    ⟨(some 10), none, (.nilck (.t 9))⟩,
    ⟨(some 11), none, (.faddr 0 (.t 10))⟩,
    ⟨(some 12), none, (.ld false 1 (.t 11))⟩,
    ⟨(some 13), none, (.len (.t 12))⟩,
    ⟨(some 14), none, (.bin .geq (.t 8) (.t 13))⟩] [5, 6, 7, 8, 9, 10, 11, 12, 13] [[], [0], [1, 0], [2, 0, 1], [], [4], [5, 4], [6, 4, 5], [7, 5, 4, 6], [3, 1, 0, 2, 8, 6, 4, 5, 7]] [2048, 2064, 2080, 2096, 2112, 2128, 2144, 2160, 2176, 2192])
  (.cond (.t 14)
   (.seq
   (.reg [⟨(some 4), none, (.mv (.c (.int .i64 0)))⟩] [])
   .ret)
   .skip))
  (.seq
  (.reg [⟨(some 15), none, (.mv (.t 0))⟩,
    ⟨(some 16), none, (.nilck (.t 15))⟩,
    ⟨(some 17), none, (.faddr 1 (.t 16))⟩,
    ⟨(some 18), none, (.ld false 1 (.t 17))⟩,
    ⟨(some 19), none, (.bin .add (.t 18) (.c (.int .i64 1)))⟩,
    ⟨(some 20), none, (.nilck (.t 15))⟩,
    ⟨(some 21), none, (.faddr 1 (.t 20))⟩,
    ⟨none, none, (.st 1 (.t 21) (.t 19))⟩] [15, 16, 17, 18, 19, 20, 21])
  (.seq
  (.dreg 5120 5344 [⟨(some 22), none, (.mv (.t 0))⟩,
    ⟨(some 23), none, (.nilck (.t 22))⟩,
    ⟨(some 24), none, (.faddr 0 (.t 23))⟩,
    ⟨(some 25), none, (.ld false 1 (.t 24))⟩,
    ⟨(some 26), none, (.mv (.t 0))⟩,
    ⟨(some 27), none, (.nilck (.t 26))⟩,
    ⟨(some 28), none, (.faddr 1 (.t 27))⟩,
    ⟨(some 29), none, (.ld false 1 (.t 28))⟩,
    ⟨(some 30), none, (.bin .sub (.t 29) (.c (.int .i64 1)))⟩,
    ⟨(some 31), none, (.iaddr 1 (.t 25) (.t 30))⟩,
    ⟨(some 32), none, (.ld false 1 (.t 31))⟩,
    ⟨(some 33), none, (.mv (.t 1))⟩,
    ⟨(some 34), none, (.call 25 [(.t 32), (.t 33)])⟩,
    ⟨(some 4), none, (.mv (.t 34))⟩] [22, 23, 24, 25, 26, 27, 28, 29, 30, 31, 32, 33, 34] [[], [0], [1, 0], [2, 0, 1], [], [4], [5, 4], [6, 4, 5], [7, 5, 4, 6], [3, 1, 0, 2, 8, 6, 4, 5, 7], [9, 7, 5, 4, 6, 8, 2, 0, 1, 3], [], [10, 3, 1, 0, 2, 8, 6, 4, 5, 7, 9, 11], [12, 11, 9, 7, 5, 4, 6, 8, 2, 0, 1, 3, 10]] [5120, 5136, 5152, 5168, 5184, 5200, 5216, 5232, 5248, 5264, 5280, 5296, 5312, 5328])
  .ret))))
theorem rcq7 : resC Go.Proofs.Tryd.prog Go.Proofs.Tryd.f7.ntmps ((Go.Proofs.Tryd.f7.body).getD .skip) = some (strip rc7) := by kernel_rfl
def rv7 : List RV := [(.tmp 4)]
theorem rvq7 : Go.Proofs.Tryd.f7.results.toList.mapM (resRV Go.Proofs.Tryd.prog) = some rv7 := by kernel_rfl


def cutF (x n : Int) : Int := IntKind.i64.wrap ((IntKind.u64.wrap x).tmod (IntKind.u64.wrap n))
theorem ok25 (x n : Int) (hn : IntKind.u64.wrap n ≠ 0) : FnC Tryd.prog 25 [] [.int .i64 x, .int .i64 n] (.int .i64 (cutF x n)) [] := by
  refine fn_okF (ob0 := []) (rc := rc25) (rvs := rv25) Tryd.func25 rfl rcq25 rvq25 (show 2 ≤ _ by decide) ?_
  repeat ((conv => whnf); refine ⟨rfl, ?_⟩)
  conv => whnf
  refine ⟨fun _ => hn, ?_⟩
  repeat ((conv => whnf); refine ⟨rfl, ?_⟩)
  conv => whnf
  refine ⟨[], trivial, rfl, trivial, rfl, ?_⟩
  conv => whnf
  exact ⟨rfl, rfl⟩

def rowsI (L : List Int) : List (List V) := L.map fun x => [.int .i64 x]
def tapeO (L : List Int) (I : Int) : Sk.Obj := .box [.lst 1 false (rowsI L), .int .i64 I]
theorem ok7 (L : List Int) (I n : Int) (hn : IntKind.u64.wrap n ≠ 0) (hI : 0 ≤ I) (hlt : I < (L.length : Int)) (hL : (L.length : Int) < 2 ^ 62) :
    FnC Tryd.prog 7 [tapeO L I] [.ptr 0 0 0, .int .i64 n] (.int .i64 (cutF (L.getD I.toNat 0) n)) [tapeO L (I + 1)] := by
  refine fn_okF (ob0 := [tapeO L I]) (rc := rc7) (rvs := rv7) Tryd.func7 rfl rcq7 rvq7 (show 2 ≤ _ by decide) ?_
  repeat ((conv => whnf); first | refine ⟨rfl, ?_⟩ | refine ⟨Nat.le_of_ble_eq_true rfl, ?_⟩)
  conv => whnf
  have hlen : (rowsI L).length = L.length := by simp [rowsI]
  refine ⟨fun h => ?_, fun _ => ?_⟩
  · rw [hlen] at h; exact absurd (of_decide_eq_true h) (by omega)
  repeat ((conv => whnf); first | refine ⟨rfl, ?_⟩ | refine ⟨Nat.le_of_ble_eq_true rfl, ?_⟩)
  conv => whnf
  have hw1 : IntKind.i64.wrap (I + 1) = I + 1 := by rw [IntKind.wrap_i64]; omega
  have hw2 : IntKind.i64.wrap (I + 1 - 1) = I := by rw [IntKind.wrap_i64]; omega
  rw [hw1, hw2]
  refine ⟨fun _ => ⟨rfl, hI, by rw [hlen]; exact hlt⟩, ?_⟩
  repeat ((conv => whnf); first | refine ⟨rfl, ?_⟩ | refine ⟨Nat.le_of_ble_eq_true rfl, ?_⟩)
  conv => whnf
  have hget : (rowsI L).getD I.toNat [] = [.int .i64 (L.getD I.toNat 0)] := by
    have : I.toNat < L.length := by omega
    simp [rowsI, List.getD_eq_getElem?_getD, this]
  rw [hget]
  repeat ((conv => whnf); first | refine ⟨rfl, ?_⟩ | refine ⟨Nat.le_of_ble_eq_true rfl, ?_⟩)
  conv => whnf
  refine .inl ⟨_, fun _ => ⟨?_, ok25 _ _ hn⟩, .inl rfl, ?_⟩
  · intro v hv
    simp only [List.map_cons, List.map_nil, List.mem_cons, List.not_mem_nil, or_false] at hv
    rcases hv with rfl | rfl <;> exact trivial
  repeat ((conv => whnf); first | refine ⟨rfl, ?_⟩ | refine ⟨Nat.le_of_ble_eq_true rfl, ?_⟩)
  conv => whnf
  refine ⟨[some 0], ?_, rfl, ?_, rfl, ?_⟩
  · exact ⟨⟨⟨.inl rfl, fun h => h, rfl⟩, ⟨rfl, rfl⟩, trivial⟩, trivial⟩
  · exact ⟨rfl, trivial⟩
  · conv => whnf
    exact ⟨rfl, rfl⟩
end Go.Proofs.YteelckbeekgfiaaDoor
