/- Zone, Lru: the tape; what all texts use. -/
import Derived.Test.YtcifhjkodbaghaaProg
import Derived.Test.YtcifhjkodbaghaaSkS
import Derived.KernelRfl
set_option linter.unusedSimpArgs false
set_option linter.unusedVariables false
namespace Go.Proofs.Ytcifhjkodbaghaa
open Go Go.Sk Go.RowKit
/-- No package-level variable is read. -/
instance : Go.Sk.Tab := ⟨fun _ => none⟩

/- pagecache/pagecachemade.Cut -/
def rc49 : RC :=
  (.seq
  (.reg [⟨(some 4), none, (.mv (.c (.int .i64 0)))⟩] [])
  (.seq
  (.reg [⟨(some 5), none, (.mv (.t 0))⟩,
    ⟨(some 6), none, (.conv .u64 (.t 5))⟩,
    ⟨(some 7), none, (.mv (.t 1))⟩,
    ⟨(some 8), none, (.conv .u64 (.t 7))⟩,
    ⟨(some 9), none, (.bin .rem (.t 6) (.t 8))⟩,
    ⟨(some 10), none, (.conv .i64 (.t 9))⟩,
    ⟨(some 4), none, (.mv (.t 10))⟩] [5, 6, 7, 8, 9, 10])
  .ret))
theorem rcq49 : resC Go.Proofs.Try.prog Go.Proofs.Try.f49.ntmps ((Go.Proofs.Try.f49.body).getD .skip) = some (strip rc49) := by kernel_rfl
def rv49 : List RV := [(.tmp 4)]
theorem rvq49 : Go.Proofs.Try.f49.results.toList.mapM (resRV Go.Proofs.Try.prog) = some rv49 := by kernel_rfl


/- (*pagecache/pagecachemade.Tape).Next -/
def rc16 : RC :=
  (.seq
  (.reg [⟨(some 4), none, (.mv (.c (.int .i64 0)))⟩] [])
  (.seq
  (.seq
  (.dreg 2048 2208 [⟨(some 5), none, (.mv (.t 0))⟩,
    ⟨(some 6), none, (.nilck (.t 5))⟩,
    ⟨(some 7), none, (.faddr 1 (.t 6))⟩,
    ⟨(some 8), none, (.ld false 1 (.t 7))⟩,
    ⟨(some 9), none, (.mv (.t 0))⟩,
    ⟨(some 10), none, (.nilck (.t 9))⟩,
    ⟨(some 11), none, (.faddr 0 (.t 10))⟩,
    ⟨(some 12), none, (.ld false 1 (.t 11))⟩,
    ⟨(some 13), none, (.len (.t 12))⟩,
    ⟨(some 14), none, (.bin .geq (.t 8) (.t 13))⟩] [5, 6, 7, 8, 9, 10, 11, 12, 13] [[], [0], [1, 0], [2, 0, 1], [], [4], [5, 4], [6, 4, 5], [7, 5, 4, 6], [3, 1, 0, 2, 8, 6, 4, 5, 7]] [2048, 2064, 2080, 2096, 2112, 2128, 2144, 2160, 2176, 2192])
  (.cond (.t 14)
   (.seq
   (.reg [⟨(some 4), none, (.mv (.c (.int .i64 0)))⟩] [])
   .ret)
   .skip))
  (.seq
  (.reg [⟨(some 15), none, (.mv (.t 0))⟩,
    ⟨(some 16), none, (.nilck (.t 15))⟩,
    ⟨(some 17), none, (.faddr 1 (.t 16))⟩,
    ⟨(some 18), none, (.ld false 1 (.t 17))⟩,
    ⟨(some 19), none, (.bin .add (.t 18) (.c (.int .i64 1)))⟩,
    ⟨(some 20), none, (.nilck (.t 15))⟩,
    ⟨(some 21), none, (.faddr 1 (.t 20))⟩,
    ⟨none, none, (.st 1 (.t 21) (.t 19))⟩] [15, 16, 17, 18, 19, 20, 21])
  (.seq
  (.dreg 5120 5344 [⟨(some 22), none, (.mv (.t 0))⟩,
    ⟨(some 23), none, (.nilck (.t 22))⟩,
    ⟨(some 24), none, (.faddr 0 (.t 23))⟩,
    ⟨(some 25), none, (.ld false 1 (.t 24))⟩,
    ⟨(some 26), none, (.mv (.t 0))⟩,
    ⟨(some 27), none, (.nilck (.t 26))⟩,
    ⟨(some 28), none, (.faddr 1 (.t 27))⟩,
    ⟨(some 29), none, (.ld false 1 (.t 28))⟩,
    ⟨(some 30), none, (.bin .sub (.t 29) (.c (.int .i64 1)))⟩,
    ⟨(some 31), none, (.iaddr 1 (.t 25) (.t 30))⟩,
    ⟨(some 32), none, (.ld false 1 (.t 31))⟩,
    ⟨(some 33), none, (.mv (.t 1))⟩,
    ⟨(some 34), none, (.call 49 [(.t 32), (.t 33)])⟩,
    ⟨(some 4), none, (.mv (.t 34))⟩] [22, 23, 24, 25, 26, 27, 28, 29, 30, 31, 32, 33, 34] [[], [0], [1, 0], [2, 0, 1], [], [4], [5, 4], [6, 4, 5], [7, 5, 4, 6], [3, 1, 0, 2, 8, 6, 4, 5, 7], [9, 7, 5, 4, 6, 8, 2, 0, 1, 3], [], [10, 3, 1, 0, 2, 8, 6, 4, 5, 7, 9, 11], [12, 11, 9, 7, 5, 4, 6, 8, 2, 0, 1, 3, 10]] [5120, 5136, 5152, 5168, 5184, 5200, 5216, 5232, 5248, 5264, 5280, 5296, 5312, 5328])
  .ret))))
theorem rcq16 : resC Go.Proofs.Try.prog Go.Proofs.Try.f16.ntmps ((Go.Proofs.Try.f16.body).getD .skip) = some (strip rc16) := by kernel_rfl
def rv16 : List RV := [(.tmp 4)]
theorem rvq16 : Go.Proofs.Try.f16.results.toList.mapM (resRV Go.Proofs.Try.prog) = some rv16 := by kernel_rfl


def cutF (x n : Int) : Int := IntKind.i64.wrap ((IntKind.u64.wrap x).tmod (IntKind.u64.wrap n))
theorem ok49 (x n : Int) (hn : IntKind.u64.wrap n ≠ 0) : FnC Try.prog 49 [] [.int .i64 x, .int .i64 n] (.int .i64 (cutF x n)) [] := by
  refine fn_okF (ob0 := []) (rc := rc49) (rvs := rv49) Try.func49 rfl rcq49 rvq49 (show 2 ≤ _ by decide) ?_
  repeat ((conv => whnf); refine ⟨rfl, ?_⟩)
  conv => whnf
  refine ⟨fun _ => hn, ?_⟩
  repeat ((conv => whnf); refine ⟨rfl, ?_⟩)
  conv => whnf
  refine ⟨[], trivial, rfl, trivial, rfl, ?_⟩
  conv => whnf
  exact ⟨rfl, rfl⟩

def rowsI (L : List Int) : List (List V) := L.map fun x => [.int .i64 x]
def tapeO (L : List Int) (I : Int) : Sk.Obj := .box [.lst 1 false (rowsI L), .int .i64 I]
theorem ok16 (L : List Int) (I n : Int) (hn : IntKind.u64.wrap n ≠ 0) (hI : 0 ≤ I) (hlt : I < (L.length : Int)) (hL : (L.length : Int) < 2 ^ 62) :
    FnC Try.prog 16 [tapeO L I] [.ptr 0 0 0, .int .i64 n] (.int .i64 (cutF (L.getD I.toNat 0) n)) [tapeO L (I + 1)] := by
  refine fn_okF (ob0 := [tapeO L I]) (rc := rc16) (rvs := rv16) Try.func16 rfl rcq16 rvq16 (show 2 ≤ _ by decide) ?_
  repeat ((conv => whnf); first | refine ⟨rfl, ?_⟩ | refine ⟨Nat.le_of_ble_eq_true rfl, ?_⟩)
  conv => whnf
  have hlen : (rowsI L).length = L.length := by simp [rowsI]
  refine ⟨fun h => ?_, fun _ => ?_⟩
  · rw [hlen] at h; exact absurd (of_decide_eq_true h) (by omega)
  repeat ((conv => whnf); first | refine ⟨rfl, ?_⟩ | refine ⟨Nat.le_of_ble_eq_true rfl, ?_⟩)
  conv => whnf
  have hw1 : IntKind.i64.wrap (I + 1) = I + 1 := by rw [IntKind.wrap_i64]; omega
  have hw2 : IntKind.i64.wrap (I + 1 - 1) = I := by rw [IntKind.wrap_i64]; omega
  rw [hw1, hw2]
  refine ⟨fun _ => ⟨rfl, hI, by rw [hlen]; exact hlt⟩, ?_⟩
  repeat ((conv => whnf); first | refine ⟨rfl, ?_⟩ | refine ⟨Nat.le_of_ble_eq_true rfl, ?_⟩)
  conv => whnf
  have hget : (rowsI L).getD I.toNat [] = [.int .i64 (L.getD I.toNat 0)] := by
    have : I.toNat < L.length := by omega
    simp [rowsI, List.getD_eq_getElem?_getD, this]
  rw [hget]
  repeat ((conv => whnf); first | refine ⟨rfl, ?_⟩ | refine ⟨Nat.le_of_ble_eq_true rfl, ?_⟩)
  conv => whnf
  refine .inl ⟨_, fun _ => ⟨?_, ok49 _ _ hn⟩, .inl rfl, ?_⟩
  · intro v hv
    simp only [List.map_cons, List.map_nil, List.mem_cons, List.not_mem_nil, or_false] at hv
    rcases hv with rfl | rfl <;> exact trivial
  repeat ((conv => whnf); first | refine ⟨rfl, ?_⟩ | refine ⟨Nat.le_of_ble_eq_true rfl, ?_⟩)
  conv => whnf
  refine ⟨[some 0], ?_, rfl, ?_, rfl, ?_⟩
  · exact ⟨⟨⟨.inl rfl, fun h => h, rfl⟩, ⟨rfl, rfl⟩, trivial⟩, trivial⟩
  · exact ⟨rfl, trivial⟩
  · conv => whnf
    exact ⟨rfl, rfl⟩
def purB1 : V → Bool
  | .sl _ _ _ => false
  | .slk _ _ _ _ => false
  | .ptr _ _ _ => false
  | _ => true
def purB : V → Bool
  | .agg cs => cs.all purB1
  | .fn _ cs => cs.all purB1
  | v => purB1 v
theorem purB1_OK {S : Store} {v : V} (h : purB1 v = true) : purOK1 S v := by
  cases v <;> first | exact trivial | (simp [purB1] at h)
theorem purB_OK {S : Store} {v : V} (h : purB v = true) : purOK S v := by
  cases v with
  | agg cs => intro c hc; exact purB1_OK (List.all_eq_true.1 h c hc)
  | fn f cs => intro c hc; exact purB1_OK (List.all_eq_true.1 h c hc)
  | sl k o l => simp [purB, purB1] at h
  | slk k o l c => simp [purB, purB1] at h
  | ptr k i c => simp [purB, purB1] at h
  | _ => exact trivial
theorem purA {S : Store} {l : List V} (h : l.all purB = true) : ∀ v ∈ l, purOK S v := fun v hv => purB_OK (List.all_eq_true.1 h v hv)
theorem viewI {n0 : Nat} {st st' : St} (ids : List (Option Nat)) (h1 : st'.so = mkFrom 0 (st'.so.map Prod.snd)) (h2 : st'.nx = (st'.so.map Prod.snd).length) (h3 : vwObs st.so ids ids (st'.so.map Prod.snd)) (h4 : nodupB ids = true)
    (h5 : firstOK 0 n0 ids) (h6 : Nat.ble n0 (st'.so.map Prod.snd).length = true) (h7 : vwSlots st.sl st.so ids st'.sl) : View n0 st st' := ⟨ids, _, h1, h2, h3, h4, h5, h6, h7⟩
theorem wrapI {n : Int} (h : -9223372036854775808 ≤ n) (h' : n < 9223372036854775808) : IntKind.i64.wrap n = n := by rw [IntKind.wrap_i64]; omega
theorem rowsI_len (L : List Int) : (rowsI L).length = L.length := by simp [rowsI]
theorem rowsI_get (L : List Int) (i : Nat) (h : i < L.length) : (rowsI L).getD i [] = [.int .i64 (L[i]'h)] := by
  simp [rowsI, List.getD_eq_getElem?_getD, h]
theorem rowsI_get' (L : List Int) (j : Int) (i : Nat) (e : j = i) (h : i < L.length) : (rowsI L).getD j.toNat [] = [.int .i64 (L[i]'h)] := by
  subst e; rw [Int.toNat_natCast]; exact rowsI_get L i h
theorem beqT {a b : Int} (h : a = b) : (a == b) = true := by simp [h]
theorem beqF {a b : Int} (h : ¬ a = b) : (a == b) = false := by simpa using h
theorem bneT {a b : Int} (h : ¬ a = b) : (a != b) = true := by simpa using h
theorem bneF {a b : Int} (h : a = b) : (a != b) = false := by simp [h]
theorem mgetV_set : ∀ (M : List (Int × V)) (j : Int) (v : V) (x : Int) (z : V), mgetV (msetV M j v) x z = if x = j then v else mgetV M x z
  | [], j, v, x, z => by
    simp only [msetV, mgetV]
    by_cases h : x = j
    · simp [h]
    · rw [if_neg h, if_neg (fun e => h e.symm)]
  | (k, u) :: r, j, v, x, z => by
    simp only [msetV]
    by_cases hk : k = j
    · subst hk
      simp only [if_true, mgetV]
      by_cases hx : k = x
      · subst hx; simp
      · simp [hx, Ne.symm hx]
    · simp only [if_neg hk, mgetV, mgetV_set r j v x z]
      by_cases hx : k = x
      · subst hx; simp [hk]
      · simp [hx]
theorem take0 {xs : List (List V)} {n : Nat} (h : xs.length = n) : (xs.drop 0).take n = xs := by subst h; simp
/- (*pagecache/pagecachemade.Tape).Odd -/
def rc17 : RC :=
  (.seq
  (.reg [⟨(some 2), none, (.mv (.c (.int .i64 0)))⟩] [])
  (.seq
  (.reg [⟨(some 3), none, (.bslice 1 [(.int .i64 0)] 19 [(0, (.c (.int .i64 0))), (1, (.c (.int .i64 1))), (2, (.c (.int .i64 2))), (3, (.c (.int .i64 3))), (4, (.c (.int .i64 4))), (5, (.c (.int .i64 7))), (6, (.c (.int .i64 8))), (7, (.c (.int .i64 15))), (8, (.c (.int .i64 16))), (9, (.c (.int .i64 63))), (10, (.c (.int .i64 64))), (11, (.c (.int .i64 128))), (12, (.c (.int .i64 255))), (13, (.c (.int .i64 256))), (14, (.c (.int .i64 (-1)))), (15, (.c (.int .i64 1000000))), (16, (.c (.int .i64 1000001))), (17, (.c (.int .i64 4611686018427387904))), (18, (.c (.int .i64 (-9223372036854775808))))])⟩,
    ⟨(some 4), none, (.mv (.t 0))⟩,
    ⟨(some 5), none, (.call 16 [(.t 4), (.c (.int .i64 19))])⟩,
    ⟨(some 6), none, (.iaddr 1 (.t 3) (.t 5))⟩,
    ⟨(some 7), none, (.ld false 1 (.t 6))⟩,
    ⟨(some 2), none, (.mv (.t 7))⟩] [3, 4, 5, 6, 7])
  .ret))
theorem rcq17 : resC Go.Proofs.Try.prog Go.Proofs.Try.f17.ntmps ((Go.Proofs.Try.f17.body).getD .skip) = some (strip rc17) := by kernel_rfl
def rv17 : List RV := [(.tmp 2)]
theorem rvq17 : Go.Proofs.Try.f17.results.toList.mapM (resRV Go.Proofs.Try.prog) = some rv17 := by kernel_rfl

def nxV (L : List Int) (I : Nat) (n : Int) : Int := bif decide (L.length ≤ I) then 0 else cutF (L.getD I 0) n
def nxI (L : List Int) (I : Nat) : Nat := bif decide (L.length ≤ I) then I else I + 1
def tpO (L : List Int) (I : Nat) : Sk.Obj := tapeO L (I : Int)
theorem u64_of {n : Int} (h0 : 0 < n) (h1 : n < 4611686018427387904) : IntKind.u64.wrap n = n := by rw [IntKind.wrap_u64]; omega
theorem cutF_in (x n : Int) (h0 : 0 < n) (h1 : n < 4611686018427387904) : 0 ≤ cutF x n ∧ cutF x n < n := by
  unfold cutF
  rw [u64_of h0 h1]
  have hx : 0 ≤ IntKind.u64.wrap x := by rw [IntKind.wrap_u64]; omega
  have a1 := Int.tmod_nonneg n hx
  have a2 := Int.tmod_lt_of_pos (IntKind.u64.wrap x) h0
  rw [wrapI (by omega) (by omega)]
  exact ⟨a1, a2⟩
theorem nxV_in (L : List Int) (I : Nat) (n : Int) (h0 : 0 < n) (h1 : n < 4611686018427387904) : 0 ≤ nxV L I n ∧ nxV L I n < n := by
  unfold nxV
  cases decide (L.length ≤ I) with
  | true => exact ⟨by simp, by simpa using h0⟩
  | false => exact cutF_in _ n h0 h1
theorem nxI_in (L : List Int) (I : Nat) (h : I ≤ L.length) : nxI L I ≤ L.length := by
  unfold nxI
  by_cases h' : L.length ≤ I
  · simp [h']; exact h
  · simp [h']; omega
set_option maxRecDepth 20000 in
theorem ok16n (L : List Int) (I : Nat) (n : Int) (hL : (L.length : Int) < 2 ^ 62) (hI : I ≤ L.length) (h0 : 0 < n) (h1 : n < 4611686018427387904) :
    FnC Try.prog 16 [tpO L I] [.ptr 0 0 0, .int .i64 n] (.int .i64 (nxV L I n)) [tpO L (nxI L I)] := by
  have hn : IntKind.u64.wrap n ≠ 0 := by rw [u64_of h0 h1]; omega
  by_cases hlt : I < L.length
  · have e1 : nxV L I n = cutF (L.getD I 0) n := by simp [nxV, show ¬ L.length ≤ I by omega]
    have e2 : nxI L I = I + 1 := by simp [nxI, show ¬ L.length ≤ I by omega]
    have := ok16 L I n hn (by omega) (by omega) (by omega)
    rw [e1, e2]
    simpa [tpO] using this
  · have e1 : nxV L I n = 0 := by simp [nxV, show L.length ≤ I by omega]
    have e2 : nxI L I = I := by simp [nxI, show L.length ≤ I by omega]
    rw [e1, e2]
    refine fn_okC (ob0 := [tpO L I]) (rc := rc16) (rvs := rv16) Try.func16 rfl rcq16 rvq16 (show 2 ≤ _ by decide) ?_
    repeat ((conv => whnf); first | refine Cd.seq ?_ | refine Cd.cut ?_ | refine Cd.reg ?_ | refine Cd.block ?_ | refine Cd.cond ?_ | refine Cd.dreg ?_ | refine Cd.skip ?_ | refine Cd.ret ?_ | refine Cd.exit ?_ | refine Cd.loop ?_ | refine ⟨rfl, ?_⟩ | refine ⟨Nat.le_of_ble_eq_true rfl, ?_⟩ | refine ⟨.inl rfl, ?_⟩ | refine ⟨fun h => Bool.noConfusion h, ?_⟩)
    conv => whnf
    rw [rowsI_len]
    refine ⟨fun h => ?_, fun h => ?_⟩
    · repeat ((conv => whnf); first | refine Cd.seq ?_ | refine Cd.cut ?_ | refine Cd.reg ?_ | refine Cd.block ?_ | refine Cd.cond ?_ | refine Cd.dreg ?_ | refine Cd.skip ?_ | refine Cd.ret ?_ | refine Cd.exit ?_ | refine Cd.loop ?_ | refine ⟨rfl, ?_⟩ | refine ⟨Nat.le_of_ble_eq_true rfl, ?_⟩ | refine ⟨.inl rfl, ?_⟩ | refine ⟨fun h => Bool.noConfusion h, ?_⟩)
      conv => whnf
      refine ⟨[some 0], ?_, rfl, ?_, rfl, ?_⟩
      · exact ⟨⟨⟨.inl rfl, fun h => h, rfl⟩, ⟨rfl, rfl⟩, trivial⟩, trivial⟩
      · exact ⟨rfl, trivial⟩
      · conv => whnf
        exact ⟨rfl, rfl⟩
    · simp at h; omega
def oddL : List Int := [0, 1, 2, 3, 4, 7, 8, 15, 16, 63, 64, 128, 255, 256, -1, 1000000, 1000001, 4611686018427387904, -9223372036854775808]
def oddF (L : List Int) (I : Nat) : Int := oddL.getD (nxV L I 19).toNat 0
theorem getLit {R : List (List V)} {M : List Int} (j : Int) (hR : R = rowsI M) (h0 : 0 ≤ j) (h : j < M.length) : R.getD (0 + j.toNat) [] = [.int .i64 (M.getD j.toNat 0)] := by
  subst hR
  rw [Nat.zero_add]
  have : j.toNat < M.length := by omega
  rw [rowsI_get M _ this]; simp [List.getD_eq_getElem?_getD, this]
set_option maxRecDepth 20000 in
theorem ok17 (L : List Int) (I : Nat) (hL : (L.length : Int) < 2 ^ 62) (hI : I ≤ L.length) : FnC Try.prog 17 [tpO L I] [.ptr 0 0 0] (.int .i64 (oddF L I)) [tpO L (nxI L I)] := by
  refine fn_okC (ob0 := [tpO L I]) (rc := rc17) (rvs := rv17) Try.func17 rfl rcq17 rvq17 (show 1 ≤ _ by decide) ?_
  repeat ((conv => whnf); first | refine Cd.seq ?_ | refine Cd.cut ?_ | refine Cd.reg ?_ | refine Cd.block ?_ | refine Cd.cond ?_ | refine Cd.dreg ?_ | refine Cd.skip ?_ | refine Cd.ret ?_ | refine Cd.exit ?_ | refine Cd.loop ?_ | refine ⟨rfl, ?_⟩ | refine ⟨Nat.le_of_ble_eq_true rfl, ?_⟩ | refine ⟨.inl rfl, ?_⟩ | refine ⟨fun h => Bool.noConfusion h, ?_⟩ | refine .inr ⟨fun _ => ⟨[0], _, _, _, ok16n L _ _ hL (by omega) (by omega) (by omega), ⟨rfl, rfl, trivial⟩, rfl, rfl, rfl, rfl, ?_⟩, (by intro h; cases h)⟩)
  conv => whnf
  have hv := nxV_in L I 19 (by omega) (by omega)
  refine ⟨fun _ => hv, ?_⟩
  repeat ((conv => whnf); first | refine Cd.seq ?_ | refine Cd.cut ?_ | refine Cd.reg ?_ | refine Cd.block ?_ | refine Cd.cond ?_ | refine Cd.dreg ?_ | refine Cd.skip ?_ | refine Cd.ret ?_ | refine Cd.exit ?_ | refine Cd.loop ?_ | refine ⟨rfl, ?_⟩ | refine ⟨Nat.le_of_ble_eq_true rfl, ?_⟩ | refine ⟨.inl rfl, ?_⟩ | refine ⟨fun h => Bool.noConfusion h, ?_⟩ | refine .inr ⟨fun _ => ⟨[0], _, _, _, ok16n L _ _ hL (by omega) (by omega) (by omega), ⟨rfl, rfl, trivial⟩, rfl, rfl, rfl, rfl, ?_⟩, (by intro h; cases h)⟩)
  conv => whnf
  refine ⟨fun _ => by simp only [List.length_set, List.length_replicate]; omega, ?_⟩
  rw [getLit (M := oddL) _ ?hR hv.1 hv.2]
  case hR => rfl
  repeat ((conv => whnf); first | refine Cd.seq ?_ | refine Cd.cut ?_ | refine Cd.reg ?_ | refine Cd.block ?_ | refine Cd.cond ?_ | refine Cd.dreg ?_ | refine Cd.skip ?_ | refine Cd.ret ?_ | refine Cd.exit ?_ | refine Cd.loop ?_ | refine ⟨rfl, ?_⟩ | refine ⟨Nat.le_of_ble_eq_true rfl, ?_⟩ | refine ⟨.inl rfl, ?_⟩ | refine ⟨fun h => Bool.noConfusion h, ?_⟩ | refine .inr ⟨fun _ => ⟨[0], _, _, _, ok16n L _ _ hL (by omega) (by omega) (by omega), ⟨rfl, rfl, trivial⟩, rfl, rfl, rfl, rfl, ?_⟩, (by intro h; cases h)⟩)
  conv => whnf
  try subst hk
  refine ⟨[some 0], ?_, rfl, ?_, rfl, ?_⟩
  all_goals repeat' (first | exact trivial | rfl | exact .inl rfl | exact .inr rfl | exact id | exact (fun h => Bool.noConfusion h) | refine And.intro ?_ ?_)
end Go.Proofs.Ytcifhjkodbaghaa
