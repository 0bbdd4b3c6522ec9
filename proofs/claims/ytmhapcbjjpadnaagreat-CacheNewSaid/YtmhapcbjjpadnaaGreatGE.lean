/- Caches. -/
import Derived.Test.YtmhapcbjjpadnaaGreatGC
import Derived.Test.YtmhapcbjjpadnaaGreatG7
import Derived.Test.YtmhapcbjjpadnaaGreatGA
set_option linter.unusedSimpArgs false
set_option linter.unusedVariables false
set_option maxRecDepth 40000
namespace Go.Proofs.YtmhapcbjjpadnaaGreat
open Go Go.Sk Go.RowKit

def mkF (p : Int × Int) : Fl := ⟨p.1, p.2, emT, 0, 0, 0, 0, 0, 0, 0, 0, 0⟩
def newC (l : List (Int × Int)) (z : List Zn) (g : List Gr) : Ca := ⟨l.map mkF, List.replicate (szF z).toNat fre, z, g, List.replicate g.length l0, List.replicate g.length 0, []⟩
theorem plc_mk (l : List (Int × Int)) : (l.map mkF).map plc = l := by
  rw [List.map_map]; exact List.map_id'' (fun _ => rfl) l
def newV (l : List (Int × Int)) (z : List Zn) (g : List Gr) : List V := [.lst 15 false (rowsF (l.map mkF)), .lst 9 false (rowsR (List.replicate (szF z).toNat fre)), .lst 6 false (rowsZ z), .lst 3 false (rowsG g), .lst 3 false (rowsL (List.replicate g.length l0)), .lst 1 false (rowsI (List.replicate g.length 0)), .lst 5 false []]
theorem newC_c (l : List (Int × Int)) (z : List Zn) (g : List Gr) : (newC l z g).c = newV l z g := rfl
/-- What a cache is that was just made. -/
structure NewG (l : List (Int × Int)) (z : List Zn) (g : List Gr) : Prop where
  loc : locF l = true
  grp : grF g = true
  chg : chg0 g = true
  zon : NewZ z
theorem noneBad_get {p : Nat → Bool} : ∀ {n i : Nat}, noneBad p n = true → i < n → p i = false
  | 0, _, _, h => absurd h (by omega)
  | n + 1, i, h, hi => by
    simp only [noneBad, Bool.and_eq_true, Bool.not_eq_true'] at h
    by_cases e : i = n
    · subst e; first | exact h.1 | exact h.2
    · exact noneBad_get (n := n) (by first | exact h.1 | exact h.2) (by omega)
theorem r223 : FnC Tryz.prog 223 [] [.agg emT.c] (.bool true) [] := run_eq E1 40 (by kernel_rfl)
theorem r173 : FnC Tryz.prog 173 [] [.int .i64 0] (.int .i64 0) [] := run_eq E1 40 (by kernel_rfl)
theorem r224 : FnC Tryz.prog 224 [] [.agg [.int .i64 0, .int .i64 0], .int .i64 10] (.tup [.agg [.int .i64 1, .int .i64 10], .int .i64 0]) [] := run_eq E1 40 (by kernel_rfl)
theorem r225 : FnC Tryz.prog 225 [] [.agg [.int .i64 0, .int .i64 0, .int .i64 0], .int .i64 0] (.tup [.str ⟨#[0, 0, 0, 0, 255, 255, 255, 255]⟩, .int .i64 0]) [] := run_eq E1 40 (by kernel_rfl)
theorem r230 : FnC Tryz.prog 230 [] [.agg emT.c, .int .i64 0] (.int .i64 0) [] := run_eq E1 40 (by kernel_rfl)
theorem r232 : FnC Tryz.prog 232 [] [.lst 5 false []] (.bool true) [] := run_eq E1 40 (by kernel_rfl)
theorem r231 : FnC Tryz.prog 231 [] [.agg l0.c] (.bool true) [] := ok231 l0 ⟨by decide, by decide, by decide⟩
set_option maxRecDepth 20000 in
theorem ok132 (c : Ca) (h1 : c.fl.length ≤ 100000) (h2 : c.gr.length ≤ 100000) (h3 : SmallZ c.zo) (h4 : ∀ z ∈ c.zo, 0 ≤ z.size ∧ z.size ≤ 100000) (e1 : locF (c.fl.map plc) = true) (e2 : grF c.gr = true) (e3 : checkZ c.zo = true) (e4 : szF c.zo = (c.fr.length : Int)) (e5 : c.ls.length = c.gr.length) (e6 : c.ck.length = c.gr.length) :
    FnC Tryz.prog 132 [] [.agg c.c] (.bool true) [] := by
  have hm : (c.fl.map plc).length ≤ 100000 := by rw [List.length_map]; exact h1
  obtain ⟨fl, fr, zo, gr, ls, ck, pt⟩ := c
  dsimp only at h1 h2 h3 h4 e1 e2 e3 e4 e5 e6 hm
  refine fn_okX (ob0 := []) [] Tryz.func132 rfl rfl rfl rfl ?_
  repeat ((conv => whnf); first | refine Cd.go ?_ | refine ⟨rfl, ?_⟩ | refine rq_dec ⟨.inl rfl, rfl⟩ ?_ | refine rq_dec rfl ?_ | refine ⟨Nat.le_of_ble_eq_true rfl, ?_⟩ | refine ⟨.inl rfl, ?_⟩ | refine ⟨fun _ => ⟨rfl, Nat.le_of_ble_eq_true rfl⟩, ?_⟩ | refine ⟨fun _ => Nat.le_of_ble_eq_true rfl, ?_⟩ | refine ⟨fun h => Bool.noConfusion h, ?_⟩ | refine .inl ⟨_, fun _ => ⟨purA rfl, (by first | exact ok222 fl false h1 | exact ok128 (fl.map plc) false hm | exact ok129 gr false h2 | exact ok211 zo false h3 | exact ok131 zo false h3.len h4)⟩, .inl rfl, ?_⟩)
  conv => whnf
  rw [e1, e2, e3, e4, rowsR_len, rowsL_len, rowsG_len, rowsI_len, e5, e6]
  repeat ((conv => whnf); first | refine Cd.go ?_ | refine ⟨rfl, ?_⟩ | refine rq_dec ⟨.inl rfl, rfl⟩ ?_ | refine rq_dec rfl ?_ | refine ⟨Nat.le_of_ble_eq_true rfl, ?_⟩ | refine ⟨.inl rfl, ?_⟩ | refine ⟨fun _ => ⟨rfl, Nat.le_of_ble_eq_true rfl⟩, ?_⟩ | refine ⟨fun _ => Nat.le_of_ble_eq_true rfl, ?_⟩ | refine ⟨fun h => Bool.noConfusion h, ?_⟩)
  conv => whnf
  refine ⟨[], trivial, rfl, trivial, rfl, ?_⟩
  try subst hk
  repeat' (first | exact trivial | rfl | exact .inl rfl | exact .inr rfl | exact id | exact (fun h => Bool.noConfusion h) | refine And.intro ?_ ?_)
  simp
  rfl
set_option maxRecDepth 20000 in
theorem ok133 (p : Int × Int) : FnC Tryz.prog 133 [] [.agg (mkF p).c] (.bool true) [] := by
  show FnC Tryz.prog 133 [] [.agg [.int .i64 p.1, .int .i64 p.2, .int .i64 0, .lst 3 false [], .int .i64 0, .int .i64 0, .int .i64 0, .int .i64 0, .int .i64 0, .int .i64 0, .int .i64 0, .int .i64 0, .int .i64 0, .int .i64 0, .int .i64 0]] (.bool true) []
  refine fn_okX (ob0 := []) [] Tryz.func133 rfl rfl rfl rfl ?_
  repeat ((conv => whnf); first | refine Cd.go ?_ | refine ⟨rfl, ?_⟩ | refine rq_dec ⟨.inl rfl, rfl⟩ ?_ | refine rq_dec rfl ?_ | refine ⟨Nat.le_of_ble_eq_true rfl, ?_⟩ | refine ⟨.inl rfl, ?_⟩ | refine ⟨fun _ => ⟨rfl, Nat.le_of_ble_eq_true rfl⟩, ?_⟩ | refine ⟨fun _ => Nat.le_of_ble_eq_true rfl, ?_⟩ | refine ⟨fun h => Bool.noConfusion h, ?_⟩ | refine .inl ⟨_, fun _ => ⟨purA rfl, (by first | exact r223 | exact r173 | exact r224 | exact r225)⟩, .inl rfl, ?_⟩)
  conv => whnf
  try first | refine rq_dec (by decide) ?_ | refine gq_dec (fun _ => by decide) ?_ | refine ⟨fun _ => by decide, ?_⟩
  repeat ((conv => whnf); first | refine Cd.go ?_ | refine ⟨rfl, ?_⟩ | refine rq_dec ⟨.inl rfl, rfl⟩ ?_ | refine rq_dec rfl ?_ | refine ⟨Nat.le_of_ble_eq_true rfl, ?_⟩ | refine ⟨.inl rfl, ?_⟩ | refine ⟨fun _ => ⟨rfl, Nat.le_of_ble_eq_true rfl⟩, ?_⟩ | refine ⟨fun _ => Nat.le_of_ble_eq_true rfl, ?_⟩ | refine ⟨fun h => Bool.noConfusion h, ?_⟩ | refine .inl ⟨_, fun _ => ⟨purA rfl, (by first | exact r223 | exact r173 | exact r224 | exact r225)⟩, .inl rfl, ?_⟩)
  conv => whnf
  refine ⟨[], trivial, rfl, trivial, rfl, ?_⟩
  try subst hk
  repeat' (first | exact trivial | rfl | exact .inl rfl | exact .inr rfl | exact id | exact (fun h => Bool.noConfusion h) | refine And.intro ?_ ?_)
theorem call227 : Callable Tryz.prog 227 := ⟨_, Tryz.func227, rfl, rfl⟩
def freeB (i : Nat) (z : Zn) : Bool := decide (((i + 1 : Nat) : Int) ∈ z.free)
theorem ok227 (z : Zn) (i : Nat) (hi : i ≤ 100000) (hz : z.free.length ≤ 100000) : FnC Tryz.prog 227 [] [.agg z.c, .rp 1 [.int .i64 (i : Int)] 0] (.bool (freeB i z)) [] := by
  refine fn_okX (ob0 := []) [] Tryz.func227 rfl rfl rfl rfl ?_
  repeat ((conv => whnf); first | refine Cd.go ?_ | refine ⟨rfl, ?_⟩ | refine rq_dec ⟨.inl rfl, rfl⟩ ?_ | refine rq_dec rfl ?_ | refine ⟨Nat.le_of_ble_eq_true rfl, ?_⟩ | refine ⟨.inl rfl, ?_⟩ | refine ⟨fun _ => ⟨rfl, Nat.le_of_ble_eq_true rfl⟩, ?_⟩ | refine ⟨fun _ => Nat.le_of_ble_eq_true rfl, ?_⟩ | refine ⟨fun h => Bool.noConfusion h, ?_⟩)
  conv => whnf
  rw [wrapS (by omega)]
  repeat ((conv => whnf); first | refine Cd.go ?_ | refine ⟨rfl, ?_⟩ | refine rq_dec ⟨.inl rfl, rfl⟩ ?_ | refine rq_dec rfl ?_ | refine ⟨Nat.le_of_ble_eq_true rfl, ?_⟩ | refine ⟨.inl rfl, ?_⟩ | refine ⟨fun _ => ⟨rfl, Nat.le_of_ble_eq_true rfl⟩, ?_⟩ | refine ⟨fun _ => Nat.le_of_ble_eq_true rfl, ?_⟩ | refine ⟨fun h => Bool.noConfusion h, ?_⟩ | refine .inl ⟨_, fun _ => ⟨purA rfl, (by first | exact ok228 z.free z.ex ((i + 1 : Nat) : Int) (by omega))⟩, .inl rfl, ?_⟩)
  conv => whnf
  refine ⟨[], trivial, rfl, trivial, rfl, ?_⟩
  try subst hk
  repeat' (first | exact trivial | rfl | exact .inl rfl | exact .inr rfl | exact id | exact (fun h => Bool.noConfusion h) | refine And.intro ?_ ?_)
def rc134 : RC :=
  (.seq
  (.reg [⟨(some 1), none, (.box (.t 0))⟩,
    ⟨(some 2), none, (.mv (.c (.bool false)))⟩] [])
  (.seq
  (.reg [⟨(some 3), none, (.mv (.c (.int .i64 0)))⟩] [])
  (.seq
  (.seq
  (.reg [⟨(some 10), none, (.faddr 1 (.t 1))⟩,
    ⟨(some 11), none, (.ld false 1 (.t 10))⟩,
    ⟨(some 12), none, (.len (.t 11))⟩,
    ⟨(some 13), none, (.mv (.c (.int .i64 0)))⟩] [10])
  (.block 0
   (.loop
    (.seq
    (.reg [⟨(some 14), none, (.bin .lss (.t 13) (.t 12))⟩] [])
    (.seq
    (.cond (.t 14)
     .skip
     (.exit 0))
    (.seq
    (.block 1
     (.seq
     (.reg [⟨(some 15), none, (.mv (.t 13))⟩,
       ⟨(some 16), none, (.iaddr 9 (.t 11) (.t 13))⟩,
       ⟨(some 17), none, (.ld true 9 (.t 16))⟩,
       ⟨(some 4), none, (.alloc [(.int .i64 0)])⟩,
       ⟨(some 5), none, (.alloc [(.int .i64 0), (.int .i64 0), (.str (ByteArray.mk (List.toArray []))), (.int .i64 0), (.int .i64 0), (.int .i64 0), (.int .i64 0), (.int .i64 0), (.int .i64 0)])⟩,
       ⟨none, none, (.st 1 (.t 4) (.t 15))⟩,
       ⟨none, none, (.st 9 (.t 5) (.t 17))⟩] [15, 16, 17])
     (.seq
     (.reg [⟨(some 18), none, (.faddr 2 (.t 1))⟩,
       ⟨(some 19), none, (.ld false 1 (.t 18))⟩,
       ⟨(some 20), none, (.mkfn 227 [(.t 4)])⟩,
       ⟨(some 21), none, (.call 226 [(.t 19), (.t 20)])⟩,
       ⟨(some 6), none, (.mv (.t 21))⟩] [18, 19, 20, 21])
     (.seq
     (.seq
     (.reg [⟨(some 22), none, (.mv (.t 6))⟩,
       ⟨(some 23), none, (.faddr 0 (.t 5))⟩,
       ⟨(some 24), none, (.ld false 1 (.t 23))⟩,
       ⟨(some 25), none, (.bin .eql (.t 24) (.c (.int .i64 (-1))))⟩,
       ⟨(some 26), none, (.eqb true (.t 22) (.t 25))⟩,
       ⟨(some 27), none, (.mv (.t 26))⟩,
       ⟨(some 28), (some (27, false)), (.mv (.t 6))⟩,
       ⟨(some 29), (some (27, false)), (.mv (.t 28))⟩,
       ⟨(some 30), (some (29, true)), (.ld true 9 (.t 5))⟩,
       ⟨(some 31), (some (29, true)), (.build [(.int .i64 0), (.int .i64 0), (.str (ByteArray.mk (List.toArray []))), (.int .i64 0), (.int .i64 0), (.int .i64 0), (.int .i64 0), (.int .i64 0), (.int .i64 0)] [(0, (1, (.c (.int .i64 (-1)))))])⟩,
       ⟨(some 32), (some (29, true)), (.eqs true [(0, .i), (1, .i), (2, .s), (3, .i), (4, .i), (5, .i), (6, .i), (7, .i), (8, .i)] (.t 30) (.t 31))⟩,
       ⟨(some 33), (some (27, false)), (.pick (.t 29) (.t 32) (.c (.bool false)))⟩,
       ⟨(some 34), none, (.pick (.t 27) (.c (.bool true)) (.t 33))⟩] [22, 23, 24, 25, 26, 27, 28, 29, 30, 31, 32, 33])
     (.cond (.t 34)
      (.seq
      (.reg [⟨(some 2), none, (.mv (.c (.bool false)))⟩] [])
      .ret)
      .skip))
     (.seq
     (.seq
     (.reg [⟨(some 35), none, (.mv (.t 6))⟩] [])
     (.cond (.t 35)
      (.exit 1)
      .skip))
     (.seq
     (.reg [⟨(some 36), none, (.mv (.t 3))⟩,
       ⟨(some 37), none, (.bin .add (.t 36) (.c (.int .i64 1)))⟩,
       ⟨(some 3), none, (.mv (.t 37))⟩] [36, 37])
     (.seq
     (.seq
     (.dreg 11264 11840 [⟨(some 38), none, (.faddr 0 (.t 5))⟩,
       ⟨(some 39), none, (.ld false 1 (.t 38))⟩,
       ⟨(some 40), none, (.bin .lss (.t 39) (.c (.int .i64 0)))⟩,
       ⟨(some 41), none, (.mv (.t 40))⟩,
       ⟨(some 42), (some (41, false)), (.faddr 0 (.t 5))⟩,
       ⟨(some 43), (some (41, false)), (.ld false 1 (.t 42))⟩,
       ⟨(some 44), (some (41, false)), (.faddr 0 (.t 1))⟩,
       ⟨(some 45), (some (41, false)), (.ld false 1 (.t 44))⟩,
       ⟨(some 46), (some (41, false)), (.len (.t 45))⟩,
       ⟨(some 47), (some (41, false)), (.bin .geq (.t 43) (.t 46))⟩,
       ⟨(some 48), none, (.pick (.t 41) (.c (.bool true)) (.t 47))⟩,
       ⟨(some 49), none, (.mv (.t 48))⟩,
       ⟨(some 50), (some (49, false)), (.faddr 1 (.t 5))⟩,
       ⟨(some 51), (some (49, false)), (.ld false 1 (.t 50))⟩,
       ⟨(some 52), (some (49, false)), (.bin .lss (.t 51) (.c (.int .i64 0)))⟩,
       ⟨(some 53), none, (.pick (.t 49) (.c (.bool true)) (.t 52))⟩,
       ⟨(some 54), none, (.mv (.t 53))⟩,
       ⟨(some 55), (some (54, false)), (.faddr 1 (.t 5))⟩,
       ⟨(some 56), (some (54, false)), (.ld false 1 (.t 55))⟩,
       ⟨(some 57), (some (54, false)), (.bin .geq (.t 56) (.c (.int .i64 8)))⟩,
       ⟨(some 58), none, (.pick (.t 54) (.c (.bool true)) (.t 57))⟩,
       ⟨(some 59), none, (.mv (.t 58))⟩,
       ⟨(some 60), (some (59, false)), (.faddr 0 (.t 1))⟩,
       ⟨(some 61), (some (59, false)), (.ld false 1 (.t 60))⟩,
       ⟨(some 62), (some (59, false)), (.faddr 0 (.t 5))⟩,
       ⟨(some 63), (some (59, false)), (.ld false 1 (.t 62))⟩,
       ⟨(some 64), (some (59, false)), (.iaddr 15 (.t 61) (.t 63))⟩,
       ⟨(some 65), (some (59, false)), (.faddr 2 (.t 64))⟩,
       ⟨(some 66), (some (59, false)), (.ld true 4 (.t 65))⟩,
       ⟨(some 67), (some (59, false)), (.faddr 1 (.t 5))⟩,
       ⟨(some 68), (some (59, false)), (.ld false 1 (.t 67))⟩,
       ⟨(some 69), (some (59, false)), (.call 143 [(.t 66), (.t 68)])⟩,
       ⟨(some 70), (some (59, false)), (.ld false 1 (.t 4))⟩,
       ⟨(some 71), (some (59, false)), (.bin .add (.t 70) (.c (.int .i64 1)))⟩,
       ⟨(some 72), (some (59, false)), (.bin .neq (.t 69) (.t 71))⟩,
       ⟨(some 73), none, (.pick (.t 59) (.c (.bool true)) (.t 72))⟩] [38, 39, 40, 41, 42, 43, 44, 45, 46, 47, 48, 49, 50, 51, 52, 53, 54, 55, 56, 57, 58, 59, 60, 61, 62, 63, 64, 65, 66, 67, 68, 69, 70, 71, 72] [[], [0], [1, 0], [2, 0, 1], [3, 1, 0, 2], [4, 3, 1, 0, 2], [3, 1, 0, 2], [6, 3, 1, 0, 2], [7, 6, 3, 1, 0, 2], [5, 4, 8, 6, 7, 3, 1, 0, 2], [9, 2, 0, 1, 3, 7, 6, 8, 4, 5], [10, 5, 4, 8, 6, 7, 9, 3, 1, 0, 2], [11, 2, 0, 1, 3, 9, 7, 6, 8, 4, 5, 10], [12, 11, 2, 0, 1, 3, 9, 7, 6, 8, 4, 5, 10], [13, 12, 11, 2, 0, 1, 3, 9, 7, 6, 8, 4, 5, 10], [14, 10, 5, 4, 8, 6, 7, 9, 3, 1, 0, 2, 11, 12, 13], [15, 13, 12, 14, 11, 2, 0, 1, 3, 9, 7, 6, 8, 4, 5, 10], [16, 10, 5, 4, 8, 6, 7, 9, 3, 1, 0, 2, 11, 14, 12, 13, 15], [17, 16, 10, 5, 4, 8, 6, 7, 9, 3, 1, 0, 2, 11, 14, 12, 13, 15], [18, 17, 16, 10, 5, 4, 8, 6, 7, 9, 3, 1, 0, 2, 11, 14, 12, 13, 15], [19, 15, 13, 12, 14, 11, 2, 0, 1, 3, 9, 7, 6, 8, 4, 5, 10, 16, 17, 18], [20, 18, 17, 19, 16, 10, 5, 4, 8, 6, 7, 9, 3, 1, 0, 2, 11, 14, 12, 13, 15], [21, 15, 13, 12, 14, 11, 2, 0, 1, 3, 9, 7, 6, 8, 4, 5, 10, 16, 19, 17, 18, 20], [22, 21, 15, 13, 12, 14, 11, 2, 0, 1, 3, 9, 7, 6, 8, 4, 5, 10, 16, 19, 17, 18, 20], [21, 15, 13, 12, 14, 11, 2, 0, 1, 3, 9, 7, 6, 8, 4, 5, 10, 16, 19, 17, 18, 20], [24, 21, 15, 13, 12, 14, 11, 2, 0, 1, 3, 9, 7, 6, 8, 4, 5, 10, 16, 19, 17, 18, 20], [23, 22, 25, 24, 21, 15, 13, 12, 14, 11, 2, 0, 1, 3, 9, 7, 6, 8, 4, 5, 10, 16, 19, 17, 18, 20], [26, 24, 25, 22, 23, 21, 15, 13, 12, 14, 11, 2, 0, 1, 3, 9, 7, 6, 8, 4, 5, 10, 16, 19, 17, 18, 20], [27, 23, 22, 25, 24, 26, 21, 15, 13, 12, 14, 11, 2, 0, 1, 3, 9, 7, 6, 8, 4, 5, 10, 16, 19, 17, 18, 20], [21, 15, 13, 12, 14, 11, 2, 0, 1, 3, 9, 7, 6, 8, 4, 5, 10, 16, 19, 17, 18, 20], [29, 21, 15, 13, 12, 14, 11, 2, 0, 1, 3, 9, 7, 6, 8, 4, 5, 10, 16, 19, 17, 18, 20], [28, 26, 24, 25, 22, 23, 27, 30, 29, 21, 15, 13, 12, 14, 11, 2, 0, 1, 3, 9, 7, 6, 8, 4, 5, 10, 16, 19, 17, 18, 20], [21, 15, 13, 12, 14, 11, 2, 0, 1, 3, 9, 7, 6, 8, 4, 5, 10, 16, 19, 17, 18, 20], [32, 21, 15, 13, 12, 14, 11, 2, 0, 1, 3, 9, 7, 6, 8, 4, 5, 10, 16, 19, 17, 18, 20], [31, 29, 30, 27, 23, 22, 25, 24, 26, 28, 33, 32, 21, 15, 13, 12, 14, 11, 2, 0, 1, 3, 9, 7, 6, 8, 4, 5, 10, 16, 19, 17, 18, 20], [34, 20, 18, 17, 19, 16, 10, 5, 4, 8, 6, 7, 9, 3, 1, 0, 2, 11, 14, 12, 13, 15, 21, 32, 33, 28, 26, 24, 25, 22, 23, 27, 30, 29, 31]] [11264, 11280, 11296, 11312, 11328, 11344, 11360, 11376, 11392, 11408, 11424, 11440, 11456, 11472, 11488, 11504, 11520, 11536, 11552, 11568, 11584, 11600, 11616, 11632, 11648, 11664, 11680, 11696, 11712, 11728, 11744, 11760, 11776, 11792, 11808, 11824])
     (.cond (.t 73)
      (.seq
      (.reg [⟨(some 2), none, (.mv (.c (.bool false)))⟩] [])
      .ret)
      .skip))
     (.seq
     (.reg [⟨(some 74), none, (.faddr 0 (.t 1))⟩,
       ⟨(some 75), none, (.ld false 1 (.t 74))⟩,
       ⟨(some 76), none, (.faddr 0 (.t 5))⟩,
       ⟨(some 77), none, (.ld false 1 (.t 76))⟩,
       ⟨(some 78), none, (.iaddr 15 (.t 75) (.t 77))⟩,
       ⟨(some 79), none, (.faddr 2 (.t 78))⟩,
       ⟨(some 80), none, (.ld true 4 (.t 79))⟩,
       ⟨(some 7), none, (.alloc [(.int .i64 0), (.lst 0 true []), (.int .i64 0), (.int .i64 0)])⟩,
       ⟨none, none, (.st 4 (.t 7) (.t 80))⟩] [74, 75, 76, 77, 78, 79, 80])
     (.seq
     (.dreg 14336 14640 [⟨(some 81), none, (.ld true 4 (.t 7))⟩,
       ⟨(some 82), none, (.faddr 1 (.t 5))⟩,
       ⟨(some 83), none, (.ld false 1 (.t 82))⟩,
       ⟨(some 84), none, (.call 229 [(.t 81), (.t 83), (.c (.int .i64 1))])⟩,
       ⟨(some 85), none, (.faddr 2 (.t 5))⟩,
       ⟨(some 86), none, (.faddr 2 (.t 85))⟩,
       ⟨(some 87), none, (.ld false 1 (.t 86))⟩,
       ⟨(some 88), none, (.bin .neq (.t 87) (.c (.int .i64 0)))⟩,
       ⟨(some 89), none, (.eqb true (.t 84) (.t 88))⟩,
       ⟨(some 90), none, (.mv (.t 89))⟩,
       ⟨(some 91), (some (90, false)), (.ld true 4 (.t 7))⟩,
       ⟨(some 92), (some (90, false)), (.faddr 1 (.t 5))⟩,
       ⟨(some 93), (some (90, false)), (.ld false 1 (.t 92))⟩,
       ⟨(some 94), (some (90, false)), (.call 229 [(.t 91), (.t 93), (.c (.int .i64 2))])⟩,
       ⟨(some 95), (some (90, false)), (.faddr 8 (.t 5))⟩,
       ⟨(some 96), (some (90, false)), (.ld false 1 (.t 95))⟩,
       ⟨(some 97), (some (90, false)), (.bin .neq (.t 96) (.c (.int .i64 0)))⟩,
       ⟨(some 98), (some (90, false)), (.eqb true (.t 94) (.t 97))⟩,
       ⟨(some 99), none, (.pick (.t 90) (.c (.bool true)) (.t 98))⟩] [81, 82, 83, 84, 85, 86, 87, 88, 89, 90, 91, 92, 93, 94, 95, 96, 97, 98] [[], [], [1], [0, 2, 1], [], [4], [5, 4], [6, 4, 5], [3, 1, 2, 0, 7, 5, 4, 6], [8, 6, 4, 5, 7, 3, 1, 2, 0], [9, 0, 2, 1, 3, 7, 5, 4, 6, 8], [9, 0, 2, 1, 3, 7, 5, 4, 6, 8], [11, 9, 0, 2, 1, 3, 7, 5, 4, 6, 8], [10, 12, 11, 9, 0, 2, 1, 3, 7, 5, 4, 6, 8], [9, 0, 2, 1, 3, 7, 5, 4, 6, 8], [14, 9, 0, 2, 1, 3, 7, 5, 4, 6, 8], [15, 14, 9, 0, 2, 1, 3, 7, 5, 4, 6, 8], [13, 11, 12, 10, 16, 14, 15, 9, 0, 2, 1, 3, 7, 5, 4, 6, 8], [17, 8, 6, 4, 5, 7, 3, 1, 2, 0, 9, 15, 14, 16, 10, 12, 11, 13]] [14336, 14352, 14368, 14384, 14400, 14416, 14432, 14448, 14464, 14480, 14496, 14512, 14528, 14544, 14560, 14576, 14592, 14608, 14624])
     (.cond (.t 99)
      (.seq
      (.reg [⟨(some 2), none, (.mv (.c (.bool false)))⟩] [])
      .ret)
      .skip))))))))))
    (.reg [⟨(some 100), none, (.bin .add (.t 13) (.c (.int .i64 1)))⟩,
      ⟨(some 13), none, (.mv (.t 100))⟩] [100])))))))
  (.seq
  (.seq
  (.reg [⟨(some 101), none, (.faddr 0 (.t 1))⟩,
    ⟨(some 102), none, (.ld false 1 (.t 101))⟩,
    ⟨(some 103), none, (.len (.t 102))⟩,
    ⟨(some 104), none, (.mv (.c (.int .i64 0)))⟩] [101])
  (.block 2
   (.loop
    (.seq
    (.reg [⟨(some 105), none, (.bin .lss (.t 104) (.t 103))⟩] [])
    (.seq
    (.cond (.t 105)
     .skip
     (.exit 2))
    (.seq
    (.block 3
     (.seq
     (.reg [⟨(some 106), none, (.iaddr 15 (.t 102) (.t 104))⟩,
       ⟨(some 107), none, (.ld true 15 (.t 106))⟩,
       ⟨(some 9), none, (.alloc [(.int .i64 0), (.int .i64 0), (.int .i64 0), (.lst 0 true []), (.int .i64 0), (.int .i64 0), (.int .i64 0), (.int .i64 0), (.int .i64 0), (.int .i64 0), (.int .i64 0), (.int .i64 0), (.int .i64 0), (.int .i64 0), (.int .i64 0)])⟩,
       ⟨none, none, (.st 15 (.t 9) (.t 107))⟩] [106, 107])
     (.reg [⟨(some 108), none, (.mv (.t 3))⟩,
       ⟨(some 109), none, (.faddr 2 (.t 9))⟩,
       ⟨(some 110), none, (.ld true 4 (.t 109))⟩,
       ⟨(some 111), none, (.call 230 [(.t 110), (.c (.int .i64 0))])⟩,
       ⟨(some 112), none, (.bin .sub (.t 108) (.t 111))⟩,
       ⟨(some 3), none, (.mv (.t 112))⟩] [108, 109, 110, 111, 112])))
    (.reg [⟨(some 113), none, (.bin .add (.t 104) (.c (.int .i64 1)))⟩,
      ⟨(some 104), none, (.mv (.t 113))⟩] [113])))))))
  (.seq
  (.reg [⟨(some 114), none, (.mv (.t 3))⟩,
    ⟨(some 115), none, (.bin .eql (.t 114) (.c (.int .i64 0)))⟩,
    ⟨(some 2), none, (.mv (.t 115))⟩] [114, 115])
  .ret)))))
theorem rcq134 : resC Go.Proofs.Tryz.prog Go.Proofs.Tryz.f134.ntmps ((Go.Proofs.Tryz.f134.body).getD .skip) = some (strip rc134) := by kernel_rfl
set_option maxRecDepth 20000 in
set_option maxHeartbeats 2000000 in
theorem ok134 (l : List (Int × Int)) (z : List Zn) (g : List Gr) (h : NewG l z g) : FnC Tryz.prog 134 [] [.agg (newC l z g).c] (.bool true) [] := by
  have l1 := locF_len h.loc
  obtain ⟨n1, n2⟩ := h.zon.num
  have hsm := check_small h.zon.chk
  have hzl := hsm.len
  have hcov := h.zon.cov
  rw [newC_c]
  generalize hc : newV l z g = C
  refine fn_okX [] Tryz.func134 rfl rfl (resX_of rcq134 rfl) rfl ?_
  subst hc
  repeat ((conv => whnf); first | refine Cd.go ?_ | refine ⟨rfl, ?_⟩ | refine rq_dec ⟨.inl rfl, rfl⟩ ?_ | refine rq_dec rfl ?_ | refine ⟨Nat.le_of_ble_eq_true rfl, ?_⟩ | refine ⟨.inl rfl, ?_⟩ | refine ⟨fun _ => ⟨rfl, Nat.le_of_ble_eq_true rfl⟩, ?_⟩ | refine ⟨fun _ => Nat.le_of_ble_eq_true rfl, ?_⟩ | refine ⟨fun h => Bool.noConfusion h, ?_⟩)
  conv => whnf
  rw [rowsR_len, rep_len]
  generalize hn : (szF z).toNat = n
  refine ⟨Nat, fun i => i ≤ n, fun i => ⟨[(1, ⟨[], true, .ptr 0 0 0⟩), (3, ⟨[], true, .int .i64 0⟩), (11, ⟨[], true, .lst 9 false (rowsR (List.replicate n fre))⟩), (12, ⟨[], true, .int .i64 (n : Int)⟩), (13, ⟨[], true, .int .i64 (i : Int)⟩)], [(0, .box (newV l z g))], 1⟩, fun i => n - i, ⟨0, Nat.zero_le _, ?_⟩, fun i hI => ?_⟩
  · refine viewI [some ?k93_0] rfl rfl ?h3_93 ?h4_93 ?h5_93 ?h6_93 ?h7_93
    case' h7_93 => repeat' (first | exact trivial | rfl | exact .inl rfl | exact .inr rfl | exact id | exact (fun h => Bool.noConfusion h) | refine And.intro ?_ ?_)
    case' h4_93 => rfl
    case' h6_93 => rfl
    case' h3_93 => repeat' (first | exact trivial | rfl | exact .inl rfl | exact .inr rfl | exact id | exact (fun h => Bool.noConfusion h) | refine And.intro ?_ ?_)
    case' h5_93 => repeat' (first | exact trivial | rfl | exact .inl rfl | exact .inr rfl | exact id | exact (fun h => Bool.noConfusion h) | refine And.intro ?_ ?_)
    rw [hn]
  dsimp only at hI ⊢
  repeat ((conv => whnf); first | refine Cd.go ?_ | refine ⟨rfl, ?_⟩ | refine rq_dec ⟨.inl rfl, rfl⟩ ?_ | refine rq_dec rfl ?_ | refine ⟨Nat.le_of_ble_eq_true rfl, ?_⟩ | refine ⟨.inl rfl, ?_⟩ | refine ⟨fun _ => ⟨rfl, Nat.le_of_ble_eq_true rfl⟩, ?_⟩ | refine ⟨fun _ => Nat.le_of_ble_eq_true rfl, ?_⟩ | refine ⟨fun h => Bool.noConfusion h, ?_⟩)
  conv => whnf
  refine cq_intro (fun b1 => ?_) (fun b1 => ?_) <;> try simp only [Bool.cond_true_left, Bool.cond_false_right, Bool.not_eq_true', Bool.not_eq_false', Bool.not_not] at b1
  · have b1 : i < n := by simp at b1; omega
    have hfree : decide (0 ≤ idxF (freeB i) z) = true := by
      rw [decide_eq_true_eq]
      refine Int.not_lt.1 fun hh => ?_
      obtain ⟨y, hy, hm⟩ := hcov ((i + 1 : Nat) : Int) (by omega) (by omega)
      have := (idxF_neg _ z).1 hh y hy
      simp only [freeB, decide_eq_false_iff_not] at this
      exact this hm
    repeat ((conv => whnf); first | refine Cd.go ?_ | refine ⟨rfl, ?_⟩ | refine rq_dec ⟨.inl rfl, rfl⟩ ?_ | refine rq_dec rfl ?_ | refine ⟨Nat.le_of_ble_eq_true rfl, ?_⟩ | refine ⟨.inl rfl, ?_⟩ | refine ⟨fun _ => ⟨rfl, Nat.le_of_ble_eq_true rfl⟩, ?_⟩ | refine ⟨fun _ => Nat.le_of_ble_eq_true rfl, ?_⟩ | refine ⟨fun h => Bool.noConfusion h, ?_⟩)
    conv => whnf
    first | refine rq_dec (⟨rfl, by omega, by rw [rowsR_len, rep_len]; omega⟩) ?_ | refine gq_dec (fun _ => ⟨rfl, by omega, by rw [rowsR_len, rep_len]; omega⟩) ?_ | refine ⟨fun _ => ⟨rfl, by omega, by rw [rowsR_len, rep_len]; omega⟩, ?_⟩
    rw [rowsR_getK _ i (by rw [rep_len]; omega), show (List.replicate n fre).getD i fre = fre by simp [List.getD_eq_getElem?_getD, b1]]
    repeat ((conv => whnf); first | refine Cd.go ?_ | refine ⟨rfl, ?_⟩ | refine rq_dec ⟨.inl rfl, rfl⟩ ?_ | refine rq_dec rfl ?_ | refine ⟨Nat.le_of_ble_eq_true rfl, ?_⟩ | refine ⟨.inl rfl, ?_⟩ | refine ⟨fun _ => ⟨rfl, Nat.le_of_ble_eq_true rfl⟩, ?_⟩ | refine ⟨fun _ => Nat.le_of_ble_eq_true rfl, ?_⟩ | refine ⟨fun h => Bool.noConfusion h, ?_⟩)
    conv => whnf
    refine .inl ⟨_, fun _ => ⟨?_, ok226 z false 227 (i : Int) (freeB i) call227 (fun x hx => ok227 x i (by omega) (hsm.free x hx)) (by omega)⟩, .inr rfl, ?_⟩
    · intro v hv
      rcases List.mem_cons.1 hv with rfl | hv
      · exact trivial
      · obtain rfl := List.mem_singleton.1 hv
        intro c hc
        obtain rfl := List.mem_singleton.1 hc
        exact ⟨rfl, rfl⟩
    rw [hfree]
    repeat ((conv => whnf); first | refine Cd.go ?_ | refine ⟨rfl, ?_⟩ | refine rq_dec ⟨.inl rfl, rfl⟩ ?_ | refine rq_dec rfl ?_ | refine ⟨Nat.le_of_ble_eq_true rfl, ?_⟩ | refine ⟨.inl rfl, ?_⟩ | refine ⟨fun _ => ⟨rfl, Nat.le_of_ble_eq_true rfl⟩, ?_⟩ | refine ⟨fun _ => Nat.le_of_ble_eq_true rfl, ?_⟩ | refine ⟨fun h => Bool.noConfusion h, ?_⟩)
    conv => whnf
    rw [wrapS (by omega)]
    refine ⟨i + 1, by show i + 1 ≤ _; omega, ?_, by show n - (i + 1) < n - i; omega⟩
    refine viewI [some 0] rfl rfl ?_ rfl ?_ rfl ?_
    repeat' (first | exact trivial | rfl | exact .inl rfl | exact .inr rfl | exact id | exact (fun h => Bool.noConfusion h) | refine And.intro ?_ ?_)
  have b1 : i = n := by simp at b1; omega
  subst b1
  repeat ((conv => whnf); first | refine Cd.go ?_ | refine ⟨rfl, ?_⟩ | refine rq_dec ⟨.inl rfl, rfl⟩ ?_ | refine rq_dec rfl ?_ | refine ⟨Nat.le_of_ble_eq_true rfl, ?_⟩ | refine ⟨.inl rfl, ?_⟩ | refine ⟨fun _ => ⟨rfl, Nat.le_of_ble_eq_true rfl⟩, ?_⟩ | refine ⟨fun _ => Nat.le_of_ble_eq_true rfl, ?_⟩ | refine ⟨fun h => Bool.noConfusion h, ?_⟩)
  conv => whnf
  rw [rowsF_len, List.length_map]
  refine ⟨Nat, fun i => i ≤ l.length, fun i => ⟨[(3, ⟨[], true, .int .i64 0⟩), (102, ⟨[], true, .lst 15 false (rowsF (l.map mkF))⟩), (103, ⟨[], true, .int .i64 (l.length : Int)⟩), (104, ⟨[], true, .int .i64 (i : Int)⟩)], [], 0⟩, fun i => l.length - i, ⟨0, Nat.zero_le _, ?_⟩, fun i hI => ?_⟩
  · refine viewI [] rfl rfl ?_ rfl ?_ rfl ?_
    repeat' (first | exact trivial | rfl | exact .inl rfl | exact .inr rfl | exact id | exact (fun h => Bool.noConfusion h) | refine And.intro ?_ ?_)
  dsimp only at hI ⊢
  repeat ((conv => whnf); first | refine Cd.go ?_ | refine ⟨rfl, ?_⟩ | refine rq_dec ⟨.inl rfl, rfl⟩ ?_ | refine rq_dec rfl ?_ | refine ⟨Nat.le_of_ble_eq_true rfl, ?_⟩ | refine ⟨.inl rfl, ?_⟩ | refine ⟨fun _ => ⟨rfl, Nat.le_of_ble_eq_true rfl⟩, ?_⟩ | refine ⟨fun _ => Nat.le_of_ble_eq_true rfl, ?_⟩ | refine ⟨fun h => Bool.noConfusion h, ?_⟩)
  conv => whnf
  refine cq_intro (fun b2 => ?_) (fun b2 => ?_) <;> try simp only [Bool.cond_true_left, Bool.cond_false_right, Bool.not_eq_true', Bool.not_eq_false', Bool.not_not] at b2
  · have b2 : i < l.length := by simp at b2; omega
    repeat ((conv => whnf); first | refine Cd.go ?_ | refine ⟨rfl, ?_⟩ | refine rq_dec ⟨.inl rfl, rfl⟩ ?_ | refine rq_dec rfl ?_ | refine ⟨Nat.le_of_ble_eq_true rfl, ?_⟩ | refine ⟨.inl rfl, ?_⟩ | refine ⟨fun _ => ⟨rfl, Nat.le_of_ble_eq_true rfl⟩, ?_⟩ | refine ⟨fun _ => Nat.le_of_ble_eq_true rfl, ?_⟩ | refine ⟨fun h => Bool.noConfusion h, ?_⟩)
    conv => whnf
    first | refine rq_dec (⟨rfl, by omega, by rw [rowsF_len, List.length_map]; omega⟩) ?_ | refine gq_dec (fun _ => ⟨rfl, by omega, by rw [rowsF_len, List.length_map]; omega⟩) ?_ | refine ⟨fun _ => ⟨rfl, by omega, by rw [rowsF_len, List.length_map]; omega⟩, ?_⟩
    rw [rowsF_getK _ i (by rw [List.length_map]; omega), show (l.map mkF).getD i f0 = mkF (l.getD i (0, 0)) by simp [List.getD_eq_getElem?_getD, b2]]
    generalize l.getD i (0, 0) = f
    repeat ((conv => whnf); first | refine Cd.go ?_ | refine ⟨rfl, ?_⟩ | refine rq_dec ⟨.inl rfl, rfl⟩ ?_ | refine rq_dec rfl ?_ | refine ⟨Nat.le_of_ble_eq_true rfl, ?_⟩ | refine ⟨.inl rfl, ?_⟩ | refine ⟨fun _ => ⟨rfl, Nat.le_of_ble_eq_true rfl⟩, ?_⟩ | refine ⟨fun _ => Nat.le_of_ble_eq_true rfl, ?_⟩ | refine ⟨fun h => Bool.noConfusion h, ?_⟩ | refine .inl ⟨_, fun _ => ⟨purA rfl, (by first | exact r230)⟩, .inl rfl, ?_⟩)
    conv => whnf
    rw [wrapS (by omega)]
    refine ⟨i + 1, by show i + 1 ≤ _; omega, ?_, by show l.length - (i + 1) < l.length - i; omega⟩
    refine viewI [] rfl rfl ?_ rfl ?_ rfl ?_
    repeat' (first | exact trivial | rfl | exact .inl rfl | exact .inr rfl | exact id | exact (fun h => Bool.noConfusion h) | refine And.intro ?_ ?_)
  have b2 : i = l.length := by simp at b2; omega
  repeat ((conv => whnf); first | refine Cd.go ?_ | refine ⟨rfl, ?_⟩ | refine rq_dec ⟨.inl rfl, rfl⟩ ?_ | refine rq_dec rfl ?_ | refine ⟨Nat.le_of_ble_eq_true rfl, ?_⟩ | refine ⟨.inl rfl, ?_⟩ | refine ⟨fun _ => ⟨rfl, Nat.le_of_ble_eq_true rfl⟩, ?_⟩ | refine ⟨fun _ => Nat.le_of_ble_eq_true rfl, ?_⟩ | refine ⟨fun h => Bool.noConfusion h, ?_⟩)
  conv => whnf
  refine ⟨[], trivial, rfl, trivial, rfl, ?_⟩
  try subst hk
  repeat' (first | exact trivial | rfl | exact .inl rfl | exact .inr rfl | exact id | exact (fun h => Bool.noConfusion h) | refine And.intro ?_ ?_)
set_option maxRecDepth 20000 in
theorem ok136 (l : List (Int × Int)) (z : List Zn) (g : List Gr) : FnC Tryz.prog 136 [] [.agg (newC l z g).c] (.bool true) [] := by
  rw [newC_c]
  generalize hc : newV l z g = C
  refine fn_okX (ob0 := []) [] Tryz.func136 rfl rfl rfl rfl ?_
  subst hc
  repeat ((conv => whnf); first | refine Cd.go ?_ | refine ⟨rfl, ?_⟩ | refine rq_dec ⟨.inl rfl, rfl⟩ ?_ | refine rq_dec rfl ?_ | refine ⟨Nat.le_of_ble_eq_true rfl, ?_⟩ | refine ⟨.inl rfl, ?_⟩ | refine ⟨fun _ => ⟨rfl, Nat.le_of_ble_eq_true rfl⟩, ?_⟩ | refine ⟨fun _ => Nat.le_of_ble_eq_true rfl, ?_⟩ | refine ⟨fun h => Bool.noConfusion h, ?_⟩)
  conv => whnf
  refine ⟨Unit, fun _ => True, fun _ => ⟨[(1, ⟨[], true, .ptr 0 0 0⟩), (7, ⟨[], true, .lst 5 false []⟩), (8, ⟨[], true, .int .i64 0⟩), (9, ⟨[], true, .int .i64 0⟩)], [(0, .box (newV l z g))], 1⟩, fun _ => 0, ⟨(), trivial, ?_⟩, fun _ _ => ?_⟩
  · refine viewI [some ?k172_0] rfl rfl ?h3_172 ?h4_172 ?h5_172 ?h6_172 ?h7_172
    case' h7_172 => repeat' (first | exact trivial | rfl | exact .inl rfl | exact .inr rfl | exact id | exact (fun h => Bool.noConfusion h) | refine And.intro ?_ ?_)
    case' h4_172 => rfl
    case' h6_172 => rfl
    case' h3_172 => repeat' (first | exact trivial | rfl | exact .inl rfl | exact .inr rfl | exact id | exact (fun h => Bool.noConfusion h) | refine And.intro ?_ ?_)
    case' h5_172 => repeat' (first | exact trivial | rfl | exact .inl rfl | exact .inr rfl | exact id | exact (fun h => Bool.noConfusion h) | refine And.intro ?_ ?_)
  repeat ((conv => whnf); first | refine Cd.go ?_ | refine ⟨rfl, ?_⟩ | refine rq_dec ⟨.inl rfl, rfl⟩ ?_ | refine rq_dec rfl ?_ | refine ⟨Nat.le_of_ble_eq_true rfl, ?_⟩ | refine ⟨.inl rfl, ?_⟩ | refine ⟨fun _ => ⟨rfl, Nat.le_of_ble_eq_true rfl⟩, ?_⟩ | refine ⟨fun _ => Nat.le_of_ble_eq_true rfl, ?_⟩ | refine ⟨fun h => Bool.noConfusion h, ?_⟩ | refine .inl ⟨_, fun _ => ⟨purA rfl, (by first | exact r232)⟩, .inl rfl, ?_⟩)
  conv => whnf
  refine ⟨[], trivial, rfl, trivial, rfl, ?_⟩
  try subst hk
  repeat' (first | exact trivial | rfl | exact .inl rfl | exact .inr rfl | exact id | exact (fun h => Bool.noConfusion h) | refine And.intro ?_ ?_)
end Go.Proofs.YtmhapcbjjpadnaaGreat

set_option maxRecDepth 40000
namespace Go.Proofs.YtmhapcbjjpadnaaGreat
open Go Go.Sk Go.RowKit

set_option maxRecDepth 20000 in
set_option maxHeartbeats 2000000 in
theorem ok135 (l : List (Int × Int)) (z : List Zn) (g : List Gr) (h : NewG l z g) : FnC Tryz.prog 135 [] [.agg (newC l z g).c] (.bool true) [] := by
  have g1 := grF_len h.grp
  have hch := h.chg
  obtain ⟨n1, n2⟩ := h.zon.num
  rw [newC_c]
  generalize hc : newV l z g = C
  refine fn_okX (ob0 := []) [] Tryz.func135 rfl rfl rfl rfl ?_
  subst hc
  repeat ((conv => whnf); first | refine Cd.go ?_ | refine ⟨rfl, ?_⟩ | refine rq_dec ⟨.inl rfl, rfl⟩ ?_ | refine rq_dec rfl ?_ | refine ⟨Nat.le_of_ble_eq_true rfl, ?_⟩ | refine ⟨.inl rfl, ?_⟩ | refine ⟨fun _ => ⟨rfl, Nat.le_of_ble_eq_true rfl⟩, ?_⟩ | refine ⟨fun _ => Nat.le_of_ble_eq_true rfl, ?_⟩ | refine ⟨fun h => Bool.noConfusion h, ?_⟩)
  conv => whnf
  rw [rowsG_len]
  repeat ((conv => whnf); first | refine Cd.go ?_ | refine ⟨rfl, ?_⟩ | refine rq_dec ⟨.inl rfl, rfl⟩ ?_ | refine rq_dec rfl ?_ | refine ⟨Nat.le_of_ble_eq_true rfl, ?_⟩ | refine ⟨.inl rfl, ?_⟩ | refine ⟨fun _ => ⟨rfl, Nat.le_of_ble_eq_true rfl⟩, ?_⟩ | refine ⟨fun _ => Nat.le_of_ble_eq_true rfl, ?_⟩ | refine ⟨fun h => Bool.noConfusion h, ?_⟩)
  conv => whnf
  refine rq_mk (by omega) (by omega) (by omega) (by omega) ?_
  repeat ((conv => whnf); first | refine Cd.go ?_ | refine ⟨rfl, ?_⟩ | refine rq_dec ⟨.inl rfl, rfl⟩ ?_ | refine rq_dec rfl ?_ | refine ⟨Nat.le_of_ble_eq_true rfl, ?_⟩ | refine ⟨.inl rfl, ?_⟩ | refine ⟨fun _ => ⟨rfl, Nat.le_of_ble_eq_true rfl⟩, ?_⟩ | refine ⟨fun _ => Nat.le_of_ble_eq_true rfl, ?_⟩ | refine ⟨fun h => Bool.noConfusion h, ?_⟩)
  conv => whnf
  rw [rowsR_len, rep_len]
  generalize hn : (szF z).toNat = n
  refine ⟨Nat, fun i => i ≤ n, fun i => ⟨[(1, ⟨[], true, .ptr 0 0 0⟩), (3, ⟨[], true, .sl 1 0 g.length⟩), (14, ⟨[], true, .lst 9 false (rowsR (List.replicate n fre))⟩), (15, ⟨[], true, .int .i64 (n : Int)⟩), (16, ⟨[], true, .int .i64 (i : Int)⟩)], [(0, .box (newV l z g)), (1, .row 1 (List.replicate g.length [.int .i64 0]))], 2⟩, fun i => n - i, ⟨0, Nat.zero_le _, ?_⟩, fun i hI => ?_⟩
  · refine viewI [some ?k26_0, some ?k26_1] rfl rfl ?h3_26 ?h4_26 ?h5_26 ?h6_26 ?h7_26
    case' h7_26 => repeat' (first | exact trivial | rfl | exact .inl rfl | exact .inr rfl | exact id | exact (fun h => Bool.noConfusion h) | refine And.intro ?_ ?_)
    case' h4_26 => rfl
    case' h6_26 => rfl
    case' h3_26 => repeat' (first | exact trivial | rfl | exact .inl rfl | exact .inr rfl | exact id | exact (fun h => Bool.noConfusion h) | refine And.intro ?_ ?_)
    case' h5_26 => repeat' (first | exact trivial | rfl | exact .inl rfl | exact .inr rfl | exact id | exact (fun h => Bool.noConfusion h) | refine And.intro ?_ ?_)
    rw [hn]
  dsimp only at hI ⊢
  repeat ((conv => whnf); first | refine Cd.go ?_ | refine ⟨rfl, ?_⟩ | refine rq_dec ⟨.inl rfl, rfl⟩ ?_ | refine rq_dec rfl ?_ | refine ⟨Nat.le_of_ble_eq_true rfl, ?_⟩ | refine ⟨.inl rfl, ?_⟩ | refine ⟨fun _ => ⟨rfl, Nat.le_of_ble_eq_true rfl⟩, ?_⟩ | refine ⟨fun _ => Nat.le_of_ble_eq_true rfl, ?_⟩ | refine ⟨fun h => Bool.noConfusion h, ?_⟩)
  conv => whnf
  refine cq_intro (fun b1 => ?_) (fun b1 => ?_) <;> try simp only [Bool.cond_true_left, Bool.cond_false_right, Bool.not_eq_true', Bool.not_eq_false', Bool.not_not] at b1
  · have b1 : i < n := by simp at b1; omega
    repeat ((conv => whnf); first | refine Cd.go ?_ | refine ⟨rfl, ?_⟩ | refine rq_dec ⟨.inl rfl, rfl⟩ ?_ | refine rq_dec rfl ?_ | refine ⟨Nat.le_of_ble_eq_true rfl, ?_⟩ | refine ⟨.inl rfl, ?_⟩ | refine ⟨fun _ => ⟨rfl, Nat.le_of_ble_eq_true rfl⟩, ?_⟩ | refine ⟨fun _ => Nat.le_of_ble_eq_true rfl, ?_⟩ | refine ⟨fun h => Bool.noConfusion h, ?_⟩)
    conv => whnf
    first | refine rq_dec (⟨rfl, by omega, by rw [rowsR_len, rep_len]; omega⟩) ?_ | refine gq_dec (fun _ => ⟨rfl, by omega, by rw [rowsR_len, rep_len]; omega⟩) ?_ | refine ⟨fun _ => ⟨rfl, by omega, by rw [rowsR_len, rep_len]; omega⟩, ?_⟩
    rw [rowsR_getK _ i (by rw [rep_len]; omega), show (List.replicate n fre).getD i fre = fre by simp [List.getD_eq_getElem?_getD, b1]]
    repeat ((conv => whnf); first | refine Cd.go ?_ | refine ⟨rfl, ?_⟩ | refine rq_dec ⟨.inl rfl, rfl⟩ ?_ | refine rq_dec rfl ?_ | refine ⟨Nat.le_of_ble_eq_true rfl, ?_⟩ | refine ⟨.inl rfl, ?_⟩ | refine ⟨fun _ => ⟨rfl, Nat.le_of_ble_eq_true rfl⟩, ?_⟩ | refine ⟨fun _ => Nat.le_of_ble_eq_true rfl, ?_⟩ | refine ⟨fun h => Bool.noConfusion h, ?_⟩)
    conv => whnf
    rw [wrapS (by omega)]
    refine ⟨i + 1, by show i + 1 ≤ _; omega, ?_, by show n - (i + 1) < n - i; omega⟩
    refine viewI [some 0, some 1] rfl rfl ?_ rfl ?_ rfl ?_
    repeat' (first | exact trivial | rfl | exact .inl rfl | exact .inr rfl | exact id | exact (fun h => Bool.noConfusion h) | refine And.intro ?_ ?_)
  repeat ((conv => whnf); first | refine Cd.go ?_ | refine ⟨rfl, ?_⟩ | refine rq_dec ⟨.inl rfl, rfl⟩ ?_ | refine rq_dec rfl ?_ | refine ⟨Nat.le_of_ble_eq_true rfl, ?_⟩ | refine ⟨.inl rfl, ?_⟩ | refine ⟨fun _ => ⟨rfl, Nat.le_of_ble_eq_true rfl⟩, ?_⟩ | refine ⟨fun _ => Nat.le_of_ble_eq_true rfl, ?_⟩ | refine ⟨fun h => Bool.noConfusion h, ?_⟩)
  conv => whnf
  rw [rowsL_len, rep_len]
  refine ⟨Nat, fun i => i ≤ g.length, fun i => ⟨[(1, ⟨[], true, .ptr 0 0 0⟩), (3, ⟨[], true, .sl 1 0 g.length⟩), (64, ⟨[], true, .lst 3 false (rowsL (List.replicate g.length l0))⟩), (65, ⟨[], true, .int .i64 (g.length : Int)⟩), (66, ⟨[], true, .int .i64 (i : Int)⟩)], [(0, .box (newV l z g)), (1, .row 1 (List.replicate g.length [.int .i64 0]))], 2⟩, fun i => g.length - i, ⟨0, Nat.zero_le _, ?_⟩, fun i hI => ?_⟩
  · refine viewI [some 0, some 1] rfl rfl ?_ rfl ?_ rfl ?_
    repeat' (first | exact trivial | rfl | exact .inl rfl | exact .inr rfl | exact id | exact (fun h => Bool.noConfusion h) | refine And.intro ?_ ?_)
  dsimp only at hI ⊢
  repeat ((conv => whnf); first | refine Cd.go ?_ | refine ⟨rfl, ?_⟩ | refine rq_dec ⟨.inl rfl, rfl⟩ ?_ | refine rq_dec rfl ?_ | refine ⟨Nat.le_of_ble_eq_true rfl, ?_⟩ | refine ⟨.inl rfl, ?_⟩ | refine ⟨fun _ => ⟨rfl, Nat.le_of_ble_eq_true rfl⟩, ?_⟩ | refine ⟨fun _ => Nat.le_of_ble_eq_true rfl, ?_⟩ | refine ⟨fun h => Bool.noConfusion h, ?_⟩)
  conv => whnf
  refine cq_intro (fun b2 => ?_) (fun b2 => ?_) <;> try simp only [Bool.cond_true_left, Bool.cond_false_right, Bool.not_eq_true', Bool.not_eq_false', Bool.not_not] at b2
  · have b2 : i < g.length := by simp at b2; omega
    have b3 : (g.getD i g0).chg = 0 := by
      have := noneBad_get hch b2
      simpa [chgB] using this
    have e0 : (List.replicate g.length [V.int .i64 0]).getD i [] = [V.int .i64 0] := by simp [List.getD_eq_getElem?_getD, b2]
    repeat ((conv => whnf); first | refine Cd.go ?_ | refine ⟨rfl, ?_⟩ | refine rq_dec ⟨.inl rfl, rfl⟩ ?_ | refine rq_dec rfl ?_ | refine ⟨Nat.le_of_ble_eq_true rfl, ?_⟩ | refine ⟨.inl rfl, ?_⟩ | refine ⟨fun _ => ⟨rfl, Nat.le_of_ble_eq_true rfl⟩, ?_⟩ | refine ⟨fun _ => Nat.le_of_ble_eq_true rfl, ?_⟩ | refine ⟨fun h => Bool.noConfusion h, ?_⟩)
    conv => whnf
    first | refine rq_dec (⟨rfl, by omega, by rw [rowsL_len, rep_len]; omega⟩) ?_ | refine gq_dec (fun _ => ⟨rfl, by omega, by rw [rowsL_len, rep_len]; omega⟩) ?_ | refine ⟨fun _ => ⟨rfl, by omega, by rw [rowsL_len, rep_len]; omega⟩, ?_⟩
    rw [rowsL_getK _ i (by rw [rep_len]; omega), show (List.replicate g.length l0).getD i l0 = l0 by simp [List.getD_eq_getElem?_getD, b2]]
    repeat ((conv => whnf); first | refine Cd.go ?_ | refine ⟨rfl, ?_⟩ | refine rq_dec ⟨.inl rfl, rfl⟩ ?_ | refine rq_dec rfl ?_ | refine ⟨Nat.le_of_ble_eq_true rfl, ?_⟩ | refine ⟨.inl rfl, ?_⟩ | refine ⟨fun _ => ⟨rfl, Nat.le_of_ble_eq_true rfl⟩, ?_⟩ | refine ⟨fun _ => Nat.le_of_ble_eq_true rfl, ?_⟩ | refine ⟨fun h => Bool.noConfusion h, ?_⟩ | refine .inl ⟨_, fun _ => ⟨purA rfl, (by first | exact r231)⟩, .inl rfl, ?_⟩)
    conv => whnf
    first | refine rq_dec (⟨by omega, by omega⟩) ?_ | refine gq_dec (fun _ => ⟨by omega, by omega⟩) ?_ | refine ⟨fun _ => ⟨by omega, by omega⟩, ?_⟩
    repeat ((conv => whnf); first | refine Cd.go ?_ | refine ⟨rfl, ?_⟩ | refine rq_dec ⟨.inl rfl, rfl⟩ ?_ | refine rq_dec rfl ?_ | refine ⟨Nat.le_of_ble_eq_true rfl, ?_⟩ | refine ⟨.inl rfl, ?_⟩ | refine ⟨fun _ => ⟨rfl, Nat.le_of_ble_eq_true rfl⟩, ?_⟩ | refine ⟨fun _ => Nat.le_of_ble_eq_true rfl, ?_⟩ | refine ⟨fun h => Bool.noConfusion h, ?_⟩)
    conv => whnf
    first | refine rq_dec (by rw [rep_len]; omega, by omega) ?_ | refine gq_dec (fun _ => by rw [rep_len]; omega, by omega) ?_ | refine ⟨fun _ => by rw [rep_len]; omega, by omega, ?_⟩
    rw [show 0 + ((i : Int)).toNat = i by omega, e0]
    repeat ((conv => whnf); first | refine Cd.go ?_ | refine ⟨rfl, ?_⟩ | refine rq_dec ⟨.inl rfl, rfl⟩ ?_ | refine rq_dec rfl ?_ | refine ⟨Nat.le_of_ble_eq_true rfl, ?_⟩ | refine ⟨.inl rfl, ?_⟩ | refine ⟨fun _ => ⟨rfl, Nat.le_of_ble_eq_true rfl⟩, ?_⟩ | refine ⟨fun _ => Nat.le_of_ble_eq_true rfl, ?_⟩ | refine ⟨fun h => Bool.noConfusion h, ?_⟩)
    conv => whnf
    first | refine rq_dec (⟨rfl, by omega, by rw [rowsG_len]; omega⟩) ?_ | refine gq_dec (fun _ => ⟨rfl, by omega, by rw [rowsG_len]; omega⟩) ?_ | refine ⟨fun _ => ⟨rfl, by omega, by rw [rowsG_len]; omega⟩, ?_⟩
    rw [rowsG_getK g i b2]
    generalize g.getD i g0 = gg at b3
    repeat ((conv => whnf); first | refine Cd.go ?_ | refine ⟨rfl, ?_⟩ | refine rq_dec ⟨.inl rfl, rfl⟩ ?_ | refine rq_dec rfl ?_ | refine ⟨Nat.le_of_ble_eq_true rfl, ?_⟩ | refine ⟨.inl rfl, ?_⟩ | refine ⟨fun _ => ⟨rfl, Nat.le_of_ble_eq_true rfl⟩, ?_⟩ | refine ⟨fun _ => Nat.le_of_ble_eq_true rfl, ?_⟩ | refine ⟨fun h => Bool.noConfusion h, ?_⟩)
    conv => whnf
    first | refine rq_dec (⟨by omega, by omega⟩) ?_ | refine gq_dec (fun _ => ⟨by omega, by omega⟩) ?_ | refine ⟨fun _ => ⟨by omega, by omega⟩, ?_⟩
    repeat ((conv => whnf); first | refine Cd.go ?_ | refine ⟨rfl, ?_⟩ | refine rq_dec ⟨.inl rfl, rfl⟩ ?_ | refine rq_dec rfl ?_ | refine ⟨Nat.le_of_ble_eq_true rfl, ?_⟩ | refine ⟨.inl rfl, ?_⟩ | refine ⟨fun _ => ⟨rfl, Nat.le_of_ble_eq_true rfl⟩, ?_⟩ | refine ⟨fun _ => Nat.le_of_ble_eq_true rfl, ?_⟩ | refine ⟨fun h => Bool.noConfusion h, ?_⟩)
    conv => whnf
    first | refine rq_dec (by rw [rep_len]; omega, by omega) ?_ | refine gq_dec (fun _ => by rw [rep_len]; omega, by omega) ?_ | refine ⟨fun _ => by rw [rep_len]; omega, by omega, ?_⟩
    rw [show 0 + ((i : Int)).toNat = i by omega, e0]
    repeat ((conv => whnf); first | refine Cd.go ?_ | refine ⟨rfl, ?_⟩ | refine rq_dec ⟨.inl rfl, rfl⟩ ?_ | refine rq_dec rfl ?_ | refine ⟨Nat.le_of_ble_eq_true rfl, ?_⟩ | refine ⟨.inl rfl, ?_⟩ | refine ⟨fun _ => ⟨rfl, Nat.le_of_ble_eq_true rfl⟩, ?_⟩ | refine ⟨fun _ => Nat.le_of_ble_eq_true rfl, ?_⟩ | refine ⟨fun h => Bool.noConfusion h, ?_⟩)
    conv => whnf
    first | refine rq_dec (⟨rfl, by omega, by rw [rowsI_len, rep_len]; omega⟩) ?_ | refine gq_dec (fun _ => ⟨rfl, by omega, by rw [rowsI_len, rep_len]; omega⟩) ?_ | refine ⟨fun _ => ⟨rfl, by omega, by rw [rowsI_len, rep_len]; omega⟩, ?_⟩
    rw [show (rowsI (List.replicate g.length 0)).getD (i : Int).toNat [] = [.int .i64 0] by rw [rowsI, List.map_replicate, Int.toNat_natCast]; exact e0]
    repeat ((conv => whnf); first | refine Cd.go ?_ | refine ⟨rfl, ?_⟩ | refine rq_dec ⟨.inl rfl, rfl⟩ ?_ | refine rq_dec rfl ?_ | refine ⟨Nat.le_of_ble_eq_true rfl, ?_⟩ | refine ⟨.inl rfl, ?_⟩ | refine ⟨fun _ => ⟨rfl, Nat.le_of_ble_eq_true rfl⟩, ?_⟩ | refine ⟨fun _ => Nat.le_of_ble_eq_true rfl, ?_⟩ | refine ⟨fun h => Bool.noConfusion h, ?_⟩)
    conv => whnf
    first | refine rq_dec (⟨rfl, by omega, by rw [rowsI_len, rep_len]; omega⟩) ?_ | refine gq_dec (fun _ => ⟨rfl, by omega, by rw [rowsI_len, rep_len]; omega⟩) ?_ | refine ⟨fun _ => ⟨rfl, by omega, by rw [rowsI_len, rep_len]; omega⟩, ?_⟩
    rw [show (rowsI (List.replicate g.length 0)).getD (i : Int).toNat [] = [.int .i64 0] by rw [rowsI, List.map_replicate, Int.toNat_natCast]; exact e0]
    rw [b3]
    repeat ((conv => whnf); first | refine Cd.go ?_ | refine ⟨rfl, ?_⟩ | refine rq_dec ⟨.inl rfl, rfl⟩ ?_ | refine rq_dec rfl ?_ | refine ⟨Nat.le_of_ble_eq_true rfl, ?_⟩ | refine ⟨.inl rfl, ?_⟩ | refine ⟨fun _ => ⟨rfl, Nat.le_of_ble_eq_true rfl⟩, ?_⟩ | refine ⟨fun _ => Nat.le_of_ble_eq_true rfl, ?_⟩ | refine ⟨fun h => Bool.noConfusion h, ?_⟩)
    conv => whnf
    rw [wrapS (by omega)]
    refine ⟨i + 1, by show i + 1 ≤ _; omega, ?_, by show g.length - (i + 1) < g.length - i; omega⟩
    refine viewI [some 0, some 1] rfl rfl ?_ rfl ?_ rfl ?_
    repeat' (first | exact trivial | rfl | exact .inl rfl | exact .inr rfl | exact id | exact (fun h => Bool.noConfusion h) | refine And.intro ?_ ?_)
  repeat ((conv => whnf); first | refine Cd.go ?_ | refine ⟨rfl, ?_⟩ | refine rq_dec ⟨.inl rfl, rfl⟩ ?_ | refine rq_dec rfl ?_ | refine ⟨Nat.le_of_ble_eq_true rfl, ?_⟩ | refine ⟨.inl rfl, ?_⟩ | refine ⟨fun _ => ⟨rfl, Nat.le_of_ble_eq_true rfl⟩, ?_⟩ | refine ⟨fun _ => Nat.le_of_ble_eq_true rfl, ?_⟩ | refine ⟨fun h => Bool.noConfusion h, ?_⟩)
  conv => whnf
  refine ⟨[], trivial, rfl, trivial, rfl, ?_⟩
  try subst hk
  repeat' (first | exact trivial | rfl | exact .inl rfl | exact .inr rfl | exact id | exact (fun h => Bool.noConfusion h) | refine And.intro ?_ ?_)
end Go.Proofs.YtmhapcbjjpadnaaGreat

