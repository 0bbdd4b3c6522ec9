/- Caches. -/
import Derived.Test.YtmhapcbjjpadnaaGreatGA
import Derived.Test.YtmhapcbjjpadnaaGreatG7
import Derived.Test.YtmhapcbjjpadnaaGreatG4
import Derived.Test.YtmhapcbjjpadnaaGreatSkLe
set_option linter.unusedSimpArgs false
set_option linter.unusedVariables false
set_option maxRecDepth 40000
namespace Go.Proofs.YtmhapcbjjpadnaaGreat
open Go Go.Sk Go.RowKit

/-- A tree: its height, and the cells of its root. -/
structure Tr where
  h : Int
  ks : List (List V)
  v : Int
  m : Int
def Tr.c (t : Tr) : List V := [.int .i64 t.h, .lst 3 false t.ks, .int .i64 t.v, .int .i64 t.m]
structure Fl where
  dev : Int
  slot : Int
  tr : Tr
  size : Int
  blocks : Int
  ec : Int
  ee : Int
  sq : Int
  ss : Int
  sb : Int
  wh : Int
  seq : Int
def Fl.c (f : Fl) : List V := [.int .i64 f.dev, .int .i64 f.slot, .int .i64 f.tr.h, .lst 3 false f.tr.ks, .int .i64 f.tr.v, .int .i64 f.tr.m, .int .i64 f.size, .int .i64 f.blocks, .int .i64 f.ec, .int .i64 f.ee, .int .i64 f.sq, .int .i64 f.ss, .int .i64 f.sb, .int .i64 f.wh, .int .i64 f.seq]
structure Fr where
  file : Int
  page : Int
  data : ByteArray
  valid : Int
  dirty : Int
  ten : Int
  holds : Int
  rd : Int
  wr : Int
def Fr.c (f : Fr) : List V := [.int .i64 f.file, .int .i64 f.page, .str f.data, .int .i64 f.valid, .int .i64 f.dirty, .int .i64 f.ten, .int .i64 f.holds, .int .i64 f.rd, .int .i64 f.wr]
structure Pt where
  proc : Int
  page : Int
  frame : Int
  wr : Bool
  acc : Bool
def Pt.c (p : Pt) : List V := [.int .i64 p.proc, .int .i64 p.page, .int .i64 p.frame, .bool p.wr, .bool p.acc]
def rowsF (L : List Fl) : List (List V) := L.map Fl.c
def rowsR (L : List Fr) : List (List V) := L.map Fr.c
def rowsT (L : List Pt) : List (List V) := L.map Pt.c
def rowsL (L : List Ls) : List (List V) := L.map Ls.c
structure Ca where
  fl : List Fl
  fr : List Fr
  zo : List Zn
  gr : List Gr
  ls : List Ls
  ck : List Int
  pt : List Pt
def Ca.c (c : Ca) : List V := [.lst 15 false (rowsF c.fl), .lst 9 false (rowsR c.fr), .lst 6 false (rowsZ c.zo), .lst 3 false (rowsG c.gr), .lst 3 false (rowsL c.ls), .lst 1 false (rowsI c.ck), .lst 5 false (rowsT c.pt)]

theorem mapK {α : Type} (f : α → List V) (L : List α) (k : Nat) (d : α) (h : k < L.length) : (L.map f).getD ((k : Int)).toNat [] = f (L.getD k d) := by
  rw [Int.toNat_natCast]
  simp [List.getD_eq_getElem?_getD, h]
theorem mapS {α : Type} (f : α → List V) (L : List α) (k : Nat) (x : α) : (L.map f).set k (f x) = (L.set k x).map f := by rw [List.map_set]
def emT : Tr := ⟨0, [], 0, 0⟩
def f0 : Fl := ⟨0, 0, emT, 0, 0, 0, 0, 0, 0, 0, 0, 0⟩
def noD : ByteArray := ⟨#[]⟩
/-- A free frame. -/
def fre : Fr := ⟨-1, 0, noD, 0, 0, 0, 0, 0, 0⟩
def l0 : Ls := ⟨[], [], []⟩
def p0 : Pt := ⟨0, 0, 0, false, false⟩
theorem rowsF_len (L : List Fl) : (rowsF L).length = L.length := List.length_map _
theorem rowsR_len (L : List Fr) : (rowsR L).length = L.length := List.length_map _
theorem rowsT_len (L : List Pt) : (rowsT L).length = L.length := List.length_map _
theorem rowsL_len (L : List Ls) : (rowsL L).length = L.length := List.length_map _
theorem rowsF_getK (L : List Fl) (k : Nat) (h : k < L.length) : (rowsF L).getD ((k : Int)).toNat [] = (L.getD k f0).c := mapK _ L k _ h
theorem rowsR_getK (L : List Fr) (k : Nat) (h : k < L.length) : (rowsR L).getD ((k : Int)).toNat [] = (L.getD k fre).c := mapK _ L k _ h
theorem rowsT_getK (L : List Pt) (k : Nat) (h : k < L.length) : (rowsT L).getD ((k : Int)).toNat [] = (L.getD k p0).c := mapK _ L k _ h
theorem rowsL_getK (L : List Ls) (k : Nat) (h : k < L.length) : (rowsL L).getD ((k : Int)).toNat [] = (L.getD k l0).c := mapK _ L k _ h
theorem rowsG_set (L : List Gr) (k : Nat) (x : Gr) : (rowsG L).set k x.c = rowsG (L.set k x) := mapS Gr.c L k x
theorem wrapS {i : Nat} (h : i ≤ 1000000000) : IntKind.i64.wrap ((i : Int) + 1) = ((i + 1 : Nat) : Int) := by rw [wrapI (by omega) (by omega)]; omega
theorem takeS {α : Type} {l : List α} {i : Nat} (d : α) (h : i < l.length) : l.take (i + 1) = l.take i ++ [l.getD i d] := by
  rw [List.take_succ_eq_append_getElem h]; simp [List.getD_eq_getElem?_getD, h]
end Go.Proofs.YtmhapcbjjpadnaaGreat

set_option maxRecDepth 40000
namespace Go.Proofs.YtmhapcbjjpadnaaGreat
open Go Go.Sk Go.RowKit

def sizeG (z : Zn) : Int := z.size
def szF (l : List Zn) : Int := sumZ sizeG l
set_option maxRecDepth 20000 in
theorem ok131 (l : List Zn) (t : Bool) (hl : l.length ≤ 100000) (hs : ∀ z ∈ l, 0 ≤ z.size ∧ z.size ≤ 100000) : FnC Tryz.prog 131 [] [.lst 6 t (rowsZ l)] (.int .i64 (szF l)) [] := by
  refine fn_okX (ob0 := []) [] Tryz.func131 rfl rfl rfl rfl ?_
  generalize hk : szF l = q
  rw [szF] at hk
  repeat ((conv => whnf); first | refine Cd.go ?_ | refine ⟨rfl, ?_⟩ | refine rq_dec ⟨.inl rfl, rfl⟩ ?_ | refine rq_dec rfl ?_ | refine ⟨Nat.le_of_ble_eq_true rfl, ?_⟩ | refine ⟨.inl rfl, ?_⟩ | refine ⟨fun _ => ⟨rfl, Nat.le_of_ble_eq_true rfl⟩, ?_⟩ | refine ⟨fun _ => Nat.le_of_ble_eq_true rfl, ?_⟩ | refine ⟨fun h => Bool.noConfusion h, ?_⟩)
  conv => whnf
  rw [rowsZ_len]
  refine ⟨Nat × Int, fun p => p.1 ≤ l.length ∧ p.2 + sumZ sizeG (l.drop p.1) = q ∧ 0 ≤ p.2 ∧ p.2 ≤ 100000 * (p.1 : Int), fun p => ⟨[(3, ⟨[], true, .int .i64 p.2⟩), (6, ⟨[], true, .lst 6 t (rowsZ l)⟩), (7, ⟨[], true, .int .i64 (l.length : Int)⟩), (8, ⟨[], true, .int .i64 (p.1 : Int)⟩)], [], 0⟩, fun p => l.length - p.1, ⟨(0, 0), ⟨by simp, by simpa using hk, by decide, by decide⟩, ?_⟩, fun p hI => ?_⟩
  · refine viewI [] rfl rfl ?_ rfl ?_ rfl ?_
    repeat' (first | exact trivial | rfl | exact .inl rfl | exact .inr rfl | exact id | exact (fun h => Bool.noConfusion h) | refine And.intro ?_ ?_)
  obtain ⟨i, s⟩ := p
  obtain ⟨hI1, hI2, hI3, hI4⟩ := hI
  dsimp only at hI1 hI2 hI3 hI4 ⊢
  repeat ((conv => whnf); first | refine Cd.go ?_ | refine ⟨rfl, ?_⟩ | refine rq_dec ⟨.inl rfl, rfl⟩ ?_ | refine rq_dec rfl ?_ | refine ⟨Nat.le_of_ble_eq_true rfl, ?_⟩ | refine ⟨.inl rfl, ?_⟩ | refine ⟨fun _ => ⟨rfl, Nat.le_of_ble_eq_true rfl⟩, ?_⟩ | refine ⟨fun _ => Nat.le_of_ble_eq_true rfl, ?_⟩ | refine ⟨fun h => Bool.noConfusion h, ?_⟩)
  conv => whnf
  refine cq_intro (fun h3 => ?_) (fun h3 => ?_) <;> try simp only [Bool.cond_true_left, Bool.cond_false_right, Bool.not_eq_true', Bool.not_eq_false', Bool.not_not] at h3
  · have h3 : i < l.length := by simp at h3; omega
    have hf := hs _ (List.getElem_mem h3)
    have hst : sumZ sizeG (l.drop i) = sizeG l[i] + sumZ sizeG (l.drop (i + 1)) := by rw [List.drop_eq_getElem_cons h3]; rfl
    rw [hst] at hI2
    repeat ((conv => whnf); first | refine Cd.go ?_ | refine ⟨rfl, ?_⟩ | refine rq_dec ⟨.inl rfl, rfl⟩ ?_ | refine rq_dec rfl ?_ | refine ⟨Nat.le_of_ble_eq_true rfl, ?_⟩ | refine ⟨.inl rfl, ?_⟩ | refine ⟨fun _ => ⟨rfl, Nat.le_of_ble_eq_true rfl⟩, ?_⟩ | refine ⟨fun _ => Nat.le_of_ble_eq_true rfl, ?_⟩ | refine ⟨fun h => Bool.noConfusion h, ?_⟩)
    conv => whnf
    first | refine rq_dec (⟨rfl, by omega, by rw [rowsZ_len]; omega⟩) ?_ | refine gq_dec (fun _ => ⟨rfl, by omega, by rw [rowsZ_len]; omega⟩) ?_ | refine ⟨fun _ => ⟨rfl, by omega, by rw [rowsZ_len]; omega⟩, ?_⟩
    rw [Int.toNat_natCast, rowsZ_get l i h3]
    generalize l[i] = z at hI2 hf
    unfold sizeG at hI2
    repeat ((conv => whnf); first | refine Cd.go ?_ | refine ⟨rfl, ?_⟩ | refine rq_dec ⟨.inl rfl, rfl⟩ ?_ | refine rq_dec rfl ?_ | refine ⟨Nat.le_of_ble_eq_true rfl, ?_⟩ | refine ⟨.inl rfl, ?_⟩ | refine ⟨fun _ => ⟨rfl, Nat.le_of_ble_eq_true rfl⟩, ?_⟩ | refine ⟨fun _ => Nat.le_of_ble_eq_true rfl, ?_⟩ | refine ⟨fun h => Bool.noConfusion h, ?_⟩)
    conv => whnf
    rw [wrapI (n := s + z.size) (by omega) (by omega), wrapI (n := (i : Int) + 1) (by omega) (by omega), show ((i : Int) + 1) = ((i + 1 : Nat) : Int) by omega]
    refine ⟨(i + 1, s + z.size), ⟨by show i + 1 ≤ _; omega, by show s + z.size + sumZ sizeG (l.drop (i + 1)) = q; unfold sizeG; omega, by show 0 ≤ s + z.size; omega, by show s + z.size ≤ 100000 * ((i + 1 : Nat) : Int); omega⟩, ?_, by show l.length - (i + 1) < l.length - i; omega⟩
    refine viewI [] rfl rfl ?_ rfl ?_ rfl ?_
    repeat' (first | exact trivial | rfl | exact .inl rfl | exact .inr rfl | exact id | exact (fun h => Bool.noConfusion h) | refine And.intro ?_ ?_)
  have h3 : i = l.length := by simp at h3; omega
  rw [h3, List.drop_length, sumZ, Int.add_zero] at hI2
  subst hI2
  repeat ((conv => whnf); first | refine Cd.go ?_ | refine ⟨rfl, ?_⟩ | refine rq_dec ⟨.inl rfl, rfl⟩ ?_ | refine rq_dec rfl ?_ | refine ⟨Nat.le_of_ble_eq_true rfl, ?_⟩ | refine ⟨.inl rfl, ?_⟩ | refine ⟨fun _ => ⟨rfl, Nat.le_of_ble_eq_true rfl⟩, ?_⟩ | refine ⟨fun _ => Nat.le_of_ble_eq_true rfl, ?_⟩ | refine ⟨fun h => Bool.noConfusion h, ?_⟩)
  conv => whnf
  refine ⟨[], trivial, rfl, trivial, rfl, ?_⟩
  try subst hk
  repeat' (first | exact trivial | rfl | exact .inl rfl | exact .inr rfl | exact id | exact (fun h => Bool.noConfusion h) | refine And.intro ?_ ?_)
def plc (f : Fl) : Int × Int := (f.dev, f.slot)
theorem rowsP_snoc (l : List (Int × Int)) (p : Int × Int) : rowsP l ++ [[.int .i64 p.1, .int .i64 p.2]] = rowsP (l ++ [p]) := by simp [rowsP]
set_option maxRecDepth 20000 in
theorem ok222 (l : List Fl) (t : Bool) (hl : l.length ≤ 100000) : FnC Tryz.prog 222 [] [.lst 15 t (rowsF l)] (.lst 2 false (rowsP (l.map plc))) [] := by
  refine fn_okX (ob0 := []) [] Tryz.func222 rfl rfl rfl rfl ?_
  repeat ((conv => whnf); first | refine Cd.go ?_ | refine ⟨rfl, ?_⟩ | refine rq_dec ⟨.inl rfl, rfl⟩ ?_ | refine rq_dec rfl ?_ | refine ⟨Nat.le_of_ble_eq_true rfl, ?_⟩ | refine ⟨.inl rfl, ?_⟩ | refine ⟨fun _ => ⟨rfl, Nat.le_of_ble_eq_true rfl⟩, ?_⟩ | refine ⟨fun _ => Nat.le_of_ble_eq_true rfl, ?_⟩ | refine ⟨fun h => Bool.noConfusion h, ?_⟩)
  conv => whnf
  rw [rowsF_len]
  refine ⟨Nat, fun i => i ≤ l.length, fun i => ⟨[(3, ⟨[], true, .sl 0 0 i⟩), (6, ⟨[], true, .lst 15 t (rowsF l)⟩), (7, ⟨[], true, .int .i64 (l.length : Int)⟩), (8, ⟨[], true, .int .i64 (i : Int)⟩)], [(0, .row 2 (rowsP ((l.take i).map plc)))], 1⟩, fun i => l.length - i, ⟨0, Nat.zero_le _, ?_⟩, fun i hI => ?_⟩
  · refine viewI [none] rfl rfl ?_ rfl ?_ rfl ?_
    repeat' (first | exact trivial | rfl | exact .inl rfl | exact .inr rfl | exact id | exact (fun h => Bool.noConfusion h) | refine And.intro ?_ ?_)
  dsimp only
  have hlen : (rowsP ((l.take i).map plc)).length = i := by rw [rowsP_len, List.length_map, List.length_take]; omega
  repeat ((conv => whnf); first | refine Cd.go ?_ | refine ⟨rfl, ?_⟩ | refine rq_dec ⟨.inl rfl, rfl⟩ ?_ | refine rq_dec rfl ?_ | refine ⟨Nat.le_of_ble_eq_true rfl, ?_⟩ | refine ⟨.inl rfl, ?_⟩ | refine ⟨fun _ => ⟨rfl, Nat.le_of_ble_eq_true rfl⟩, ?_⟩ | refine ⟨fun _ => Nat.le_of_ble_eq_true rfl, ?_⟩ | refine ⟨fun h => Bool.noConfusion h, ?_⟩)
  conv => whnf
  refine cq_intro (fun h3 => ?_) (fun h3 => ?_) <;> try simp only [Bool.cond_true_left, Bool.cond_false_right, Bool.not_eq_true', Bool.not_eq_false', Bool.not_not] at h3
  · have h3 : i < l.length := by simp at h3; omega
    repeat ((conv => whnf); first | refine Cd.go ?_ | refine ⟨rfl, ?_⟩ | refine rq_dec ⟨.inl rfl, rfl⟩ ?_ | refine rq_dec rfl ?_ | refine ⟨Nat.le_of_ble_eq_true rfl, ?_⟩ | refine ⟨.inl rfl, ?_⟩ | refine ⟨fun _ => ⟨rfl, Nat.le_of_ble_eq_true rfl⟩, ?_⟩ | refine ⟨fun _ => Nat.le_of_ble_eq_true rfl, ?_⟩ | refine ⟨fun h => Bool.noConfusion h, ?_⟩)
    conv => whnf
    first | refine rq_dec (⟨rfl, by omega, by rw [rowsF_len]; omega⟩) ?_ | refine gq_dec (fun _ => ⟨rfl, by omega, by rw [rowsF_len]; omega⟩) ?_ | refine ⟨fun _ => ⟨rfl, by omega, by rw [rowsF_len]; omega⟩, ?_⟩
    rw [rowsF_getK l i h3]
    have hp : plc (l.getD i f0) = ((l.getD i f0).dev, (l.getD i f0).slot) := rfl
    have ht := takeS f0 h3
    generalize l.getD i f0 = f at hp ht
    repeat ((conv => whnf); first | refine Cd.go ?_ | refine ⟨rfl, ?_⟩ | refine rq_dec ⟨.inl rfl, rfl⟩ ?_ | refine rq_dec rfl ?_ | refine ⟨Nat.le_of_ble_eq_true rfl, ?_⟩ | refine ⟨.inl rfl, ?_⟩ | refine ⟨fun _ => ⟨rfl, Nat.le_of_ble_eq_true rfl⟩, ?_⟩ | refine ⟨fun _ => Nat.le_of_ble_eq_true rfl, ?_⟩ | refine ⟨fun h => Bool.noConfusion h, ?_⟩)
    conv => whnf
    refine rq_dec hlen.symm (rq_app (by rw [hlen]; show ((i + 1 : Nat) : Int) ≤ _; omega) (by rw [hlen]; show (i + 1) * 16 ≤ _; omega) ?_)
    repeat ((conv => whnf); first | refine Cd.go ?_ | refine ⟨rfl, ?_⟩ | refine rq_dec ⟨.inl rfl, rfl⟩ ?_ | refine rq_dec rfl ?_ | refine ⟨Nat.le_of_ble_eq_true rfl, ?_⟩ | refine ⟨.inl rfl, ?_⟩ | refine ⟨fun _ => ⟨rfl, Nat.le_of_ble_eq_true rfl⟩, ?_⟩ | refine ⟨fun _ => Nat.le_of_ble_eq_true rfl, ?_⟩ | refine ⟨fun h => Bool.noConfusion h, ?_⟩)
    conv => whnf
    rw [wrapS (by omega)]
    refine ⟨i + 1, by show i + 1 ≤ _; omega, ?_, by show l.length - (i + 1) < l.length - i; omega⟩
    dsimp only
    rw [ht, List.map_append]
    refine viewI [some ?k81_0] rfl rfl ?h3_81 ?h4_81 ?h5_81 ?h6_81 ?h7_81
    case' h7_81 => repeat' (first | exact trivial | rfl | exact .inl rfl | exact .inr rfl | exact id | exact (fun h => Bool.noConfusion h) | refine And.intro ?_ ?_)
    case' h4_81 => rfl
    case' h6_81 => rfl
    case' h3_81 => repeat' (first | exact trivial | rfl | exact .inl rfl | exact .inr rfl | exact id | exact (fun h => Bool.noConfusion h) | refine And.intro ?_ ?_)
    case' h5_81 => repeat' (first | exact trivial | rfl | exact .inl rfl | exact .inr rfl | exact id | exact (fun h => Bool.noConfusion h) | refine And.intro ?_ ?_)
    · exact rowsP_snoc _ (plc f)
    · show (rowsP ((l.take i).map plc)).length + 1 = _
      rw [hlen]
  have h3 : i = l.length := by simp at h3; omega
  subst h3
  rw [List.take_length]
  repeat ((conv => whnf); first | refine Cd.go ?_ | refine ⟨rfl, ?_⟩ | refine rq_dec ⟨.inl rfl, rfl⟩ ?_ | refine rq_dec rfl ?_ | refine ⟨Nat.le_of_ble_eq_true rfl, ?_⟩ | refine ⟨.inl rfl, ?_⟩ | refine ⟨fun _ => ⟨rfl, Nat.le_of_ble_eq_true rfl⟩, ?_⟩ | refine ⟨fun _ => Nat.le_of_ble_eq_true rfl, ?_⟩ | refine ⟨fun h => Bool.noConfusion h, ?_⟩)
  conv => whnf
  refine ⟨[], trivial, rfl, trivial, rfl, ?_⟩
  try subst hk
  repeat' (first | exact trivial | rfl | exact .inl rfl | exact .inr rfl | exact id | exact (fun h => Bool.noConfusion h) | refine And.intro ?_ ?_)
  · rw [rowsP_len, List.length_map]; omega
  · rw [List.drop_zero, List.take_of_length_le (by rw [rowsP_len, List.length_map]; exact Nat.le_refl _)]
end Go.Proofs.YtmhapcbjjpadnaaGreat

set_option maxRecDepth 40000
namespace Go.Proofs.YtmhapcbjjpadnaaGreat
open Go Go.Sk Go.RowKit

theorem ok214 : FnC Tryz.prog 214 [] [.int .i64 128] (.int .i64 7) [] := by
  refine fn_okX (ob0 := []) [] Tryz.func214 rfl rfl rfl rfl ?_
  repeat ((conv => whnf); first | refine Cd.go ?_ | refine ⟨rfl, ?_⟩ | refine rq_dec ⟨.inl rfl, rfl⟩ ?_ | refine rq_dec rfl ?_ | refine ⟨Nat.le_of_ble_eq_true rfl, ?_⟩ | refine ⟨.inl rfl, ?_⟩ | refine ⟨fun _ => ⟨rfl, Nat.le_of_ble_eq_true rfl⟩, ?_⟩ | refine ⟨fun _ => Nat.le_of_ble_eq_true rfl, ?_⟩ | refine ⟨fun h => Bool.noConfusion h, ?_⟩)
  conv => whnf
  refine ⟨[], trivial, rfl, trivial, rfl, ?_⟩
  try subst hk
  repeat' (first | exact trivial | rfl | exact .inl rfl | exact .inr rfl | exact id | exact (fun h => Bool.noConfusion h) | refine And.intro ?_ ?_)
theorem badP_of {d s : Int} : badP (d, s) = (((decide (d < 0) || decide (4 ≤ d)) || decide (s < 0)) || decide (7 ≤ s)) := by
  unfold badP slotB
  by_cases h1 : s < 0 <;> by_cases h2 : 7 ≤ s <;> simp [h1, h2] <;> omega
def rc111 : RC :=
  (.seq
  (.reg [⟨(some 2), none, (.mv (.c (.bool false)))⟩] [])
  (.seq
  (.seq
  (.reg [⟨(some 3), none, (.mv (.c (.int .i64 0)))⟩] [])
  (.block 0
   (.loop
    (.seq
    (.seq
    (.reg [⟨(some 5), none, (.mv (.t 3))⟩,
      ⟨(some 6), none, (.mv (.t 0))⟩,
      ⟨(some 7), none, (.len (.t 6))⟩,
      ⟨(some 8), none, (.bin .lss (.t 5) (.t 7))⟩] [5, 6, 7])
    (.cond (.t 8)
     .skip
     (.exit 0)))
    (.seq
    (.block 1
     (.seq
     (.seq
     (.dreg 5120 5616 [⟨(some 11), none, (.mv (.t 0))⟩,
       ⟨(some 12), none, (.mv (.t 3))⟩,
       ⟨(some 13), none, (.iaddr 2 (.t 11) (.t 12))⟩,
       ⟨(some 14), none, (.faddr 0 (.t 13))⟩,
       ⟨(some 15), none, (.ld false 1 (.t 14))⟩,
       ⟨(some 16), none, (.bin .lss (.t 15) (.c (.int .i64 0)))⟩,
       ⟨(some 17), none, (.mv (.t 16))⟩,
       ⟨(some 18), (some (17, false)), (.mv (.t 0))⟩,
       ⟨(some 19), (some (17, false)), (.mv (.t 3))⟩,
       ⟨(some 20), (some (17, false)), (.iaddr 2 (.t 18) (.t 19))⟩,
       ⟨(some 21), (some (17, false)), (.faddr 0 (.t 20))⟩,
       ⟨(some 22), (some (17, false)), (.ld false 1 (.t 21))⟩,
       ⟨(some 23), (some (17, false)), (.bin .geq (.t 22) (.c (.int .i64 4)))⟩,
       ⟨(some 24), none, (.pick (.t 17) (.c (.bool true)) (.t 23))⟩,
       ⟨(some 25), none, (.mv (.t 24))⟩,
       ⟨(some 26), (some (25, false)), (.mv (.t 0))⟩,
       ⟨(some 27), (some (25, false)), (.mv (.t 3))⟩,
       ⟨(some 28), (some (25, false)), (.iaddr 2 (.t 26) (.t 27))⟩,
       ⟨(some 29), (some (25, false)), (.faddr 1 (.t 28))⟩,
       ⟨(some 30), (some (25, false)), (.ld false 1 (.t 29))⟩,
       ⟨(some 31), (some (25, false)), (.bin .lss (.t 30) (.c (.int .i64 0)))⟩,
       ⟨(some 32), none, (.pick (.t 25) (.c (.bool true)) (.t 31))⟩,
       ⟨(some 33), none, (.mv (.t 32))⟩,
       ⟨(some 34), (some (33, false)), (.mv (.t 0))⟩,
       ⟨(some 35), (some (33, false)), (.mv (.t 3))⟩,
       ⟨(some 36), (some (33, false)), (.iaddr 2 (.t 34) (.t 35))⟩,
       ⟨(some 37), (some (33, false)), (.faddr 1 (.t 36))⟩,
       ⟨(some 38), (some (33, false)), (.ld false 1 (.t 37))⟩,
       ⟨(some 39), (some (33, false)), (.call 214 [(.c (.int .i64 128))])⟩,
       ⟨(some 40), (some (33, false)), (.bin .geq (.t 38) (.t 39))⟩,
       ⟨(some 41), none, (.pick (.t 33) (.c (.bool true)) (.t 40))⟩] [11, 12, 13, 14, 15, 16, 17, 18, 19, 20, 21, 22, 23, 24, 25, 26, 27, 28, 29, 30, 31, 32, 33, 34, 35, 36, 37, 38, 39, 40] [[], [], [0, 1], [2, 1, 0], [3, 0, 1, 2], [4, 2, 1, 0, 3], [5, 3, 0, 1, 2, 4], [6, 4, 2, 1, 0, 3, 5], [6, 4, 2, 1, 0, 3, 5], [7, 8, 6, 4, 2, 1, 0, 3, 5], [9, 8, 7, 6, 4, 2, 1, 0, 3, 5], [10, 7, 8, 9, 6, 4, 2, 1, 0, 3, 5], [11, 9, 8, 7, 10, 6, 4, 2, 1, 0, 3, 5], [12, 5, 3, 0, 1, 2, 4, 6, 10, 7, 8, 9, 11], [13, 11, 9, 8, 7, 10, 12, 6, 4, 2, 1, 0, 3, 5], [14, 5, 3, 0, 1, 2, 4, 6, 12, 10, 7, 8, 9, 11, 13], [14, 5, 3, 0, 1, 2, 4, 6, 12, 10, 7, 8, 9, 11, 13], [15, 16, 14, 5, 3, 0, 1, 2, 4, 6, 12, 10, 7, 8, 9, 11, 13], [17, 16, 15, 14, 5, 3, 0, 1, 2, 4, 6, 12, 10, 7, 8, 9, 11, 13], [18, 15, 16, 17, 14, 5, 3, 0, 1, 2, 4, 6, 12, 10, 7, 8, 9, 11, 13], [19, 17, 16, 15, 18, 14, 5, 3, 0, 1, 2, 4, 6, 12, 10, 7, 8, 9, 11, 13], [20, 13, 11, 9, 8, 7, 10, 12, 6, 4, 2, 1, 0, 3, 5, 14, 18, 15, 16, 17, 19], [21, 19, 17, 16, 15, 18, 20, 14, 5, 3, 0, 1, 2, 4, 6, 12, 10, 7, 8, 9, 11, 13], [22, 13, 11, 9, 8, 7, 10, 12, 6, 4, 2, 1, 0, 3, 5, 14, 20, 18, 15, 16, 17, 19, 21], [22, 13, 11, 9, 8, 7, 10, 12, 6, 4, 2, 1, 0, 3, 5, 14, 20, 18, 15, 16, 17, 19, 21], [23, 24, 22, 13, 11, 9, 8, 7, 10, 12, 6, 4, 2, 1, 0, 3, 5, 14, 20, 18, 15, 16, 17, 19, 21], [25, 24, 23, 22, 13, 11, 9, 8, 7, 10, 12, 6, 4, 2, 1, 0, 3, 5, 14, 20, 18, 15, 16, 17, 19, 21], [26, 23, 24, 25, 22, 13, 11, 9, 8, 7, 10, 12, 6, 4, 2, 1, 0, 3, 5, 14, 20, 18, 15, 16, 17, 19, 21], [22, 13, 11, 9, 8, 7, 10, 12, 6, 4, 2, 1, 0, 3, 5, 14, 20, 18, 15, 16, 17, 19, 21], [27, 25, 24, 23, 26, 28, 22, 13, 11, 9, 8, 7, 10, 12, 6, 4, 2, 1, 0, 3, 5, 14, 20, 18, 15, 16, 17, 19, 21], [29, 21, 19, 17, 16, 15, 18, 20, 14, 5, 3, 0, 1, 2, 4, 6, 12, 10, 7, 8, 9, 11, 13, 22, 28, 26, 23, 24, 25, 27]] [5120, 5136, 5152, 5168, 5184, 5200, 5216, 5232, 5248, 5264, 5280, 5296, 5312, 5328, 5344, 5360, 5376, 5392, 5408, 5424, 5440, 5456, 5472, 5488, 5504, 5520, 5536, 5552, 5568, 5584, 5600])
     (.cond (.t 41)
      (.seq
      (.reg [⟨(some 2), none, (.mv (.c (.bool false)))⟩] [])
      .ret)
      .skip))
     (.seq
     (.reg [⟨(some 4), none, (.mv (.c (.int .i64 0)))⟩] [])
     (.block 2
      (.loop
       (.seq
       (.seq
       (.reg [⟨(some 42), none, (.mv (.t 4))⟩,
         ⟨(some 43), none, (.mv (.t 3))⟩,
         ⟨(some 44), none, (.bin .lss (.t 42) (.t 43))⟩] [42, 43])
       (.cond (.t 44)
        .skip
        (.exit 2)))
       (.seq
       (.block 3
        (.seq
        (.dreg 10240 10384 [⟨(some 47), none, (.mv (.t 0))⟩,
          ⟨(some 48), none, (.mv (.t 4))⟩,
          ⟨(some 49), none, (.iaddr 2 (.t 47) (.t 48))⟩,
          ⟨(some 50), none, (.ld true 2 (.t 49))⟩,
          ⟨(some 51), none, (.mv (.t 0))⟩,
          ⟨(some 52), none, (.mv (.t 3))⟩,
          ⟨(some 53), none, (.iaddr 2 (.t 51) (.t 52))⟩,
          ⟨(some 54), none, (.ld true 2 (.t 53))⟩,
          ⟨(some 55), none, (.eqs false [(0, .i), (1, .i)] (.t 50) (.t 54))⟩] [47, 48, 49, 50, 51, 52, 53, 54] [[], [], [0, 1], [2, 1, 0], [], [], [4, 5], [6, 5, 4], [3, 0, 1, 2, 7, 4, 5, 6]] [10240, 10256, 10272, 10288, 10304, 10320, 10336, 10352, 10368])
        (.cond (.t 55)
         (.seq
         (.reg [⟨(some 2), none, (.mv (.c (.bool false)))⟩] [])
         .ret)
         .skip)))
       (.reg [⟨(some 45), none, (.mv (.t 4))⟩,
         ⟨(some 46), none, (.bin .add (.t 45) (.c (.int .i64 1)))⟩,
         ⟨(some 4), none, (.mv (.t 46))⟩] [45, 46]))))))))
    (.reg [⟨(some 9), none, (.mv (.t 3))⟩,
      ⟨(some 10), none, (.bin .add (.t 9) (.c (.int .i64 1)))⟩,
      ⟨(some 3), none, (.mv (.t 10))⟩] [9, 10]))))))
  (.seq
  (.reg [⟨(some 56), none, (.mv (.t 0))⟩,
    ⟨(some 57), none, (.len (.t 56))⟩,
    ⟨(some 58), none, (.bin .geq (.t 57) (.c (.int .i64 1)))⟩,
    ⟨(some 59), none, (.mv (.t 58))⟩,
    ⟨(some 60), (some (59, true)), (.mv (.t 0))⟩,
    ⟨(some 61), (some (59, true)), (.len (.t 60))⟩,
    ⟨(some 62), (some (59, true)), (.bin .leq (.t 61) (.c (.int .i64 8)))⟩,
    ⟨(some 63), none, (.pick (.t 59) (.t 62) (.c (.bool false)))⟩,
    ⟨(some 2), none, (.mv (.t 63))⟩] [56, 57, 58, 59, 60, 61, 62, 63])
  .ret)))
theorem rcq111 : resC Go.Proofs.Tryz.prog Go.Proofs.Tryz.f111.ntmps ((Go.Proofs.Tryz.f111.body).getD .skip) = some (strip rc111) := by kernel_rfl
set_option maxRecDepth 20000 in
set_option maxHeartbeats 1000000 in
theorem ok111 (l : List (Int × Int)) (t : Bool) (hl : l.length ≤ 100000) : FnC Tryz.prog 111 [] [.lst 2 t (rowsP l)] (.bool (locF l)) [] := by
  refine fn_okX [] Tryz.func111 rfl rfl (resX_of rcq111 rfl) rfl ?_
  generalize hk : locF l = q
  rw [locF] at hk
  repeat ((conv => whnf); first | refine Cd.go ?_ | refine ⟨rfl, ?_⟩ | refine rq_dec ⟨.inl rfl, rfl⟩ ?_ | refine rq_dec rfl ?_ | refine ⟨Nat.le_of_ble_eq_true rfl, ?_⟩ | refine ⟨.inl rfl, ?_⟩ | refine ⟨fun _ => ⟨rfl, Nat.le_of_ble_eq_true rfl⟩, ?_⟩ | refine ⟨fun _ => Nat.le_of_ble_eq_true rfl, ?_⟩ | refine ⟨fun h => Bool.noConfusion h, ?_⟩)
  conv => whnf
  refine ⟨Nat, fun i => i ≤ l.length ∧ noneBad (badL l) i = true, fun i => ⟨[(0, ⟨[], true, .lst 2 t (rowsP l)⟩), (3, ⟨[], true, .int .i64 (i : Int)⟩)], [], 0⟩, fun i => l.length - i, ⟨0, ⟨by simp, rfl⟩, ?_⟩, fun i hp => ?_⟩
  · refine viewI [] rfl rfl ?_ rfl ?_ rfl ?_
    repeat' (first | exact trivial | rfl | exact .inl rfl | exact .inr rfl | exact id | exact (fun h => Bool.noConfusion h) | refine And.intro ?_ ?_)
  obtain ⟨hp1, hp2⟩ := hp
  dsimp only at hp1 hp2 ⊢
  repeat ((conv => whnf); first | refine Cd.go ?_ | refine ⟨rfl, ?_⟩ | refine rq_dec ⟨.inl rfl, rfl⟩ ?_ | refine rq_dec rfl ?_ | refine ⟨Nat.le_of_ble_eq_true rfl, ?_⟩ | refine ⟨.inl rfl, ?_⟩ | refine ⟨fun _ => ⟨rfl, Nat.le_of_ble_eq_true rfl⟩, ?_⟩ | refine ⟨fun _ => Nat.le_of_ble_eq_true rfl, ?_⟩ | refine ⟨fun h => Bool.noConfusion h, ?_⟩)
  conv => whnf
  refine cq_intro (fun b1 => ?_) (fun b1 => ?_) <;> try simp only [Bool.cond_true_left, Bool.cond_false_right, Bool.not_eq_true', Bool.not_eq_false', Bool.not_not] at b1
  · have b1 : i < l.length := by simp [rowsP_len] at b1; omega
    have hbd : badL l i = (badP (l.getD i (0, 0)) || decide (l.getD i (0, 0) ∈ l.take i)) := rfl
    have hgt := rowsP_getK l i b1
    generalize l.getD i (0, 0) = f at hbd hgt
    obtain ⟨d, s⟩ := f
    rw [badP_of] at hbd
    repeat ((conv => whnf); first | refine Cd.go ?_ | refine ⟨rfl, ?_⟩ | refine rq_dec ⟨.inl rfl, rfl⟩ ?_ | refine rq_dec rfl ?_ | refine ⟨Nat.le_of_ble_eq_true rfl, ?_⟩ | refine ⟨.inl rfl, ?_⟩ | refine ⟨fun _ => ⟨rfl, Nat.le_of_ble_eq_true rfl⟩, ?_⟩ | refine ⟨fun _ => Nat.le_of_ble_eq_true rfl, ?_⟩ | refine ⟨fun h => Bool.noConfusion h, ?_⟩)
    conv => whnf
    first | refine rq_dec (⟨rfl, by omega, by rw [rowsP_len]; omega⟩) ?_ | refine gq_dec (fun _ => ⟨rfl, by omega, by rw [rowsP_len]; omega⟩) ?_ | refine ⟨fun _ => ⟨rfl, by omega, by rw [rowsP_len]; omega⟩, ?_⟩
    rw [hgt]
    repeat ((conv => whnf); first | refine Cd.go ?_ | refine ⟨rfl, ?_⟩ | refine rq_dec ⟨.inl rfl, rfl⟩ ?_ | refine rq_dec rfl ?_ | refine ⟨Nat.le_of_ble_eq_true rfl, ?_⟩ | refine ⟨.inl rfl, ?_⟩ | refine ⟨fun _ => ⟨rfl, Nat.le_of_ble_eq_true rfl⟩, ?_⟩ | refine ⟨fun _ => Nat.le_of_ble_eq_true rfl, ?_⟩ | refine ⟨fun h => Bool.noConfusion h, ?_⟩)
    conv => whnf
    first | refine rq_dec (⟨rfl, by omega, by rw [rowsP_len]; omega⟩) ?_ | refine gq_dec (fun _ => ⟨rfl, by omega, by rw [rowsP_len]; omega⟩) ?_ | refine ⟨fun _ => ⟨rfl, by omega, by rw [rowsP_len]; omega⟩, ?_⟩
    rw [hgt]
    repeat ((conv => whnf); first | refine Cd.go ?_ | refine ⟨rfl, ?_⟩ | refine rq_dec ⟨.inl rfl, rfl⟩ ?_ | refine rq_dec rfl ?_ | refine ⟨Nat.le_of_ble_eq_true rfl, ?_⟩ | refine ⟨.inl rfl, ?_⟩ | refine ⟨fun _ => ⟨rfl, Nat.le_of_ble_eq_true rfl⟩, ?_⟩ | refine ⟨fun _ => Nat.le_of_ble_eq_true rfl, ?_⟩ | refine ⟨fun h => Bool.noConfusion h, ?_⟩)
    conv => whnf
    first | refine rq_dec (⟨rfl, by omega, by rw [rowsP_len]; omega⟩) ?_ | refine gq_dec (fun _ => ⟨rfl, by omega, by rw [rowsP_len]; omega⟩) ?_ | refine ⟨fun _ => ⟨rfl, by omega, by rw [rowsP_len]; omega⟩, ?_⟩
    rw [hgt]
    repeat ((conv => whnf); first | refine Cd.go ?_ | refine ⟨rfl, ?_⟩ | refine rq_dec ⟨.inl rfl, rfl⟩ ?_ | refine rq_dec rfl ?_ | refine ⟨Nat.le_of_ble_eq_true rfl, ?_⟩ | refine ⟨.inl rfl, ?_⟩ | refine ⟨fun _ => ⟨rfl, Nat.le_of_ble_eq_true rfl⟩, ?_⟩ | refine ⟨fun _ => Nat.le_of_ble_eq_true rfl, ?_⟩ | refine ⟨fun h => Bool.noConfusion h, ?_⟩)
    conv => whnf
    first | refine rq_dec (⟨rfl, by omega, by rw [rowsP_len]; omega⟩) ?_ | refine gq_dec (fun _ => ⟨rfl, by omega, by rw [rowsP_len]; omega⟩) ?_ | refine ⟨fun _ => ⟨rfl, by omega, by rw [rowsP_len]; omega⟩, ?_⟩
    rw [hgt]
    repeat ((conv => whnf); first | refine Cd.go ?_ | refine ⟨rfl, ?_⟩ | refine rq_dec ⟨.inl rfl, rfl⟩ ?_ | refine rq_dec rfl ?_ | refine ⟨Nat.le_of_ble_eq_true rfl, ?_⟩ | refine ⟨.inl rfl, ?_⟩ | refine ⟨fun _ => ⟨rfl, Nat.le_of_ble_eq_true rfl⟩, ?_⟩ | refine ⟨fun _ => Nat.le_of_ble_eq_true rfl, ?_⟩ | refine ⟨fun h => Bool.noConfusion h, ?_⟩ | refine .inl ⟨_, fun _ => ⟨purA rfl, (by first | exact ok214)⟩, .inl rfl, ?_⟩)
    conv => whnf
    refine cq_intro (fun b2 => ?_) (fun b2 => ?_) <;> try simp only [Bool.cond_true_left, Bool.cond_false_right, Bool.not_eq_true', Bool.not_eq_false', Bool.not_not] at b2
    · have b2 : badL l i = true := by rw [hbd]; simp at b2 ⊢; omega
      rw [noneBad_bad b1 b2] at hk
      have hk : q = false := by rw [← hk]; rfl
      subst hk
      repeat ((conv => whnf); first | refine Cd.go ?_ | refine ⟨rfl, ?_⟩ | refine rq_dec ⟨.inl rfl, rfl⟩ ?_ | refine rq_dec rfl ?_ | refine ⟨Nat.le_of_ble_eq_true rfl, ?_⟩ | refine ⟨.inl rfl, ?_⟩ | refine ⟨fun _ => ⟨rfl, Nat.le_of_ble_eq_true rfl⟩, ?_⟩ | refine ⟨fun _ => Nat.le_of_ble_eq_true rfl, ?_⟩ | refine ⟨fun h => Bool.noConfusion h, ?_⟩)
      conv => whnf
      refine ⟨[], trivial, rfl, trivial, rfl, ?_⟩
      try subst hk
      repeat' (first | exact trivial | rfl | exact .inl rfl | exact .inr rfl | exact id | exact (fun h => Bool.noConfusion h) | refine And.intro ?_ ?_)
    have b2 : (((decide (d < 0) || decide (4 ≤ d)) || decide (s < 0)) || decide (7 ≤ s)) = false := by simp at b2 ⊢; omega
    rw [b2, Bool.false_or] at hbd
    repeat ((conv => whnf); first | refine Cd.go ?_ | refine ⟨rfl, ?_⟩ | refine rq_dec ⟨.inl rfl, rfl⟩ ?_ | refine rq_dec rfl ?_ | refine ⟨Nat.le_of_ble_eq_true rfl, ?_⟩ | refine ⟨.inl rfl, ?_⟩ | refine ⟨fun _ => ⟨rfl, Nat.le_of_ble_eq_true rfl⟩, ?_⟩ | refine ⟨fun _ => Nat.le_of_ble_eq_true rfl, ?_⟩ | refine ⟨fun h => Bool.noConfusion h, ?_⟩)
    conv => whnf
    refine ⟨Nat, fun k => k ≤ i ∧ ∀ j, j < k → l.getD j (0, 0) ≠ (d, s), fun k => ⟨[(0, ⟨[], true, .lst 2 t (rowsP l)⟩), (3, ⟨[], true, .int .i64 (i : Int)⟩), (4, ⟨[], true, .int .i64 (k : Int)⟩)], [], 0⟩, fun k => i - k, ⟨0, ⟨by simp, fun j hj => absurd hj (by omega)⟩, ?_⟩, fun k hp => ?_⟩
    · refine viewI [] rfl rfl ?_ rfl ?_ rfl ?_
      repeat' (first | exact trivial | rfl | exact .inl rfl | exact .inr rfl | exact id | exact (fun h => Bool.noConfusion h) | refine And.intro ?_ ?_)
    obtain ⟨hq1, hq2⟩ := hp
    dsimp only at hq1 hq2 ⊢
    repeat ((conv => whnf); first | refine Cd.go ?_ | refine ⟨rfl, ?_⟩ | refine rq_dec ⟨.inl rfl, rfl⟩ ?_ | refine rq_dec rfl ?_ | refine ⟨Nat.le_of_ble_eq_true rfl, ?_⟩ | refine ⟨.inl rfl, ?_⟩ | refine ⟨fun _ => ⟨rfl, Nat.le_of_ble_eq_true rfl⟩, ?_⟩ | refine ⟨fun _ => Nat.le_of_ble_eq_true rfl, ?_⟩ | refine ⟨fun h => Bool.noConfusion h, ?_⟩)
    conv => whnf
    refine cq_intro (fun b3 => ?_) (fun b3 => ?_) <;> try simp only [Bool.cond_true_left, Bool.cond_false_right, Bool.not_eq_true', Bool.not_eq_false', Bool.not_not] at b3
    · have b3 : k < i := by simp at b3; omega
      have hgk := rowsP_getK l k (by omega)
      repeat ((conv => whnf); first | refine Cd.go ?_ | refine ⟨rfl, ?_⟩ | refine rq_dec ⟨.inl rfl, rfl⟩ ?_ | refine rq_dec rfl ?_ | refine ⟨Nat.le_of_ble_eq_true rfl, ?_⟩ | refine ⟨.inl rfl, ?_⟩ | refine ⟨fun _ => ⟨rfl, Nat.le_of_ble_eq_true rfl⟩, ?_⟩ | refine ⟨fun _ => Nat.le_of_ble_eq_true rfl, ?_⟩ | refine ⟨fun h => Bool.noConfusion h, ?_⟩)
      conv => whnf
      first | refine rq_dec (⟨rfl, by omega, by rw [rowsP_len]; omega⟩) ?_ | refine gq_dec (fun _ => ⟨rfl, by omega, by rw [rowsP_len]; omega⟩) ?_ | refine ⟨fun _ => ⟨rfl, by omega, by rw [rowsP_len]; omega⟩, ?_⟩
      rw [hgk]
      repeat ((conv => whnf); first | refine Cd.go ?_ | refine ⟨rfl, ?_⟩ | refine rq_dec ⟨.inl rfl, rfl⟩ ?_ | refine rq_dec rfl ?_ | refine ⟨Nat.le_of_ble_eq_true rfl, ?_⟩ | refine ⟨.inl rfl, ?_⟩ | refine ⟨fun _ => ⟨rfl, Nat.le_of_ble_eq_true rfl⟩, ?_⟩ | refine ⟨fun _ => Nat.le_of_ble_eq_true rfl, ?_⟩ | refine ⟨fun h => Bool.noConfusion h, ?_⟩)
      conv => whnf
      first | refine rq_dec (⟨rfl, by omega, by rw [rowsP_len]; omega⟩) ?_ | refine gq_dec (fun _ => ⟨rfl, by omega, by rw [rowsP_len]; omega⟩) ?_ | refine ⟨fun _ => ⟨rfl, by omega, by rw [rowsP_len]; omega⟩, ?_⟩
      rw [hgt]
      repeat ((conv => whnf); first | refine Cd.go ?_ | refine ⟨rfl, ?_⟩ | refine rq_dec ⟨.inl rfl, rfl⟩ ?_ | refine rq_dec rfl ?_ | refine ⟨Nat.le_of_ble_eq_true rfl, ?_⟩ | refine ⟨.inl rfl, ?_⟩ | refine ⟨fun _ => ⟨rfl, Nat.le_of_ble_eq_true rfl⟩, ?_⟩ | refine ⟨fun _ => Nat.le_of_ble_eq_true rfl, ?_⟩ | refine ⟨fun h => Bool.noConfusion h, ?_⟩)
      conv => whnf
      generalize hg : l.getD k (0, 0) = g
      obtain ⟨d2, s2⟩ := g
      repeat ((conv => whnf); first | refine Cd.go ?_ | refine ⟨rfl, ?_⟩ | refine rq_dec ⟨.inl rfl, rfl⟩ ?_ | refine rq_dec rfl ?_ | refine ⟨Nat.le_of_ble_eq_true rfl, ?_⟩ | refine ⟨.inl rfl, ?_⟩ | refine ⟨fun _ => ⟨rfl, Nat.le_of_ble_eq_true rfl⟩, ?_⟩ | refine ⟨fun _ => Nat.le_of_ble_eq_true rfl, ?_⟩ | refine ⟨fun h => Bool.noConfusion h, ?_⟩)
      conv => whnf
      refine cq_intro (fun b4 => ?_) (fun b4 => ?_) <;> try simp only [Bool.cond_true_left, Bool.cond_false_right, Bool.not_eq_true', Bool.not_eq_false', Bool.not_not] at b4
      · have b4 : d2 = d ∧ s2 = s := by simpa using b4
        obtain ⟨rfl, rfl⟩ := b4
        have hm : (d2, s2) ∈ l.take i := by
          rw [← hg]
          simp only [List.getD_eq_getElem?_getD, show k < l.length by omega, List.getElem?_eq_getElem, Option.getD_some]
          exact List.mem_take_iff_getElem.2 ⟨k, by omega, rfl⟩
        rw [decide_eq_true hm] at hbd
        rw [noneBad_bad b1 hbd] at hk
        have hk : q = false := by rw [← hk]; rfl
        subst hk
        repeat ((conv => whnf); first | refine Cd.go ?_ | refine ⟨rfl, ?_⟩ | refine rq_dec ⟨.inl rfl, rfl⟩ ?_ | refine rq_dec rfl ?_ | refine ⟨Nat.le_of_ble_eq_true rfl, ?_⟩ | refine ⟨.inl rfl, ?_⟩ | refine ⟨fun _ => ⟨rfl, Nat.le_of_ble_eq_true rfl⟩, ?_⟩ | refine ⟨fun _ => Nat.le_of_ble_eq_true rfl, ?_⟩ | refine ⟨fun h => Bool.noConfusion h, ?_⟩)
        conv => whnf
        refine ⟨[], trivial, rfl, trivial, rfl, ?_⟩
        try subst hk
        repeat' (first | exact trivial | rfl | exact .inl rfl | exact .inr rfl | exact id | exact (fun h => Bool.noConfusion h) | refine And.intro ?_ ?_)
      have b4 : ¬ (d2 = d ∧ s2 = s) := by simpa using b4
      repeat ((conv => whnf); first | refine Cd.go ?_ | refine ⟨rfl, ?_⟩ | refine rq_dec ⟨.inl rfl, rfl⟩ ?_ | refine rq_dec rfl ?_ | refine ⟨Nat.le_of_ble_eq_true rfl, ?_⟩ | refine ⟨.inl rfl, ?_⟩ | refine ⟨fun _ => ⟨rfl, Nat.le_of_ble_eq_true rfl⟩, ?_⟩ | refine ⟨fun _ => Nat.le_of_ble_eq_true rfl, ?_⟩ | refine ⟨fun h => Bool.noConfusion h, ?_⟩)
      conv => whnf
      rw [wrapS (by omega)]
      refine ⟨k + 1, ⟨by show k + 1 ≤ _; omega, fun j hj => ?_⟩, ?_, by show i - (k + 1) < i - k; omega⟩
      · by_cases e : j = k
        · subst e; rw [hg]; intro e; cases e; exact b4 ⟨rfl, rfl⟩
        · exact hq2 j (by omega)
      refine viewI [] rfl rfl ?_ rfl ?_ rfl ?_
      repeat' (first | exact trivial | rfl | exact .inl rfl | exact .inr rfl | exact id | exact (fun h => Bool.noConfusion h) | refine And.intro ?_ ?_)
    have b3 : k = i := by simp at b3; omega
    have hm : (d, s) ∉ l.take i := fun h => by
      obtain ⟨j, hj, e⟩ := List.mem_take_iff_getElem.1 h
      refine hq2 j (by omega) ?_
      simp only [List.getD_eq_getElem?_getD, show j < l.length by omega, List.getElem?_eq_getElem, Option.getD_some, e]
    rw [decide_eq_false hm] at hbd
    repeat ((conv => whnf); first | refine Cd.go ?_ | refine ⟨rfl, ?_⟩ | refine rq_dec ⟨.inl rfl, rfl⟩ ?_ | refine rq_dec rfl ?_ | refine ⟨Nat.le_of_ble_eq_true rfl, ?_⟩ | refine ⟨.inl rfl, ?_⟩ | refine ⟨fun _ => ⟨rfl, Nat.le_of_ble_eq_true rfl⟩, ?_⟩ | refine ⟨fun _ => Nat.le_of_ble_eq_true rfl, ?_⟩ | refine ⟨fun h => Bool.noConfusion h, ?_⟩)
    conv => whnf
    rw [wrapS (by omega)]
    refine ⟨i + 1, ⟨by show i + 1 ≤ _; omega, by show noneBad (badL l) (i + 1) = true; simp only [noneBad, hp2, hbd]; rfl⟩, ?_, by show l.length - (i + 1) < l.length - i; omega⟩
    refine viewI [] rfl rfl ?_ rfl ?_ rfl ?_
    repeat' (first | exact trivial | rfl | exact .inl rfl | exact .inr rfl | exact id | exact (fun h => Bool.noConfusion h) | refine And.intro ?_ ?_)
  have b1 : i = l.length := by simp [rowsP_len] at b1; omega
  subst b1
  rw [hp2, Bool.true_and] at hk
  have hk : (bif decide (1 ≤ (l.length : Int)) then decide ((l.length : Int) ≤ 8) else false) = q := by rw [← hk]; cases decide (1 ≤ (l.length : Int)) <;> rfl
  rw [← rowsP_len] at hk
  subst hk
  repeat ((conv => whnf); first | refine Cd.go ?_ | refine ⟨rfl, ?_⟩ | refine rq_dec ⟨.inl rfl, rfl⟩ ?_ | refine rq_dec rfl ?_ | refine ⟨Nat.le_of_ble_eq_true rfl, ?_⟩ | refine ⟨.inl rfl, ?_⟩ | refine ⟨fun _ => ⟨rfl, Nat.le_of_ble_eq_true rfl⟩, ?_⟩ | refine ⟨fun _ => Nat.le_of_ble_eq_true rfl, ?_⟩ | refine ⟨fun h => Bool.noConfusion h, ?_⟩)
  conv => whnf
  refine ⟨[], trivial, rfl, trivial, rfl, ?_⟩
  try subst hk
  repeat' (first | exact trivial | rfl | exact .inl rfl | exact .inr rfl | exact id | exact (fun h => Bool.noConfusion h) | refine And.intro ?_ ?_)
end Go.Proofs.YtmhapcbjjpadnaaGreat

