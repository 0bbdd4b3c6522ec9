/- Caches. -/
import Derived.Test.YtmhapcbjjpadnaaGreatGB
import Derived.Test.YtmhapcbjjpadnaaGreatG5
import Derived.Test.YtmhapcbjjpadnaaGreatG4
import Derived.Test.YtmhapcbjjpadnaaGreatG2
set_option linter.unusedSimpArgs false
set_option linter.unusedVariables false
set_option maxRecDepth 40000
namespace Go.Proofs.YtmhapcbjjpadnaaGreat
open Go Go.Sk Go.RowKit

theorem seqI_l (f n : Int) (h : 0 ≤ n) : ((seqI f (f + n)).length : Int) = n := by rw [seqI_len]; omega
theorem newR_new : ∀ (s : List Int) (f : Int) (l : List Zn), 1 ≤ f ∧ f ≤ 65 → newR f s = some l →
    (0 ≤ sumZ sizeG l ∧ f + sumZ sizeG l ≤ 65 ∧ sumZ freeG l = sumZ sizeG l) ∧ (∀ z ∈ l, 0 ≤ z.size ∧ z.size ≤ 100000) ∧ ∀ x, f ≤ x → x < f + sumZ sizeG l → ∃ z ∈ l, x ∈ z.free
  | [], f, l, hf, h => by
    rw [newR] at h
    obtain rfl := Option.some.inj h
    refine ⟨⟨by simp [sumZ], by simp [sumZ]; omega, rfl⟩, by simp, fun x h1 h2 => ?_⟩
    simp only [sumZ] at h2; omega
  | n :: r, f, l, hf, h => by
    rw [newR] at h
    cases hb : badN f n with
    | true => rw [hb] at h; cases h
    | false =>
      rw [hb, cond_false, Option.map_eq_some_iff] at h
      obtain ⟨l', h1, rfl⟩ := h
      obtain ⟨a1, a2, a3, a4⟩ := badN_ok hf hb
      obtain ⟨⟨b1, b2, b3⟩, b4, b5⟩ := newR_new r (f + n) l' (by omega) h1
      have es : sumZ sizeG (mkZ f n :: l') = n + sumZ sizeG l' := rfl
      have ef : sumZ freeG (mkZ f n :: l') = ((seqI f (f + n)).length : Int) + sumZ freeG l' := rfl
      rw [seqI_l f n (by omega)] at ef
      refine ⟨⟨by omega, by omega, by omega⟩, fun z hz => ?_, fun x h2 h3 => ?_⟩
      · rcases List.mem_cons.1 hz with rfl | hz
        · exact ⟨by show 0 ≤ n; omega, by show n ≤ 100000; omega⟩
        · exact b4 z hz
      · by_cases e : x < f + n
        · exact ⟨_, List.mem_cons_self, (mem_seqI f (f + n) x).2 ⟨h2, e⟩⟩
        · obtain ⟨z, hz, hx⟩ := b5 x (by omega) (by omega)
          exact ⟨z, List.mem_cons_of_mem _ hz, hx⟩
structure NewZ (z : List Zn) : Prop where
  chk : checkZ z = true
  num : 0 ≤ szF z ∧ szF z ≤ 64
  free : freeF z = szF z
  size : ∀ x ∈ z, 0 ≤ x.size ∧ x.size ≤ 100000
  cov : ∀ x : Int, 1 ≤ x → x < 1 + szF z → ∃ y ∈ z, x ∈ y.free
theorem newF_new {s : List Int} (h : (newF s).2 = 0) : NewZ (newF s).1 := by
  obtain ⟨h1, h2, h3⟩ := newF_ok h
  obtain ⟨⟨b1, b2, b3⟩, b4, b5⟩ := newR_new s 1 _ (by decide) h3
  exact ⟨h1, ⟨b1, by unfold szF; omega⟩, by rw [freeF, h1]; exact b3, b4, b5⟩

def nilV : V := .lst 0 true []
def nilF (p : Int × Int) : List V := [.int .i64 p.1, .int .i64 p.2, .int .i64 0, nilV, .int .i64 0, .int .i64 0, .int .i64 0, .int .i64 0, .int .i64 0, .int .i64 0, .int .i64 0, .int .i64 0, .int .i64 0, .int .i64 0, .int .i64 0]
def chgB (g : List Gr) (j : Nat) : Bool := (g.getD j g0).chg != 0
def chg0 (g : List Gr) : Bool := noneBad (chgB g) g.length
def raw0 : V := .agg [nilV, nilV, nilV, nilV, nilV, nilV, nilV]
def rawC (l : List (Int × Int)) (z : List Zn) (g : List Gr) : V :=
  .agg [.lst 15 false (l.map nilF), .lst 9 false (rowsR (List.replicate (szF z).toNat fre)), .lst 6 false (rowsZ z), .lst 3 false (rowsG g), .lst 3 false (List.replicate g.length [nilV, nilV, nilV]), .lst 1 false (List.replicate g.length [.int .i64 0]), nilV]
def rawN (l : List (Int × Int)) (s : List Int) (g : List Gr) : V × Int :=
  bif !locF l || !grF g then (raw0, 1) else bif !chg0 g then (raw0, 1) else bif (newF s).2 != 0 then (raw0, (newF s).2) else (rawC l (newF s).1 g, 0)
theorem nilF_snoc (l : List (Int × Int)) (p : Int × Int) : l.map nilF ++ [nilF p] = (l ++ [p]).map nilF := by simp
theorem fre_snoc (i : Nat) : rowsR (List.replicate i fre) ++ [fre.c] = rowsR (List.replicate (i + 1) fre) := by simp [rowsR, List.replicate_succ']
theorem rep_len {α : Type} (n : Nat) (x : α) : (List.replicate n x).length = n := List.length_replicate
theorem takeAll {α : Type} {n : Nat} {X Y : List α} (h : X = Y) (hn : X.length = n) : List.take n (List.drop 0 X) = Y := by
  subst hn; rw [List.drop_zero, List.take_length]; exact h
theorem grF_len {g : List Gr} (h : grF g = true) : 1 ≤ g.length ∧ g.length ≤ 4 := by
  simp only [grF, Bool.and_eq_true, decide_eq_true_eq] at h; omega
theorem locF_len {l : List (Int × Int)} (h : locF l = true) : 1 ≤ l.length ∧ l.length ≤ 8 := by
  simp only [locF, Bool.and_eq_true, decide_eq_true_eq] at h; omega
def nb : Sk.Obj := .box [nilV, nilV, nilV, nilV, nilV, nilV, nilV]
set_option maxRecDepth 20000 in
set_option maxHeartbeats 2000000 in
theorem raw36 (l : List (Int × Int)) (t : Bool) (s : List Int) (t2 : Bool) (g : List Gr) (t3 : Bool) (hl : l.length ≤ 100000) (hs : s.length ≤ 100000) (hg : g.length ≤ 100000) :
    FnC Tryz.prog 36 [] [.lst 2 t (rowsP l), .lst 1 t2 (rowsI s), .lst 3 t3 (rowsG g)] (.tup [(rawN l s g).1, .int .i64 (rawN l s g).2]) [] := by
  refine fn_okX (ob0 := []) [] Tryz.func36 rfl rfl rfl rfl ?_
  generalize hk : rawN l s g = q
  rw [rawN] at hk
  repeat ((conv => whnf); first | refine Cd.go ?_ | refine ⟨rfl, ?_⟩ | refine rq_dec ⟨.inl rfl, rfl⟩ ?_ | refine rq_dec rfl ?_ | refine ⟨Nat.le_of_ble_eq_true rfl, ?_⟩ | refine ⟨.inl rfl, ?_⟩ | refine ⟨fun _ => ⟨rfl, Nat.le_of_ble_eq_true rfl⟩, ?_⟩ | refine ⟨fun _ => Nat.le_of_ble_eq_true rfl, ?_⟩ | refine ⟨fun h => Bool.noConfusion h, ?_⟩ | refine .inl ⟨_, fun _ => ⟨purA rfl, (by first | exact ok128 l t hl | exact ok129 g t3 hg)⟩, .inl rfl, ?_⟩)
  conv => whnf
  refine cq_intro (fun b1 => ?_) (fun b1 => ?_) <;> try simp only [Bool.cond_true_left, Bool.cond_false_right, Bool.not_eq_true', Bool.not_eq_false', Bool.not_not] at b1
  · have b1 : (!locF l || !grF g) = true := by revert b1; cases locF l <;> cases grF g <;> simp
    rw [b1, cond_true] at hk
    subst hk
    repeat ((conv => whnf); first | refine Cd.go ?_ | refine ⟨rfl, ?_⟩ | refine rq_dec ⟨.inl rfl, rfl⟩ ?_ | refine rq_dec rfl ?_ | refine ⟨Nat.le_of_ble_eq_true rfl, ?_⟩ | refine ⟨.inl rfl, ?_⟩ | refine ⟨fun _ => ⟨rfl, Nat.le_of_ble_eq_true rfl⟩, ?_⟩ | refine ⟨fun _ => Nat.le_of_ble_eq_true rfl, ?_⟩ | refine ⟨fun h => Bool.noConfusion h, ?_⟩)
    conv => whnf
    refine ⟨[], trivial, rfl, trivial, rfl, ?_⟩
    try subst hk
    repeat' (first | exact trivial | rfl | exact .inl rfl | exact .inr rfl | exact id | exact (fun h => Bool.noConfusion h) | refine And.intro ?_ ?_)
  have b1' : (!locF l || !grF g) = false := by revert b1; cases locF l <;> cases grF g <;> simp
  rw [b1', cond_false] at hk
  simp only [Bool.or_eq_false_iff, Bool.not_eq_false'] at b1'
  obtain ⟨h1, h2⟩ := b1'
  have g1 := grF_len h2
  have l1 := locF_len h1
  clear b1
  repeat ((conv => whnf); first | refine Cd.go ?_ | refine ⟨rfl, ?_⟩ | refine rq_dec ⟨.inl rfl, rfl⟩ ?_ | refine rq_dec rfl ?_ | refine ⟨Nat.le_of_ble_eq_true rfl, ?_⟩ | refine ⟨.inl rfl, ?_⟩ | refine ⟨fun _ => ⟨rfl, Nat.le_of_ble_eq_true rfl⟩, ?_⟩ | refine ⟨fun _ => Nat.le_of_ble_eq_true rfl, ?_⟩ | refine ⟨fun h => Bool.noConfusion h, ?_⟩)
  conv => whnf
  rw [rowsG_len]
  refine ⟨Nat, fun i => i ≤ g.length ∧ noneBad (chgB g) i = true, fun i => ⟨[(0, ⟨[], true, .lst 2 t (rowsP l)⟩), (1, ⟨[], true, .lst 1 t2 (rowsI s)⟩), (2, ⟨[], true, .lst 3 t3 (rowsG g)⟩), (6, ⟨[], true, .ptr 0 0 0⟩), (24, ⟨[], true, .lst 3 t3 (rowsG g)⟩), (25, ⟨[], true, .int .i64 (g.length : Int)⟩), (26, ⟨[], true, .int .i64 (i : Int)⟩)], [(0, nb)], 1⟩, fun i => g.length - i, ⟨0, ⟨by simp, rfl⟩, ?_⟩, fun i hp => ?_⟩
  · refine viewI [some 0] rfl rfl ?_ rfl ?_ rfl ?_
    repeat' (first | exact trivial | rfl | exact .inl rfl | exact .inr rfl | exact id | exact (fun h => Bool.noConfusion h) | refine And.intro ?_ ?_)
  obtain ⟨hp1, hp2⟩ := hp
  dsimp only at hp1 hp2 ⊢
  repeat ((conv => whnf); first | refine Cd.go ?_ | refine ⟨rfl, ?_⟩ | refine rq_dec ⟨.inl rfl, rfl⟩ ?_ | refine rq_dec rfl ?_ | refine ⟨Nat.le_of_ble_eq_true rfl, ?_⟩ | refine ⟨.inl rfl, ?_⟩ | refine ⟨fun _ => ⟨rfl, Nat.le_of_ble_eq_true rfl⟩, ?_⟩ | refine ⟨fun _ => Nat.le_of_ble_eq_true rfl, ?_⟩ | refine ⟨fun h => Bool.noConfusion h, ?_⟩)
  conv => whnf
  refine cq_intro (fun b2 => ?_) (fun b2 => ?_) <;> try simp only [Bool.cond_true_left, Bool.cond_false_right, Bool.not_eq_true', Bool.not_eq_false', Bool.not_not] at b2
  · have b2 : i < g.length := by simp at b2; omega
    repeat ((conv => whnf); first | refine Cd.go ?_ | refine ⟨rfl, ?_⟩ | refine rq_dec ⟨.inl rfl, rfl⟩ ?_ | refine rq_dec rfl ?_ | refine ⟨Nat.le_of_ble_eq_true rfl, ?_⟩ | refine ⟨.inl rfl, ?_⟩ | refine ⟨fun _ => ⟨rfl, Nat.le_of_ble_eq_true rfl⟩, ?_⟩ | refine ⟨fun _ => Nat.le_of_ble_eq_true rfl, ?_⟩ | refine ⟨fun h => Bool.noConfusion h, ?_⟩)
    conv => whnf
    first | refine rq_dec (⟨rfl, by omega, by rw [rowsG_len]; omega⟩) ?_ | refine gq_dec (fun _ => ⟨rfl, by omega, by rw [rowsG_len]; omega⟩) ?_ | refine ⟨fun _ => ⟨rfl, by omega, by rw [rowsG_len]; omega⟩, ?_⟩
    rw [rowsG_getK g i b2]
    have hbd : chgB g i = ((g.getD i g0).chg != 0) := rfl
    generalize g.getD i g0 = f at hbd
    repeat ((conv => whnf); first | refine Cd.go ?_ | refine ⟨rfl, ?_⟩ | refine rq_dec ⟨.inl rfl, rfl⟩ ?_ | refine rq_dec rfl ?_ | refine ⟨Nat.le_of_ble_eq_true rfl, ?_⟩ | refine ⟨.inl rfl, ?_⟩ | refine ⟨fun _ => ⟨rfl, Nat.le_of_ble_eq_true rfl⟩, ?_⟩ | refine ⟨fun _ => Nat.le_of_ble_eq_true rfl, ?_⟩ | refine ⟨fun h => Bool.noConfusion h, ?_⟩)
    conv => whnf
    refine cq_intro (fun b3 => ?_) (fun b3 => ?_) <;> try simp only [Bool.cond_true_left, Bool.cond_false_right, Bool.not_eq_true', Bool.not_eq_false', Bool.not_not] at b3
    · have b3 : chgB g i = true := by rw [hbd, ← b3]
      rw [show chg0 g = false from noneBad_bad b2 b3] at hk
      have hk : (raw0, (1 : Int)) = q := hk
      subst hk
      repeat ((conv => whnf); first | refine Cd.go ?_ | refine ⟨rfl, ?_⟩ | refine rq_dec ⟨.inl rfl, rfl⟩ ?_ | refine rq_dec rfl ?_ | refine ⟨Nat.le_of_ble_eq_true rfl, ?_⟩ | refine ⟨.inl rfl, ?_⟩ | refine ⟨fun _ => ⟨rfl, Nat.le_of_ble_eq_true rfl⟩, ?_⟩ | refine ⟨fun _ => Nat.le_of_ble_eq_true rfl, ?_⟩ | refine ⟨fun h => Bool.noConfusion h, ?_⟩)
      conv => whnf
      refine ⟨[], trivial, rfl, trivial, rfl, ?_⟩
      try subst hk
      repeat' (first | exact trivial | rfl | exact .inl rfl | exact .inr rfl | exact id | exact (fun h => Bool.noConfusion h) | refine And.intro ?_ ?_)
    have b3 : chgB g i = false := by rw [hbd, ← b3]
    repeat ((conv => whnf); first | refine Cd.go ?_ | refine ⟨rfl, ?_⟩ | refine rq_dec ⟨.inl rfl, rfl⟩ ?_ | refine rq_dec rfl ?_ | refine ⟨Nat.le_of_ble_eq_true rfl, ?_⟩ | refine ⟨.inl rfl, ?_⟩ | refine ⟨fun _ => ⟨rfl, Nat.le_of_ble_eq_true rfl⟩, ?_⟩ | refine ⟨fun _ => Nat.le_of_ble_eq_true rfl, ?_⟩ | refine ⟨fun h => Bool.noConfusion h, ?_⟩)
    conv => whnf
    rw [wrapS (by omega)]
    refine ⟨i + 1, ⟨by show i + 1 ≤ _; omega, by show noneBad (chgB g) (i + 1) = true; simp only [noneBad, hp2, b3]; rfl⟩, ?_, by show g.length - (i + 1) < g.length - i; omega⟩
    refine viewI [some 0] rfl rfl ?_ rfl ?_ rfl ?_
    repeat' (first | exact trivial | rfl | exact .inl rfl | exact .inr rfl | exact id | exact (fun h => Bool.noConfusion h) | refine And.intro ?_ ?_)
  have b2 : i = g.length := by simp at b2; omega
  subst b2
  rw [show chg0 g = true from hp2] at hk
  have hk : (bif (newF s).2 != 0 then (raw0, (newF s).2) else (rawC l (newF s).1 g, 0)) = q := hk
  repeat ((conv => whnf); first | refine Cd.go ?_ | refine ⟨rfl, ?_⟩ | refine rq_dec ⟨.inl rfl, rfl⟩ ?_ | refine rq_dec rfl ?_ | refine ⟨Nat.le_of_ble_eq_true rfl, ?_⟩ | refine ⟨.inl rfl, ?_⟩ | refine ⟨fun _ => ⟨rfl, Nat.le_of_ble_eq_true rfl⟩, ?_⟩ | refine ⟨fun _ => Nat.le_of_ble_eq_true rfl, ?_⟩ | refine ⟨fun h => Bool.noConfusion h, ?_⟩ | refine .inl ⟨_, fun _ => ⟨purA rfl, (by first | exact ok130 s t2 hs)⟩, .inl rfl, ?_⟩)
  conv => whnf
  refine cq_intro (fun b4 => ?_) (fun b4 => ?_) <;> try simp only [Bool.cond_true_left, Bool.cond_false_right, Bool.not_eq_true', Bool.not_eq_false', Bool.not_not] at b4
  · have b4 : ((newF s).2 != 0) = true := by rw [← b4]
    rw [b4, cond_true] at hk
    subst hk
    repeat ((conv => whnf); first | refine Cd.go ?_ | refine ⟨rfl, ?_⟩ | refine rq_dec ⟨.inl rfl, rfl⟩ ?_ | refine rq_dec rfl ?_ | refine ⟨Nat.le_of_ble_eq_true rfl, ?_⟩ | refine ⟨.inl rfl, ?_⟩ | refine ⟨fun _ => ⟨rfl, Nat.le_of_ble_eq_true rfl⟩, ?_⟩ | refine ⟨fun _ => Nat.le_of_ble_eq_true rfl, ?_⟩ | refine ⟨fun h => Bool.noConfusion h, ?_⟩)
    conv => whnf
    refine ⟨[], trivial, rfl, trivial, rfl, ?_⟩
    try subst hk
    repeat' (first | exact trivial | rfl | exact .inl rfl | exact .inr rfl | exact id | exact (fun h => Bool.noConfusion h) | refine And.intro ?_ ?_)
  have b4 : ((newF s).2 != 0) = false := by rw [← b4]
  rw [b4, cond_false] at hk
  subst hk
  have hz := newF_new (s := s) (by simpa using b4)
  generalize (newF s).1 = z at hz ⊢
  obtain ⟨n1, n2⟩ := hz.num
  repeat ((conv => whnf); first | refine Cd.go ?_ | refine ⟨rfl, ?_⟩ | refine rq_dec ⟨.inl rfl, rfl⟩ ?_ | refine rq_dec rfl ?_ | refine ⟨Nat.le_of_ble_eq_true rfl, ?_⟩ | refine ⟨.inl rfl, ?_⟩ | refine ⟨fun _ => ⟨rfl, Nat.le_of_ble_eq_true rfl⟩, ?_⟩ | refine ⟨fun _ => Nat.le_of_ble_eq_true rfl, ?_⟩ | refine ⟨fun h => Bool.noConfusion h, ?_⟩)
  conv => whnf
  first | refine rq_app (by rw [rowsG_len]; omega) (by rw [rowsG_len]; omega) ?_ | refine rq_dec ⟨by rw [rowsG_len]; omega, by rw [rowsG_len]; omega⟩ ?_ | refine ⟨by rw [rowsG_len]; omega, by rw [rowsG_len]; omega, ?_⟩
  repeat ((conv => whnf); first | refine Cd.go ?_ | refine ⟨rfl, ?_⟩ | refine rq_dec ⟨.inl rfl, rfl⟩ ?_ | refine rq_dec rfl ?_ | refine ⟨Nat.le_of_ble_eq_true rfl, ?_⟩ | refine ⟨.inl rfl, ?_⟩ | refine ⟨fun _ => ⟨rfl, Nat.le_of_ble_eq_true rfl⟩, ?_⟩ | refine ⟨fun _ => Nat.le_of_ble_eq_true rfl, ?_⟩ | refine ⟨fun h => Bool.noConfusion h, ?_⟩)
  conv => whnf
  rw [rowsG_len]
  first | refine rq_mk (by omega) (by omega) (by omega) (by omega) ?_ | refine rq_dec ⟨by omega, by omega, by omega, by omega⟩ ?_ | refine ⟨by omega, by omega, by omega, by omega, ?_⟩
  repeat ((conv => whnf); first | refine Cd.go ?_ | refine ⟨rfl, ?_⟩ | refine rq_dec ⟨.inl rfl, rfl⟩ ?_ | refine rq_dec rfl ?_ | refine ⟨Nat.le_of_ble_eq_true rfl, ?_⟩ | refine ⟨.inl rfl, ?_⟩ | refine ⟨fun _ => ⟨rfl, Nat.le_of_ble_eq_true rfl⟩, ?_⟩ | refine ⟨fun _ => Nat.le_of_ble_eq_true rfl, ?_⟩ | refine ⟨fun h => Bool.noConfusion h, ?_⟩)
  conv => whnf
  rw [rowsG_len]
  first | refine rq_mk (by omega) (by omega) (by omega) (by omega) ?_ | refine rq_dec ⟨by omega, by omega, by omega, by omega⟩ ?_ | refine ⟨by omega, by omega, by omega, by omega, ?_⟩
  repeat ((conv => whnf); first | refine Cd.go ?_ | refine ⟨rfl, ?_⟩ | refine rq_dec ⟨.inl rfl, rfl⟩ ?_ | refine rq_dec rfl ?_ | refine ⟨Nat.le_of_ble_eq_true rfl, ?_⟩ | refine ⟨.inl rfl, ?_⟩ | refine ⟨fun _ => ⟨rfl, Nat.le_of_ble_eq_true rfl⟩, ?_⟩ | refine ⟨fun _ => Nat.le_of_ble_eq_true rfl, ?_⟩ | refine ⟨fun h => Bool.noConfusion h, ?_⟩)
  conv => whnf
  rw [rowsP_len]
  refine ⟨Nat, fun i => i ≤ l.length, fun i => ⟨[(6, ⟨[], true, .ptr 0 0 0⟩), (10, ⟨[], true, .lst 6 false (rowsZ z)⟩), (12, ⟨[], true, .ptr 1 0 0⟩), (54, ⟨[], true, .lst 2 t (rowsP l)⟩), (55, ⟨[], true, .int .i64 (l.length : Int)⟩), (56, ⟨[], true, .int .i64 (i : Int)⟩)],
    [(0, nb), (1, .box [.sl 2 0 i, nilV, .lst 6 false (rowsZ z), .lst 3 false (rowsG g), .lst 3 false (List.replicate g.length [nilV, nilV, nilV]), .lst 1 false (List.replicate g.length [.int .i64 0]), nilV]), (2, .row 15 ((l.take i).map nilF))], 3⟩, fun i => l.length - i, ⟨0, Nat.zero_le _, ?_⟩, fun i hI => ?_⟩
  · refine viewI [some 0, some ?k165_1, none] rfl rfl ?h3_165 ?h4_165 ?h5_165 ?h6_165 ?h7_165
    case' h7_165 => repeat' (first | exact trivial | rfl | exact .inl rfl | exact .inr rfl | exact id | exact (fun h => Bool.noConfusion h) | refine And.intro ?_ ?_)
    case' h4_165 => rfl
    case' h6_165 => rfl
    case' h3_165 => repeat' (first | exact trivial | rfl | exact .inl rfl | exact .inr rfl | exact id | exact (fun h => Bool.noConfusion h) | refine And.intro ?_ ?_)
    case' h5_165 => repeat' (first | exact trivial | rfl | exact .inl rfl | exact .inr rfl | exact id | exact (fun h => Bool.noConfusion h) | refine And.intro ?_ ?_)
    · rw [rowsG_len]; omega
    · exact takeAll rfl (rowsG_len g)
    · simp
    · exact takeAll rfl (by simp)
    · simp
    · exact takeAll (by simp [rowsG_len]) (by simp)
  dsimp only at hI ⊢
  have hlen : ((l.take i).map nilF).length = i := by rw [List.length_map, List.length_take]; omega
  repeat ((conv => whnf); first | refine Cd.go ?_ | refine ⟨rfl, ?_⟩ | refine rq_dec ⟨.inl rfl, rfl⟩ ?_ | refine rq_dec rfl ?_ | refine ⟨Nat.le_of_ble_eq_true rfl, ?_⟩ | refine ⟨.inl rfl, ?_⟩ | refine ⟨fun _ => ⟨rfl, Nat.le_of_ble_eq_true rfl⟩, ?_⟩ | refine ⟨fun _ => Nat.le_of_ble_eq_true rfl, ?_⟩ | refine ⟨fun h => Bool.noConfusion h, ?_⟩)
  conv => whnf
  refine cq_intro (fun b5 => ?_) (fun b5 => ?_) <;> try simp only [Bool.cond_true_left, Bool.cond_false_right, Bool.not_eq_true', Bool.not_eq_false', Bool.not_not] at b5
  · have b5 : i < l.length := by simp at b5; omega
    repeat ((conv => whnf); first | refine Cd.go ?_ | refine ⟨rfl, ?_⟩ | refine rq_dec ⟨.inl rfl, rfl⟩ ?_ | refine rq_dec rfl ?_ | refine ⟨Nat.le_of_ble_eq_true rfl, ?_⟩ | refine ⟨.inl rfl, ?_⟩ | refine ⟨fun _ => ⟨rfl, Nat.le_of_ble_eq_true rfl⟩, ?_⟩ | refine ⟨fun _ => Nat.le_of_ble_eq_true rfl, ?_⟩ | refine ⟨fun h => Bool.noConfusion h, ?_⟩)
    conv => whnf
    first | refine rq_dec (⟨rfl, by omega, by rw [rowsP_len]; omega⟩) ?_ | refine gq_dec (fun _ => ⟨rfl, by omega, by rw [rowsP_len]; omega⟩) ?_ | refine ⟨fun _ => ⟨rfl, by omega, by rw [rowsP_len]; omega⟩, ?_⟩
    rw [rowsP_getK l i b5]
    have ht := takeS (0, 0) b5
    generalize l.getD i (0, 0) = f at ht
    repeat ((conv => whnf); first | refine Cd.go ?_ | refine ⟨rfl, ?_⟩ | refine rq_dec ⟨.inl rfl, rfl⟩ ?_ | refine rq_dec rfl ?_ | refine ⟨Nat.le_of_ble_eq_true rfl, ?_⟩ | refine ⟨.inl rfl, ?_⟩ | refine ⟨fun _ => ⟨rfl, Nat.le_of_ble_eq_true rfl⟩, ?_⟩ | refine ⟨fun _ => Nat.le_of_ble_eq_true rfl, ?_⟩ | refine ⟨fun h => Bool.noConfusion h, ?_⟩)
    conv => whnf
    refine rq_dec hlen.symm (rq_app (by rw [hlen]; show ((i + 1 : Nat) : Int) ≤ _; omega) (by rw [hlen]; show (i + 1) * 136 ≤ _; omega) ?_)
    repeat ((conv => whnf); first | refine Cd.go ?_ | refine ⟨rfl, ?_⟩ | refine rq_dec ⟨.inl rfl, rfl⟩ ?_ | refine rq_dec rfl ?_ | refine ⟨Nat.le_of_ble_eq_true rfl, ?_⟩ | refine ⟨.inl rfl, ?_⟩ | refine ⟨fun _ => ⟨rfl, Nat.le_of_ble_eq_true rfl⟩, ?_⟩ | refine ⟨fun _ => Nat.le_of_ble_eq_true rfl, ?_⟩ | refine ⟨fun h => Bool.noConfusion h, ?_⟩)
    conv => whnf
    rw [wrapS (by omega)]
    refine ⟨i + 1, by show i + 1 ≤ _; omega, ?_, by show l.length - (i + 1) < l.length - i; omega⟩
    dsimp only
    rw [ht]
    refine viewI [some 0, some 1, some 5] rfl rfl ?_ rfl ?_ rfl ?_
    repeat' (first | exact trivial | rfl | exact .inl rfl | exact .inr rfl | exact id | exact (fun h => Bool.noConfusion h) | refine And.intro ?_ ?_)
    · show ((l.take i).map nilF).length + 1 = _
      rw [hlen]
    · exact nilF_snoc _ f
  have b5 : i = l.length := by simp at b5; omega
  subst b5
  rw [List.take_length] at hlen ⊢
  repeat ((conv => whnf); first | refine Cd.go ?_ | refine ⟨rfl, ?_⟩ | refine rq_dec ⟨.inl rfl, rfl⟩ ?_ | refine rq_dec rfl ?_ | refine ⟨Nat.le_of_ble_eq_true rfl, ?_⟩ | refine ⟨.inl rfl, ?_⟩ | refine ⟨fun _ => ⟨rfl, Nat.le_of_ble_eq_true rfl⟩, ?_⟩ | refine ⟨fun _ => Nat.le_of_ble_eq_true rfl, ?_⟩ | refine ⟨fun h => Bool.noConfusion h, ?_⟩ | refine .inl ⟨_, fun _ => ⟨purA rfl, (by first | exact ok131 z false (check_small hz.chk).len hz.size)⟩, .inl rfl, ?_⟩)
  conv => whnf
  generalize hn : (szF z).toNat = n
  have hn' : szF z = (n : Int) := by omega
  rw [hn']
  refine ⟨Nat, fun i => i ≤ n, fun i => ⟨[(6, ⟨[], true, .ptr 0 0 0⟩), (12, ⟨[], true, .ptr 1 0 0⟩), (69, ⟨[], true, .int .i64 (n : Int)⟩), (70, ⟨[], true, .int .i64 (i : Int)⟩)],
    [(0, nb), (1, .box [.lst 15 false (l.map nilF), .sl 2 0 i, .lst 6 false (rowsZ z), .lst 3 false (rowsG g), .lst 3 false (List.replicate g.length [nilV, nilV, nilV]), .lst 1 false (List.replicate g.length [.int .i64 0]), nilV]), (2, .row 9 (rowsR (List.replicate i fre)))], 3⟩, fun i => n - i, ⟨0, Nat.zero_le _, ?_⟩, fun i hI => ?_⟩
  · refine viewI [some 0, some 1, none] rfl rfl ?_ rfl ?_ rfl ?_
    repeat' (first | exact trivial | rfl | exact .inl rfl | exact .inr rfl | exact id | exact (fun h => Bool.noConfusion h) | refine And.intro ?_ ?_)
    · omega
    · exact takeAll rfl hlen
  dsimp only at hI ⊢
  have hlen2 : (rowsR (List.replicate i fre)).length = i := by rw [rowsR_len, rep_len]
  repeat ((conv => whnf); first | refine Cd.go ?_ | refine ⟨rfl, ?_⟩ | refine rq_dec ⟨.inl rfl, rfl⟩ ?_ | refine rq_dec rfl ?_ | refine ⟨Nat.le_of_ble_eq_true rfl, ?_⟩ | refine ⟨.inl rfl, ?_⟩ | refine ⟨fun _ => ⟨rfl, Nat.le_of_ble_eq_true rfl⟩, ?_⟩ | refine ⟨fun _ => Nat.le_of_ble_eq_true rfl, ?_⟩ | refine ⟨fun h => Bool.noConfusion h, ?_⟩)
  conv => whnf
  refine cq_intro (fun b6 => ?_) (fun b6 => ?_) <;> try simp only [Bool.cond_true_left, Bool.cond_false_right, Bool.not_eq_true', Bool.not_eq_false', Bool.not_not] at b6
  · have b6 : i < n := by simp at b6; omega
    repeat ((conv => whnf); first | refine Cd.go ?_ | refine ⟨rfl, ?_⟩ | refine rq_dec ⟨.inl rfl, rfl⟩ ?_ | refine rq_dec rfl ?_ | refine ⟨Nat.le_of_ble_eq_true rfl, ?_⟩ | refine ⟨.inl rfl, ?_⟩ | refine ⟨fun _ => ⟨rfl, Nat.le_of_ble_eq_true rfl⟩, ?_⟩ | refine ⟨fun _ => Nat.le_of_ble_eq_true rfl, ?_⟩ | refine ⟨fun h => Bool.noConfusion h, ?_⟩)
    conv => whnf
    refine rq_dec hlen2.symm (rq_app (by rw [hlen2]; show ((i + 1 : Nat) : Int) ≤ _; omega) (by rw [hlen2]; show (i + 1) * 80 ≤ _; omega) ?_)
    repeat ((conv => whnf); first | refine Cd.go ?_ | refine ⟨rfl, ?_⟩ | refine rq_dec ⟨.inl rfl, rfl⟩ ?_ | refine rq_dec rfl ?_ | refine ⟨Nat.le_of_ble_eq_true rfl, ?_⟩ | refine ⟨.inl rfl, ?_⟩ | refine ⟨fun _ => ⟨rfl, Nat.le_of_ble_eq_true rfl⟩, ?_⟩ | refine ⟨fun _ => Nat.le_of_ble_eq_true rfl, ?_⟩ | refine ⟨fun h => Bool.noConfusion h, ?_⟩)
    conv => whnf
    rw [wrapS (by omega)]
    refine ⟨i + 1, by show i + 1 ≤ _; omega, ?_, by show n - (i + 1) < n - i; omega⟩
    dsimp only
    rw [← fre_snoc]
    refine viewI [some 0, some 1, some 4] rfl rfl ?_ rfl ?_ rfl ?_
    repeat' (first | exact trivial | rfl | exact .inl rfl | exact .inr rfl | exact id | exact (fun h => Bool.noConfusion h) | refine And.intro ?_ ?_)
    show (rowsR (List.replicate i fre)).length + 1 = _
    rw [hlen2]
  have b6 : i = n := by simp at b6; omega
  subst b6
  repeat ((conv => whnf); first | refine Cd.go ?_ | refine ⟨rfl, ?_⟩ | refine rq_dec ⟨.inl rfl, rfl⟩ ?_ | refine rq_dec rfl ?_ | refine ⟨Nat.le_of_ble_eq_true rfl, ?_⟩ | refine ⟨.inl rfl, ?_⟩ | refine ⟨fun _ => ⟨rfl, Nat.le_of_ble_eq_true rfl⟩, ?_⟩ | refine ⟨fun _ => Nat.le_of_ble_eq_true rfl, ?_⟩ | refine ⟨fun h => Bool.noConfusion h, ?_⟩)
  conv => whnf
  refine ⟨[], trivial, rfl, trivial, rfl, ?_⟩
  try subst hk
  repeat' (first | exact trivial | rfl | exact .inl rfl | exact .inr rfl | exact id | exact (fun h => Bool.noConfusion h) | refine And.intro ?_ ?_)
  · omega
  · exact takeAll (by rw [hn]) hlen2
end Go.Proofs.YtmhapcbjjpadnaaGreat

set_option maxRecDepth 40000
namespace Go.Proofs.YtmhapcbjjpadnaaGreat
open Go Go.Sk Go.RowKit

set_option maxRecDepth 20000 in
set_option maxHeartbeats 2000000 in
theorem raw29 (l : List (Int × Int)) (t : Bool) (s : List Int) (t2 : Bool) (g : List Gr) (t3 : Bool) (hl : l.length ≤ 100000) (hs : s.length ≤ 100000) (hg : g.length ≤ 100000) :
    FnC Tryz.prog 29 [] [.lst 2 t (rowsP l), .lst 1 t2 (rowsI s), .lst 3 t3 (rowsG g)] (.tup [(rawN l s g).1, .int .i64 (rawN l s g).2]) [] := by
  refine fn_okX (ob0 := []) [] Tryz.func29 rfl rfl rfl rfl ?_
  generalize hk : rawN l s g = q
  rw [rawN] at hk
  repeat ((conv => whnf); first | refine Cd.go ?_ | refine ⟨rfl, ?_⟩ | refine rq_dec ⟨.inl rfl, rfl⟩ ?_ | refine rq_dec rfl ?_ | refine ⟨Nat.le_of_ble_eq_true rfl, ?_⟩ | refine ⟨.inl rfl, ?_⟩ | refine ⟨fun _ => ⟨rfl, Nat.le_of_ble_eq_true rfl⟩, ?_⟩ | refine ⟨fun _ => Nat.le_of_ble_eq_true rfl, ?_⟩ | refine ⟨fun h => Bool.noConfusion h, ?_⟩ | refine .inl ⟨_, fun _ => ⟨purA rfl, (by first | exact ok111 l t hl | exact ok112 g t3 hg)⟩, .inl rfl, ?_⟩)
  conv => whnf
  refine cq_intro (fun b1 => ?_) (fun b1 => ?_) <;> try simp only [Bool.cond_true_left, Bool.cond_false_right, Bool.not_eq_true', Bool.not_eq_false', Bool.not_not] at b1
  · have b1 : (!locF l || !grF g) = true := by revert b1; cases locF l <;> cases grF g <;> simp
    rw [b1, cond_true] at hk
    subst hk
    repeat ((conv => whnf); first | refine Cd.go ?_ | refine ⟨rfl, ?_⟩ | refine rq_dec ⟨.inl rfl, rfl⟩ ?_ | refine rq_dec rfl ?_ | refine ⟨Nat.le_of_ble_eq_true rfl, ?_⟩ | refine ⟨.inl rfl, ?_⟩ | refine ⟨fun _ => ⟨rfl, Nat.le_of_ble_eq_true rfl⟩, ?_⟩ | refine ⟨fun _ => Nat.le_of_ble_eq_true rfl, ?_⟩ | refine ⟨fun h => Bool.noConfusion h, ?_⟩)
    conv => whnf
    refine ⟨[], trivial, rfl, trivial, rfl, ?_⟩
    try subst hk
    repeat' (first | exact trivial | rfl | exact .inl rfl | exact .inr rfl | exact id | exact (fun h => Bool.noConfusion h) | refine And.intro ?_ ?_)
  have b1' : (!locF l || !grF g) = false := by revert b1; cases locF l <;> cases grF g <;> simp
  rw [b1', cond_false] at hk
  simp only [Bool.or_eq_false_iff, Bool.not_eq_false'] at b1'
  obtain ⟨h1, h2⟩ := b1'
  have g1 := grF_len h2
  have l1 := locF_len h1
  clear b1
  repeat ((conv => whnf); first | refine Cd.go ?_ | refine ⟨rfl, ?_⟩ | refine rq_dec ⟨.inl rfl, rfl⟩ ?_ | refine rq_dec rfl ?_ | refine ⟨Nat.le_of_ble_eq_true rfl, ?_⟩ | refine ⟨.inl rfl, ?_⟩ | refine ⟨fun _ => ⟨rfl, Nat.le_of_ble_eq_true rfl⟩, ?_⟩ | refine ⟨fun _ => Nat.le_of_ble_eq_true rfl, ?_⟩ | refine ⟨fun h => Bool.noConfusion h, ?_⟩)
  conv => whnf
  refine ⟨Nat, fun i => i ≤ g.length ∧ noneBad (chgB g) i = true, fun i => ⟨[(0, ⟨[], true, .lst 2 t (rowsP l)⟩), (1, ⟨[], true, .lst 1 t2 (rowsI s)⟩), (2, ⟨[], true, .lst 3 t3 (rowsG g)⟩), (6, ⟨[], true, .ptr 0 0 0⟩), (8, ⟨[], true, .int .i64 (i : Int)⟩)], [(0, nb)], 1⟩, fun i => g.length - i, ⟨0, ⟨by simp, rfl⟩, ?_⟩, fun i hp => ?_⟩
  · refine viewI [some 0] rfl rfl ?_ rfl ?_ rfl ?_
    repeat' (first | exact trivial | rfl | exact .inl rfl | exact .inr rfl | exact id | exact (fun h => Bool.noConfusion h) | refine And.intro ?_ ?_)
  obtain ⟨hp1, hp2⟩ := hp
  dsimp only at hp1 hp2 ⊢
  repeat ((conv => whnf); first | refine Cd.go ?_ | refine ⟨rfl, ?_⟩ | refine rq_dec ⟨.inl rfl, rfl⟩ ?_ | refine rq_dec rfl ?_ | refine ⟨Nat.le_of_ble_eq_true rfl, ?_⟩ | refine ⟨.inl rfl, ?_⟩ | refine ⟨fun _ => ⟨rfl, Nat.le_of_ble_eq_true rfl⟩, ?_⟩ | refine ⟨fun _ => Nat.le_of_ble_eq_true rfl, ?_⟩ | refine ⟨fun h => Bool.noConfusion h, ?_⟩)
  conv => whnf
  rw [rowsG_len]
  refine cq_intro (fun b2 => ?_) (fun b2 => ?_) <;> try simp only [Bool.cond_true_left, Bool.cond_false_right, Bool.not_eq_true', Bool.not_eq_false', Bool.not_not] at b2
  · have b2 : i < g.length := by simp at b2; omega
    repeat ((conv => whnf); first | refine Cd.go ?_ | refine ⟨rfl, ?_⟩ | refine rq_dec ⟨.inl rfl, rfl⟩ ?_ | refine rq_dec rfl ?_ | refine ⟨Nat.le_of_ble_eq_true rfl, ?_⟩ | refine ⟨.inl rfl, ?_⟩ | refine ⟨fun _ => ⟨rfl, Nat.le_of_ble_eq_true rfl⟩, ?_⟩ | refine ⟨fun _ => Nat.le_of_ble_eq_true rfl, ?_⟩ | refine ⟨fun h => Bool.noConfusion h, ?_⟩)
    conv => whnf
    first | refine rq_dec (⟨rfl, by omega, by rw [rowsG_len]; omega⟩) ?_ | refine gq_dec (fun _ => ⟨rfl, by omega, by rw [rowsG_len]; omega⟩) ?_ | refine ⟨fun _ => ⟨rfl, by omega, by rw [rowsG_len]; omega⟩, ?_⟩
    rw [rowsG_getK g i b2]
    have hbd : chgB g i = ((g.getD i g0).chg != 0) := rfl
    generalize g.getD i g0 = f at hbd
    repeat ((conv => whnf); first | refine Cd.go ?_ | refine ⟨rfl, ?_⟩ | refine rq_dec ⟨.inl rfl, rfl⟩ ?_ | refine rq_dec rfl ?_ | refine ⟨Nat.le_of_ble_eq_true rfl, ?_⟩ | refine ⟨.inl rfl, ?_⟩ | refine ⟨fun _ => ⟨rfl, Nat.le_of_ble_eq_true rfl⟩, ?_⟩ | refine ⟨fun _ => Nat.le_of_ble_eq_true rfl, ?_⟩ | refine ⟨fun h => Bool.noConfusion h, ?_⟩)
    conv => whnf
    refine cq_intro (fun b3 => ?_) (fun b3 => ?_) <;> try simp only [Bool.cond_true_left, Bool.cond_false_right, Bool.not_eq_true', Bool.not_eq_false', Bool.not_not] at b3
    · have b3 : chgB g i = true := by rw [hbd, ← b3]
      rw [show chg0 g = false from noneBad_bad b2 b3] at hk
      have hk : (raw0, (1 : Int)) = q := hk
      subst hk
      repeat ((conv => whnf); first | refine Cd.go ?_ | refine ⟨rfl, ?_⟩ | refine rq_dec ⟨.inl rfl, rfl⟩ ?_ | refine rq_dec rfl ?_ | refine ⟨Nat.le_of_ble_eq_true rfl, ?_⟩ | refine ⟨.inl rfl, ?_⟩ | refine ⟨fun _ => ⟨rfl, Nat.le_of_ble_eq_true rfl⟩, ?_⟩ | refine ⟨fun _ => Nat.le_of_ble_eq_true rfl, ?_⟩ | refine ⟨fun h => Bool.noConfusion h, ?_⟩)
      conv => whnf
      refine ⟨[], trivial, rfl, trivial, rfl, ?_⟩
      try subst hk
      repeat' (first | exact trivial | rfl | exact .inl rfl | exact .inr rfl | exact id | exact (fun h => Bool.noConfusion h) | refine And.intro ?_ ?_)
    have b3 : chgB g i = false := by rw [hbd, ← b3]
    repeat ((conv => whnf); first | refine Cd.go ?_ | refine ⟨rfl, ?_⟩ | refine rq_dec ⟨.inl rfl, rfl⟩ ?_ | refine rq_dec rfl ?_ | refine ⟨Nat.le_of_ble_eq_true rfl, ?_⟩ | refine ⟨.inl rfl, ?_⟩ | refine ⟨fun _ => ⟨rfl, Nat.le_of_ble_eq_true rfl⟩, ?_⟩ | refine ⟨fun _ => Nat.le_of_ble_eq_true rfl, ?_⟩ | refine ⟨fun h => Bool.noConfusion h, ?_⟩)
    conv => whnf
    rw [wrapS (by omega)]
    refine ⟨i + 1, ⟨by show i + 1 ≤ _; omega, by show noneBad (chgB g) (i + 1) = true; simp only [noneBad, hp2, b3]; rfl⟩, ?_, by show g.length - (i + 1) < g.length - i; omega⟩
    refine viewI [some 0] rfl rfl ?_ rfl ?_ rfl ?_
    repeat' (first | exact trivial | rfl | exact .inl rfl | exact .inr rfl | exact id | exact (fun h => Bool.noConfusion h) | refine And.intro ?_ ?_)
  have b2 : i = g.length := by simp at b2; omega
  subst b2
  rw [show chg0 g = true from hp2] at hk
  have hk : (bif (newF s).2 != 0 then (raw0, (newF s).2) else (rawC l (newF s).1 g, 0)) = q := hk
  repeat ((conv => whnf); first | refine Cd.go ?_ | refine ⟨rfl, ?_⟩ | refine rq_dec ⟨.inl rfl, rfl⟩ ?_ | refine rq_dec rfl ?_ | refine ⟨Nat.le_of_ble_eq_true rfl, ?_⟩ | refine ⟨.inl rfl, ?_⟩ | refine ⟨fun _ => ⟨rfl, Nat.le_of_ble_eq_true rfl⟩, ?_⟩ | refine ⟨fun _ => Nat.le_of_ble_eq_true rfl, ?_⟩ | refine ⟨fun h => Bool.noConfusion h, ?_⟩ | refine .inl ⟨_, fun _ => ⟨purA rfl, (by first | exact ok113 s t2 hs)⟩, .inl rfl, ?_⟩)
  conv => whnf
  refine cq_intro (fun b4 => ?_) (fun b4 => ?_) <;> try simp only [Bool.cond_true_left, Bool.cond_false_right, Bool.not_eq_true', Bool.not_eq_false', Bool.not_not] at b4
  · have b4 : ((newF s).2 != 0) = true := by rw [← b4]
    rw [b4, cond_true] at hk
    subst hk
    repeat ((conv => whnf); first | refine Cd.go ?_ | refine ⟨rfl, ?_⟩ | refine rq_dec ⟨.inl rfl, rfl⟩ ?_ | refine rq_dec rfl ?_ | refine ⟨Nat.le_of_ble_eq_true rfl, ?_⟩ | refine ⟨.inl rfl, ?_⟩ | refine ⟨fun _ => ⟨rfl, Nat.le_of_ble_eq_true rfl⟩, ?_⟩ | refine ⟨fun _ => Nat.le_of_ble_eq_true rfl, ?_⟩ | refine ⟨fun h => Bool.noConfusion h, ?_⟩)
    conv => whnf
    refine ⟨[], trivial, rfl, trivial, rfl, ?_⟩
    try subst hk
    repeat' (first | exact trivial | rfl | exact .inl rfl | exact .inr rfl | exact id | exact (fun h => Bool.noConfusion h) | refine And.intro ?_ ?_)
  have b4 : ((newF s).2 != 0) = false := by rw [← b4]
  rw [b4, cond_false] at hk
  subst hk
  have hz := newF_new (s := s) (by simpa using b4)
  generalize (newF s).1 = z at hz ⊢
  obtain ⟨n1, n2⟩ := hz.num
  repeat ((conv => whnf); first | refine Cd.go ?_ | refine ⟨rfl, ?_⟩ | refine rq_dec ⟨.inl rfl, rfl⟩ ?_ | refine rq_dec rfl ?_ | refine ⟨Nat.le_of_ble_eq_true rfl, ?_⟩ | refine ⟨.inl rfl, ?_⟩ | refine ⟨fun _ => ⟨rfl, Nat.le_of_ble_eq_true rfl⟩, ?_⟩ | refine ⟨fun _ => Nat.le_of_ble_eq_true rfl, ?_⟩ | refine ⟨fun h => Bool.noConfusion h, ?_⟩)
  conv => whnf
  first | refine rq_app (by rw [rowsG_len]; omega) (by rw [rowsG_len]; omega) ?_ | refine rq_dec ⟨by rw [rowsG_len]; omega, by rw [rowsG_len]; omega⟩ ?_ | refine ⟨by rw [rowsG_len]; omega, by rw [rowsG_len]; omega, ?_⟩
  repeat ((conv => whnf); first | refine Cd.go ?_ | refine ⟨rfl, ?_⟩ | refine rq_dec ⟨.inl rfl, rfl⟩ ?_ | refine rq_dec rfl ?_ | refine ⟨Nat.le_of_ble_eq_true rfl, ?_⟩ | refine ⟨.inl rfl, ?_⟩ | refine ⟨fun _ => ⟨rfl, Nat.le_of_ble_eq_true rfl⟩, ?_⟩ | refine ⟨fun _ => Nat.le_of_ble_eq_true rfl, ?_⟩ | refine ⟨fun h => Bool.noConfusion h, ?_⟩)
  conv => whnf
  rw [rowsG_len]
  first | refine rq_mk (by omega) (by omega) (by omega) (by omega) ?_ | refine rq_dec ⟨by omega, by omega, by omega, by omega⟩ ?_ | refine ⟨by omega, by omega, by omega, by omega, ?_⟩
  repeat ((conv => whnf); first | refine Cd.go ?_ | refine ⟨rfl, ?_⟩ | refine rq_dec ⟨.inl rfl, rfl⟩ ?_ | refine rq_dec rfl ?_ | refine ⟨Nat.le_of_ble_eq_true rfl, ?_⟩ | refine ⟨.inl rfl, ?_⟩ | refine ⟨fun _ => ⟨rfl, Nat.le_of_ble_eq_true rfl⟩, ?_⟩ | refine ⟨fun _ => Nat.le_of_ble_eq_true rfl, ?_⟩ | refine ⟨fun h => Bool.noConfusion h, ?_⟩)
  conv => whnf
  rw [rowsG_len]
  first | refine rq_mk (by omega) (by omega) (by omega) (by omega) ?_ | refine rq_dec ⟨by omega, by omega, by omega, by omega⟩ ?_ | refine ⟨by omega, by omega, by omega, by omega, ?_⟩
  repeat ((conv => whnf); first | refine Cd.go ?_ | refine ⟨rfl, ?_⟩ | refine rq_dec ⟨.inl rfl, rfl⟩ ?_ | refine rq_dec rfl ?_ | refine ⟨Nat.le_of_ble_eq_true rfl, ?_⟩ | refine ⟨.inl rfl, ?_⟩ | refine ⟨fun _ => ⟨rfl, Nat.le_of_ble_eq_true rfl⟩, ?_⟩ | refine ⟨fun _ => Nat.le_of_ble_eq_true rfl, ?_⟩ | refine ⟨fun h => Bool.noConfusion h, ?_⟩)
  conv => whnf
  refine ⟨Nat, fun i => i ≤ l.length, fun i => ⟨[(0, ⟨[], true, .lst 2 t (rowsP l)⟩), (6, ⟨[], true, .ptr 0 0 0⟩), (9, ⟨[], true, .lst 6 false (rowsZ z)⟩), (11, ⟨[], true, .ptr 1 0 0⟩), (12, ⟨[], true, .int .i64 (i : Int)⟩)],
    [(0, nb), (1, .box [.sl 2 0 i, nilV, .lst 6 false (rowsZ z), .lst 3 false (rowsG g), .lst 3 false (List.replicate g.length [nilV, nilV, nilV]), .lst 1 false (List.replicate g.length [.int .i64 0]), nilV]), (2, .row 15 ((l.take i).map nilF))], 3⟩, fun i => l.length - i, ⟨0, Nat.zero_le _, ?_⟩, fun i hI => ?_⟩
  · refine viewI [some 0, some ?k105_1, none] rfl rfl ?h3_105 ?h4_105 ?h5_105 ?h6_105 ?h7_105
    case' h7_105 => repeat' (first | exact trivial | rfl | exact .inl rfl | exact .inr rfl | exact id | exact (fun h => Bool.noConfusion h) | refine And.intro ?_ ?_)
    case' h4_105 => rfl
    case' h6_105 => rfl
    case' h3_105 => repeat' (first | exact trivial | rfl | exact .inl rfl | exact .inr rfl | exact id | exact (fun h => Bool.noConfusion h) | refine And.intro ?_ ?_)
    case' h5_105 => repeat' (first | exact trivial | rfl | exact .inl rfl | exact .inr rfl | exact id | exact (fun h => Bool.noConfusion h) | refine And.intro ?_ ?_)
    · rw [rowsG_len]; omega
    · exact takeAll rfl (rowsG_len g)
    · simp
    · exact takeAll rfl (by simp)
    · simp
    · exact takeAll (by simp [rowsG_len]) (by simp)
  dsimp only at hI ⊢
  have hlen : ((l.take i).map nilF).length = i := by rw [List.length_map, List.length_take]; omega
  repeat ((conv => whnf); first | refine Cd.go ?_ | refine ⟨rfl, ?_⟩ | refine rq_dec ⟨.inl rfl, rfl⟩ ?_ | refine rq_dec rfl ?_ | refine ⟨Nat.le_of_ble_eq_true rfl, ?_⟩ | refine ⟨.inl rfl, ?_⟩ | refine ⟨fun _ => ⟨rfl, Nat.le_of_ble_eq_true rfl⟩, ?_⟩ | refine ⟨fun _ => Nat.le_of_ble_eq_true rfl, ?_⟩ | refine ⟨fun h => Bool.noConfusion h, ?_⟩)
  conv => whnf
  rw [rowsP_len]
  refine cq_intro (fun b5 => ?_) (fun b5 => ?_) <;> try simp only [Bool.cond_true_left, Bool.cond_false_right, Bool.not_eq_true', Bool.not_eq_false', Bool.not_not] at b5
  · have b5 : i < l.length := by simp at b5; omega
    repeat ((conv => whnf); first | refine Cd.go ?_ | refine ⟨rfl, ?_⟩ | refine rq_dec ⟨.inl rfl, rfl⟩ ?_ | refine rq_dec rfl ?_ | refine ⟨Nat.le_of_ble_eq_true rfl, ?_⟩ | refine ⟨.inl rfl, ?_⟩ | refine ⟨fun _ => ⟨rfl, Nat.le_of_ble_eq_true rfl⟩, ?_⟩ | refine ⟨fun _ => Nat.le_of_ble_eq_true rfl, ?_⟩ | refine ⟨fun h => Bool.noConfusion h, ?_⟩)
    conv => whnf
    first | refine rq_dec (⟨rfl, by omega, by rw [rowsP_len]; omega⟩) ?_ | refine gq_dec (fun _ => ⟨rfl, by omega, by rw [rowsP_len]; omega⟩) ?_ | refine ⟨fun _ => ⟨rfl, by omega, by rw [rowsP_len]; omega⟩, ?_⟩
    rw [rowsP_getK l i b5]
    have ht := takeS (0, 0) b5
    generalize l.getD i (0, 0) = f at ht
    repeat ((conv => whnf); first | refine Cd.go ?_ | refine ⟨rfl, ?_⟩ | refine rq_dec ⟨.inl rfl, rfl⟩ ?_ | refine rq_dec rfl ?_ | refine ⟨Nat.le_of_ble_eq_true rfl, ?_⟩ | refine ⟨.inl rfl, ?_⟩ | refine ⟨fun _ => ⟨rfl, Nat.le_of_ble_eq_true rfl⟩, ?_⟩ | refine ⟨fun _ => Nat.le_of_ble_eq_true rfl, ?_⟩ | refine ⟨fun h => Bool.noConfusion h, ?_⟩)
    conv => whnf
    refine ⟨hlen.symm, by rw [hlen]; show ((i + 1 : Nat) : Int) ≤ _; omega, by rw [hlen]; show (i + 1) * 136 ≤ _; omega, ?_⟩
    repeat ((conv => whnf); first | refine Cd.go ?_ | refine ⟨rfl, ?_⟩ | refine rq_dec ⟨.inl rfl, rfl⟩ ?_ | refine rq_dec rfl ?_ | refine ⟨Nat.le_of_ble_eq_true rfl, ?_⟩ | refine ⟨.inl rfl, ?_⟩ | refine ⟨fun _ => ⟨rfl, Nat.le_of_ble_eq_true rfl⟩, ?_⟩ | refine ⟨fun _ => Nat.le_of_ble_eq_true rfl, ?_⟩ | refine ⟨fun h => Bool.noConfusion h, ?_⟩)
    conv => whnf
    rw [wrapS (by omega)]
    refine ⟨i + 1, by show i + 1 ≤ _; omega, ?_, by show l.length - (i + 1) < l.length - i; omega⟩
    dsimp only
    rw [ht]
    refine viewI [some 0, some 1, some 16512] rfl rfl ?_ rfl ?_ rfl ?_
    repeat' (first | exact trivial | rfl | exact .inl rfl | exact .inr rfl | exact id | exact (fun h => Bool.noConfusion h) | refine And.intro ?_ ?_)
    · show ((l.take i).map nilF).length + 1 = _
      rw [hlen]
    · exact nilF_snoc _ f
  have b5 : i = l.length := by simp at b5; omega
  subst b5
  rw [List.take_length] at hlen ⊢
  repeat ((conv => whnf); first | refine Cd.go ?_ | refine ⟨rfl, ?_⟩ | refine rq_dec ⟨.inl rfl, rfl⟩ ?_ | refine rq_dec rfl ?_ | refine ⟨Nat.le_of_ble_eq_true rfl, ?_⟩ | refine ⟨.inl rfl, ?_⟩ | refine ⟨fun _ => ⟨rfl, Nat.le_of_ble_eq_true rfl⟩, ?_⟩ | refine ⟨fun _ => Nat.le_of_ble_eq_true rfl, ?_⟩ | refine ⟨fun h => Bool.noConfusion h, ?_⟩)
  conv => whnf
  generalize hn : (szF z).toNat = n
  have hn' : szF z = (n : Int) := by omega
  refine ⟨Nat, fun i => i ≤ n, fun i => ⟨[(6, ⟨[], true, .ptr 0 0 0⟩), (9, ⟨[], true, .lst 6 false (rowsZ z)⟩), (11, ⟨[], true, .ptr 1 0 0⟩), (13, ⟨[], true, .int .i64 (i : Int)⟩)],
    [(0, nb), (1, .box [.lst 15 false (l.map nilF), .sl 2 0 i, .lst 6 false (rowsZ z), .lst 3 false (rowsG g), .lst 3 false (List.replicate g.length [nilV, nilV, nilV]), .lst 1 false (List.replicate g.length [.int .i64 0]), nilV]), (2, .row 9 (rowsR (List.replicate i fre)))], 3⟩, fun i => n - i, ⟨0, Nat.zero_le _, ?_⟩, fun i hI => ?_⟩
  · refine viewI [some 0, some 1, none] rfl rfl ?_ rfl ?_ rfl ?_
    repeat' (first | exact trivial | rfl | exact .inl rfl | exact .inr rfl | exact id | exact (fun h => Bool.noConfusion h) | refine And.intro ?_ ?_)
    · omega
    · exact takeAll rfl hlen
  dsimp only at hI ⊢
  have hlen2 : (rowsR (List.replicate i fre)).length = i := by rw [rowsR_len, rep_len]
  repeat ((conv => whnf); first | refine Cd.go ?_ | refine ⟨rfl, ?_⟩ | refine rq_dec ⟨.inl rfl, rfl⟩ ?_ | refine rq_dec rfl ?_ | refine ⟨Nat.le_of_ble_eq_true rfl, ?_⟩ | refine ⟨.inl rfl, ?_⟩ | refine ⟨fun _ => ⟨rfl, Nat.le_of_ble_eq_true rfl⟩, ?_⟩ | refine ⟨fun _ => Nat.le_of_ble_eq_true rfl, ?_⟩ | refine ⟨fun h => Bool.noConfusion h, ?_⟩ | refine .inl ⟨_, fun _ => ⟨purA rfl, (by first | exact ok114 z false (check_small hz.chk))⟩, .inl rfl, ?_⟩)
  conv => whnf
  rw [hz.free, hn']
  refine cq_intro (fun b6 => ?_) (fun b6 => ?_) <;> try simp only [Bool.cond_true_left, Bool.cond_false_right, Bool.not_eq_true', Bool.not_eq_false', Bool.not_not] at b6
  · have b6 : i < n := by simp at b6; omega
    repeat ((conv => whnf); first | refine Cd.go ?_ | refine ⟨rfl, ?_⟩ | refine rq_dec ⟨.inl rfl, rfl⟩ ?_ | refine rq_dec rfl ?_ | refine ⟨Nat.le_of_ble_eq_true rfl, ?_⟩ | refine ⟨.inl rfl, ?_⟩ | refine ⟨fun _ => ⟨rfl, Nat.le_of_ble_eq_true rfl⟩, ?_⟩ | refine ⟨fun _ => Nat.le_of_ble_eq_true rfl, ?_⟩ | refine ⟨fun h => Bool.noConfusion h, ?_⟩)
    conv => whnf
    refine rq_dec hlen2.symm (rq_app (by rw [hlen2]; show ((i + 1 : Nat) : Int) ≤ _; omega) (by rw [hlen2]; show (i + 1) * 80 ≤ _; omega) ?_)
    repeat ((conv => whnf); first | refine Cd.go ?_ | refine ⟨rfl, ?_⟩ | refine rq_dec ⟨.inl rfl, rfl⟩ ?_ | refine rq_dec rfl ?_ | refine ⟨Nat.le_of_ble_eq_true rfl, ?_⟩ | refine ⟨.inl rfl, ?_⟩ | refine ⟨fun _ => ⟨rfl, Nat.le_of_ble_eq_true rfl⟩, ?_⟩ | refine ⟨fun _ => Nat.le_of_ble_eq_true rfl, ?_⟩ | refine ⟨fun h => Bool.noConfusion h, ?_⟩)
    conv => whnf
    rw [wrapS (by omega)]
    refine ⟨i + 1, by show i + 1 ≤ _; omega, ?_, by show n - (i + 1) < n - i; omega⟩
    dsimp only
    rw [← fre_snoc]
    refine viewI [some 0, some 1, some 4] rfl rfl ?_ rfl ?_ rfl ?_
    repeat' (first | exact trivial | rfl | exact .inl rfl | exact .inr rfl | exact id | exact (fun h => Bool.noConfusion h) | refine And.intro ?_ ?_)
    show (rowsR (List.replicate i fre)).length + 1 = _
    rw [hlen2]
  have b6 : i = n := by simp at b6; omega
  subst b6
  repeat ((conv => whnf); first | refine Cd.go ?_ | refine ⟨rfl, ?_⟩ | refine rq_dec ⟨.inl rfl, rfl⟩ ?_ | refine rq_dec rfl ?_ | refine ⟨Nat.le_of_ble_eq_true rfl, ?_⟩ | refine ⟨.inl rfl, ?_⟩ | refine ⟨fun _ => ⟨rfl, Nat.le_of_ble_eq_true rfl⟩, ?_⟩ | refine ⟨fun _ => Nat.le_of_ble_eq_true rfl, ?_⟩ | refine ⟨fun h => Bool.noConfusion h, ?_⟩)
  conv => whnf
  refine ⟨[], trivial, rfl, trivial, rfl, ?_⟩
  try subst hk
  repeat' (first | exact trivial | rfl | exact .inl rfl | exact .inr rfl | exact id | exact (fun h => Bool.noConfusion h) | refine And.intro ?_ ?_)
  · omega
  · exact takeAll (by rw [hn]) hlen2
end Go.Proofs.YtmhapcbjjpadnaaGreat

