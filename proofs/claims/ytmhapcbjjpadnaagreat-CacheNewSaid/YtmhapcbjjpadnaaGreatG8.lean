/- Caches. -/
import Derived.Test.YtmhapcbjjpadnaaGreatG7
import Derived.Test.YtmhapcbjjpadnaaGreatG5
set_option linter.unusedSimpArgs false
set_option linter.unusedVariables false
set_option maxRecDepth 40000
namespace Go.Proofs.YtmhapcbjjpadnaaGreat
open Go Go.Sk Go.RowKit

def lastA (l : Ls) : Int := l.A.getD (l.A.length - 1) 0
def restA (l : Ls) : List Int := l.A.take (l.A.length - 1)
def balS (l : Ls) : Ls := bif decide (lastA l ∈ l.R) then ⟨lastA l :: restA l, l.I, wo l.R (lastA l)⟩ else ⟨restA l, lastA l :: l.I, l.R⟩
def balN : Nat → Ls → Ls
  | 0, l => l
  | n + 1, l => bif decide ((l.A.length : Int) ≤ (l.I.length : Int)) then l else balN n (balS l)
def balF (l : Ls) : Ls := bif !chkL l then l else balN l.A.length l
end Go.Proofs.YtmhapcbjjpadnaaGreat

set_option maxRecDepth 40000
namespace Go.Proofs.YtmhapcbjjpadnaaGreat
open Go Go.Sk Go.RowKit

structure ScS where
  I : List Int
  R : List Int
  v : List Int
def scanS (R0 held : List Int) (s : ScS) (f : Int) : ScS :=
  bif decide (f ∈ held) then s else bif decide (f ∈ R0) then ⟨f :: wo s.I f, wo s.R f, s.v⟩ else ⟨s.I, s.R, s.v ++ [f]⟩
def scanG (R0 held : List Int) (n : Int) : List Int → ScS → ScS
  | [], s => s
  | f :: r, s => bif decide ((s.v.length : Int) < n) then scanG R0 held n r (scanS R0 held s f) else s
def scanF (l : Ls) (n : Int) (held : List Int) : Ls × List Int :=
  bif !chkL l then (l, []) else
  (⟨l.A, (scanG l.R held n l.I.reverse ⟨l.I, l.R, []⟩).I, (scanG l.R held n l.I.reverse ⟨l.I, l.R, []⟩).R⟩, (scanG l.R held n l.I.reverse ⟨l.I, l.R, []⟩).v)
/-- How much a scan may have grown things. -/
structure ScB (l : Ls) (k : Nat) (s : ScS) : Prop where
  kk : k ≤ l.I.length
  i : s.I.length + k ≤ l.I.length + l.I.length
  r : s.R.length ≤ l.R.length
  v : s.v.length + k ≤ l.I.length
/-- What is left to scan is referenced just as it was at first. -/
def ScR (l : Ls) (k : Nat) (s : ScS) : Prop := ∀ (j : Nat) (h : j < l.I.length), j < k → (l.I[j] ∈ s.R ↔ l.I[j] ∈ l.R)
end Go.Proofs.YtmhapcbjjpadnaaGreat

set_option maxRecDepth 40000
namespace Go.Proofs.YtmhapcbjjpadnaaGreat
open Go Go.Sk Go.RowKit Go.Shelf

theorem setCells_at (b : Nat) (ty : TypeId) : ∀ (vs : List Value) (o : Nat) (w : World) (arr : Array Value), w.heap[b]? = some (.cells arr ty (0, 0)) →
    (w.setCells b o vs).heap[b]? = some (.cells (wrote arr o vs) ty (0, 0)) ∧ (w.setCells b o vs).heap.size = w.heap.size ∧ ∀ j, j ≠ b → (w.setCells b o vs).heap[j]? = w.heap[j]?
  | [], _, _, _, h => ⟨h, rfl, fun _ _ => rfl⟩
  | v :: r, o, w, arr, h => by
    have hs : (w.setCell ⟨b, o, none⟩ v).heap[b]? = some (.cells (arr.setIfInBounds o v) ty (0, 0)) := by
      unfold World.setCell
      dsimp only
      rw [Array.getElem?_modify, if_pos rfl, h]
      rfl
    have hz : (w.setCell ⟨b, o, none⟩ v).heap.size = w.heap.size := by unfold World.setCell; dsimp only; rw [Array.size_modify]
    have ho : ∀ j, j ≠ b → (w.setCell ⟨b, o, none⟩ v).heap[j]? = w.heap[j]? := fun j hj => by
      unfold World.setCell
      dsimp only
      rw [Array.getElem?_modify, if_neg (fun e => hj e.symm)]
    obtain ⟨h1, h2, h3⟩ := setCells_at b ty r (o + 1) _ _ hs
    exact ⟨h1, h2.trans hz, fun j hj => (h3 j hj).trans (ho j hj)⟩
theorem insVal_get (l : List Int) (i : Nat) (x : Int) (hi : i ≤ l.length) (arr : Array Value) (hsz : l.length + 1 ≤ arr.size) (ha : ∀ (j : Nat) (u : Value), (valI l)[j]? = some u → arr[j]? = some u) (j : Nat) (u : Value) (hj : (valI (insI l i x))[j]? = some u) :
    (wrote (wrote arr (i + 1) ((valI l).drop i)) i [.int .i64 x])[j]? = some u := by
  have hv : (valI l).length = l.length := by simp [valI]
  have hd : ((valI l).drop i).length = l.length - i := by rw [List.length_drop, hv]
  rw [wrote_get _ _ _ _ (by rw [wrote_size]; simp; omega), wrote_get _ _ _ _ (by rw [hd]; omega), hd]
  have hins : valI (insI l i x) = (valI l).take i ++ Value.int .i64 x :: (valI l).drop i := by simp [valI, insI]
  rw [hins, List.getElem?_append] at hj
  have ht : ((valI l).take i).length = i := by rw [List.length_take, hv]; omega
  rw [ht] at hj
  split at hj
  · rename_i hlt
    rw [if_neg (by simp; omega), if_neg (by omega)]
    rw [List.getElem?_take, if_pos hlt] at hj
    exact ha j u hj
  · rename_i hge
    by_cases he : j = i
    · subst he
      rw [if_pos (by simp)]
      simpa using hj
    · have hj' : ((valI l).drop i)[j - (i + 1)]? = some u := by
        rw [show j - i = (j - (i + 1)) + 1 by omega, List.getElem?_cons_succ] at hj; exact hj
      obtain ⟨hlt, -⟩ := List.getElem?_eq_some_iff.1 hj'
      rw [hd] at hlt
      rw [if_neg (by simp; omega), if_pos (by omega)]
      exact hj'
set_option maxRecDepth 20000 in
/-- slices.Insert where there is room: in place. -/
theorem ok287r (l : List Int) (i : Nat) (x : Int) (c : Nat) (hi : i ≤ l.length) (hc : l.length + 1 ≤ c) (hc2 : c ≤ 9223372036854775807) :
    FnC Tryz.prog 287 [.row 1 (rowsI l), .row 1 [[.int .i64 x]]] [.slk 0 0 l.length c, .int .i64 i, .sl 1 0 1] (.sl 0 0 (l.length + 1)) [.row 1 (rowsI (insI l i x)), .row 1 [[.int .i64 x]]] := by
  intro U σ w cargs hR hn hargs
  obtain ⟨c0, c1, c2, rfl⟩ : ∃ a b c, cargs = #[a, b, c] := by
    rcases cargs with ⟨L⟩
    match L, hn with
    | [a, b, c], _ => exact ⟨a, b, c, rfl⟩
  have a0 := hargs 0 _ c0 rfl rfl
  have a1 := hargs 1 _ c1 rfl rfl
  have a2 := hargs 2 _ c2 rfl rfl
  generalize hln : l.length = ln at a0 hc ⊢
  cases a0 with
  | slk0 h => omega
  | @slk _ _ _ _ _ b es cap a hs0 hle0 ha0 hcc =>
  subst hln
  cases a1 with
  | int =>
  cases a2 with
  | @sl _ _ _ _ vb es' vcap va hs hle ha =>
  rw [Nat.sub_zero] at hcc
  subst hcc
  have hob0 := hR.obj 0 (.row 1 (rowsI l)) rfl
  rw [hs0] at hob0
  obtain ⟨-, rfl, hcap0, arr0, ty0, hblk0, hasz0, hcells0⟩ := hob0
  have hob := hR.obj 1 (.row 1 [[.int .i64 x]]) rfl
  rw [hs] at hob
  obtain ⟨-, rfl, -, arr, ty, hblk, hasz, hcells⟩ := hob
  obtain ⟨xv, hx1, -, hx2⟩ := hcells 0 _ 0 _ rfl rfl
  cases hx2 with
  | int =>
  obtain rfl := ha (by omega)
  obtain rfl := ha0 (by omega)
  have hne : vb ≠ b := by
    rintro rfl
    have := hR.inj 0 1 _ _ vb _ _ _ _ rfl rfl hs0 hs
    cases this
  rw [Nat.mul_one] at hasz hasz0
  have hvs : ∀ (j : Nat) (v : Value), ([Value.int .i64 x])[j]? = some v → w.cell? ⟨vb, 0 * 1 + j, none⟩ = some v := fun j v hj => by
    cases j with
    | zero =>
      simp only [List.getElem?_cons_zero, Option.some.injEq] at hj
      subst hj
      rw [World.cell?, hblk]
      simpa using hx1
    | succ j => simp at hj
  have harr : ∀ (j : Nat) (u : Value), (valI l)[j]? = some u → arr0[j]? = some u := fun j u hj => by
    simp only [valI, List.getElem?_map, Option.map_eq_some_iff] at hj
    obtain ⟨y, hy, rfl⟩ := hj
    obtain ⟨v, q1, -, q3⟩ := hcells0 j [.int .i64 y] 0 (.int .i64 y) (by simp [rowsI, hy]) rfl
    cases q3
    simpa using q1
  have hcs : ∀ (j : Nat) (v : Value), (valI l)[j]? = some v → w.cell? ⟨b, 0 * 1 + j, none⟩ = some v := fun j v hj => by
    rw [World.cell?, hblk0]
    simpa using harr j v hj
  have hsp : ∀ j, j < l.length + 1 → (w.cell? ⟨b, 0 * 1 + j, none⟩).isSome = true := fun j hj => by
    rw [World.cell?, hblk0]
    simp only [Nat.zero_mul, Nat.zero_add]
    rw [Array.getElem?_eq_getElem (by omega)]; rfl
  have hfz : ∀ o, w.frozen? ⟨b, o, none⟩ = false := fun o => by
    rw [World.frozen?, hblk0]; simp [mkF]
  have hfv : ∀ o, w.frozen? ⟨vb, o, none⟩ = false := fun o => by
    rw [World.frozen?, hblk]; simp [mkF]
  have one : ∀ v ∈ valI l, v.oneCell' = true := fun v hv => by
    simp only [valI, List.mem_map] at hv; obtain ⟨y, -, rfl⟩ := hv; rfl
  have fin : ∀ (w' : World), w'.os = w.os → w'.tape = w.tape → w'.output = w.output → w'.heap.size = w.heap.size → (∀ j, j ≠ b → w'.heap[j]? = w.heap[j]?) → w'.heap[b]? = some (.cells (wrote (wrote arr0 (i + 1) ((valI l).drop i)) i [.int .i64 x]) ty0.1 (0, 0)) →
      ∃ cv σ', (Ending.returned (.slice (some ⟨b, 0 * 1, none⟩) (l.length + 1) c)) = .returned cv ∧ RelS U σ' (mkFrom 0 [.row 1 (rowsI (insI l i x)), .row 1 [[.int .i64 x]]]) w' 2 ∧ VR (Own U σ' (mkFrom 0 [.row 1 (rowsI (insI l i x)), .row 1 [[.int .i64 x]]])) w' σ' (.sl 0 0 (l.length + 1)) cv ∧
        Grow σ (mkFrom 0 [.row 1 (rowsI l), .row 1 [[.int .i64 x]]]) w 2 σ' (mkFrom 0 [.row 1 (rowsI (insI l i x)), .row 1 [[.int .i64 x]]]) w' 2 := fun w' e1 e2 e3 e4 e5 e6 => by
    obtain ⟨g, r⟩ := hR.write (k := 0) (o0 := .row 1 (rowsI l)) (o := .row 1 (rowsI (insI l i x))) rfl hs0 e1 e2 e3 e4 e5 (fun g => by
      refine ⟨fun y hy => ?_, rfl, ⟨by rw [rowsI_len, insI_len]; omega, hcap0.2⟩, _, ty0, e6, by rw [wrote_size, wrote_size]; omega, fun j y k u hy hu => ?_⟩
      · simp only [rowsI, List.mem_map] at hy; obtain ⟨z, -, rfl⟩ := hy; rfl
      · simp only [rowsI, List.getElem?_map, Option.map_eq_some_iff] at hy
        obtain ⟨z, hz, rfl⟩ := hy
        cases k with
        | succ k => simp at hu
        | zero =>
          simp only [List.getElem?_cons_zero, Option.some.injEq] at hu
          subst hu
          refine ⟨.int .i64 z, ?_, rfl, .int _ _⟩
          rw [Nat.mul_one, Nat.add_zero]
          exact insVal_get l i x hi arr0 (by omega) harr j _ (by simp [valI, hz]))
    exact ⟨_, σ, rfl, r, .sl hs0 (by omega) (fun _ => rfl), g⟩
  by_cases he : i = l.length
  · subst he
    refine (Any2.slices_Insert_int_end_room lays21 b (0 * 1) l.length c vb (0 * 1) 1 (vcap - 0) [.int .i64 x] w (by omega) (by omega) hc2 rfl (fun j hj => by rw [Nat.add_assoc]; exact hsp _ (by omega)) (fun j _ => hfz _) hvs (by simp [oneI])).mono ?_
    rintro e w' ⟨rfl, rfl⟩
    obtain ⟨h1, h2, h3⟩ := setCells_at b ty0.1 [.int .i64 x] (0 * 1 + l.length) w arr0 hblk0
    obtain ⟨o1, o2, o3⟩ := setCells_os b [.int .i64 x] (0 * 1 + l.length) w
    refine fin _ o1 o2 o3 h2 h3 ?_
    rw [h1, Nat.zero_mul, Nat.zero_add, List.drop_of_length_le (by simp [valI])]
    rfl
  · refine (Any2.slices_Insert_int_shift lays21 b (0 * 1) l.length c i vb (0 * 1) 1 (vcap - 0) (valI l) [.int .i64 x] w (by omega) (by omega) (by omega) hc2 hne (by simp [valI]) rfl hcs hsp (fun j _ => hfz _) hvs one (by simp [oneI]) ty.1 ty0.1 arr.size arr0.size
      (by rw [World.shape?, hblk]) (by rw [World.shape?, hblk0]) (by omega) (hfv _) (hfv _)).mono ?_
    rintro e w' ⟨rfl, rfl⟩
    have hb0 : w.drew.heap[b]? = some (.cells arr0 ty0.1 (0, 0)) := hblk0
    obtain ⟨h1, h2, h3⟩ := setCells_at b ty0.1 ((valI l).drop i) (0 * 1 + (i + 1)) w.drew arr0 hb0
    obtain ⟨o1, o2, o3⟩ := setCells_os b ((valI l).drop i) (0 * 1 + (i + 1)) w.drew
    obtain ⟨h1', h2', h3'⟩ := setCells_at b ty0.1 [.int .i64 x] (0 * 1 + i) _ _ h1
    obtain ⟨o1', o2', o3'⟩ := setCells_os b [.int .i64 x] (0 * 1 + i) (w.drew.setCells b (0 * 1 + (i + 1)) ((valI l).drop i))
    refine fin _ (o1'.trans o1) (o2'.trans o2) (o3'.trans o3) (h2'.trans h2) (fun j hj => (h3' j hj).trans (h3 j hj)) ?_
    rw [h1']
    simp only [Nat.zero_mul, Nat.zero_add]
end Go.Proofs.YtmhapcbjjpadnaaGreat

set_option maxRecDepth 40000
namespace Go.Proofs.YtmhapcbjjpadnaaGreat
open Go Go.Sk Go.RowKit

set_option maxRecDepth 20000 in
set_option maxHeartbeats 1000000 in
theorem ok201 (l : Ls) (f : Int) (hl : SmallL l) : FnC Tryz.prog 201 [] [.agg l.c, .int .i64 f] (.tup [.agg (touF l f).1.c, .int .i64 (touF l f).2]) [] := by
  have h1 := hl.a; have h2 := hl.i; have h3 := hl.r
  refine fn_okX (ob0 := []) [.v 35, .r 49] Tryz.func201 rfl rfl rfl rfl ?_
  generalize hk : touF l f = q
  rw [touF] at hk
  repeat ((conv => whnf); first | refine Cd.go ?_ | refine ⟨rfl, ?_⟩ | refine rq_dec ⟨.inl rfl, rfl⟩ ?_ | refine rq_dec rfl ?_ | refine ⟨Nat.le_of_ble_eq_true rfl, ?_⟩ | refine ⟨.inl rfl, ?_⟩ | refine ⟨fun _ => ⟨rfl, Nat.le_of_ble_eq_true rfl⟩, ?_⟩ | refine ⟨fun _ => Nat.le_of_ble_eq_true rfl, ?_⟩ | refine ⟨fun h => Bool.noConfusion h, ?_⟩)
  conv => whnf
  refine .inr ⟨fun _ => ⟨[], _, _, _, ok238t l hl, trivial, rfl, rfl, rfl, ?_⟩, (by intro h; cases h)⟩
  repeat ((conv => whnf); first | refine Cd.go ?_ | refine ⟨rfl, ?_⟩ | refine rq_dec ⟨.inl rfl, rfl⟩ ?_ | refine rq_dec rfl ?_ | refine ⟨Nat.le_of_ble_eq_true rfl, ?_⟩ | refine ⟨.inl rfl, ?_⟩ | refine ⟨fun _ => ⟨rfl, Nat.le_of_ble_eq_true rfl⟩, ?_⟩ | refine ⟨fun _ => Nat.le_of_ble_eq_true rfl, ?_⟩ | refine ⟨fun h => Bool.noConfusion h, ?_⟩ | refine .inl ⟨_, fun _ => ⟨purA rfl, (by first | exact ok239 l f hl)⟩, .inl rfl, ?_⟩)
  conv => whnf
  refine cq_intro (fun c1 => ?_) (fun c1 => ?_) <;> try simp only [Bool.cond_true_left, Bool.cond_false_right, Bool.not_eq_true', Bool.not_eq_false', Bool.not_not] at c1
  · rw [← wrong_split (fun e => (l, e)) _ c1] at hk
    subst hk
    repeat ((conv => whnf); first | refine Cd.go ?_ | refine ⟨rfl, ?_⟩ | refine rq_dec ⟨.inl rfl, rfl⟩ ?_ | refine rq_dec rfl ?_ | refine ⟨Nat.le_of_ble_eq_true rfl, ?_⟩ | refine ⟨.inl rfl, ?_⟩ | refine ⟨fun _ => ⟨rfl, Nat.le_of_ble_eq_true rfl⟩, ?_⟩ | refine ⟨fun _ => Nat.le_of_ble_eq_true rfl, ?_⟩ | refine ⟨fun h => Bool.noConfusion h, ?_⟩)
    conv => whnf
    refine ⟨[], trivial, rfl, trivial, rfl, ?_⟩
    try subst hk
    repeat' (first | exact trivial | rfl | exact .inl rfl | exact .inr rfl | exact id | exact (fun h => Bool.noConfusion h) | refine And.intro ?_ ?_)
    · show 0 + l.R.length ≤ _
      rw [rowsI_len]; omega
    · exact take0 (rowsI_len _)
  obtain ⟨e1, e2⟩ := wrong_ok c1
  have hP := (chk_iff' l).1 e1
  rw [e1, e2] at hk
  simp only [Bool.not_true, cond_false] at hk
  repeat ((conv => whnf); first | refine Cd.go ?_ | refine ⟨rfl, ?_⟩ | refine rq_dec ⟨.inl rfl, rfl⟩ ?_ | refine rq_dec rfl ?_ | refine ⟨Nat.le_of_ble_eq_true rfl, ?_⟩ | refine ⟨.inl rfl, ?_⟩ | refine ⟨fun _ => ⟨rfl, Nat.le_of_ble_eq_true rfl⟩, ?_⟩ | refine ⟨fun _ => Nat.le_of_ble_eq_true rfl, ?_⟩ | refine ⟨fun h => Bool.noConfusion h, ?_⟩ | refine .inl ⟨_, fun _ => ⟨purA rfl, (by first | exact ok240 l f hl)⟩, .inl rfl, ?_⟩)
  conv => whnf
  refine cq_intro (fun c2 => ?_) (fun c2 => ?_) <;> try simp only [Bool.cond_true_left, Bool.cond_false_right, Bool.not_eq_true', Bool.not_eq_false', Bool.not_not] at c2
  · rw [show (!hasL l f) = true by rw [c2]; rfl, cond_true] at hk
    subst hk
    repeat ((conv => whnf); first | refine Cd.go ?_ | refine ⟨rfl, ?_⟩ | refine rq_dec ⟨.inl rfl, rfl⟩ ?_ | refine rq_dec rfl ?_ | refine ⟨Nat.le_of_ble_eq_true rfl, ?_⟩ | refine ⟨.inl rfl, ?_⟩ | refine ⟨fun _ => ⟨rfl, Nat.le_of_ble_eq_true rfl⟩, ?_⟩ | refine ⟨fun _ => Nat.le_of_ble_eq_true rfl, ?_⟩ | refine ⟨fun h => Bool.noConfusion h, ?_⟩)
    conv => whnf
    refine ⟨[], trivial, rfl, trivial, rfl, ?_⟩
    try subst hk
    repeat' (first | exact trivial | rfl | exact .inl rfl | exact .inr rfl | exact id | exact (fun h => Bool.noConfusion h) | refine And.intro ?_ ?_)
    · show 0 + l.R.length ≤ _
      rw [rowsI_len]; omega
    · exact take0 (rowsI_len _)
  rw [show (!hasL l f) = false by rw [c2]; rfl, cond_false] at hk
  have key : FnC Tryz.prog 286 [] [.lst 1 false (((rowsI l.R).drop 0).take l.R.length), .int .i64 f] (.tup [.int .i64 (atI l.R f), .bool (hitI l.R f)]) [] := by rw [take0 (rowsI_len l.R)]; exact ok286 l.R false f (by omega) hP.asc
  have hhit := hit_iff hP.asc f
  have hat := atI_le l.R f
  repeat ((conv => whnf); first | refine Cd.go ?_ | refine ⟨rfl, ?_⟩ | refine rq_dec ⟨.inl rfl, rfl⟩ ?_ | refine rq_dec rfl ?_ | refine ⟨Nat.le_of_ble_eq_true rfl, ?_⟩ | refine ⟨.inl rfl, ?_⟩ | refine ⟨fun _ => ⟨rfl, Nat.le_of_ble_eq_true rfl⟩, ?_⟩ | refine ⟨fun _ => Nat.le_of_ble_eq_true rfl, ?_⟩ | refine ⟨fun h => Bool.noConfusion h, ?_⟩)
  conv => whnf
  refine .inl ⟨_, fun _ => ⟨?_, key⟩, .inr rfl, ?_⟩
  · intro v hv
    have hv : v ∈ [V.sl 2 0 l.R.length, V.int .i64 f] := hv
    rcases List.mem_cons.1 hv with rfl | hv
    · show 0 + l.R.length ≤ (rowsI l.R).length
      rw [rowsI_len]; omega
    · obtain rfl := List.mem_singleton.1 hv
      exact trivial
  repeat ((conv => whnf); first | refine Cd.go ?_ | refine ⟨rfl, ?_⟩ | refine rq_dec ⟨.inl rfl, rfl⟩ ?_ | refine rq_dec rfl ?_ | refine ⟨Nat.le_of_ble_eq_true rfl, ?_⟩ | refine ⟨.inl rfl, ?_⟩ | refine ⟨fun _ => ⟨rfl, Nat.le_of_ble_eq_true rfl⟩, ?_⟩ | refine ⟨fun _ => Nat.le_of_ble_eq_true rfl, ?_⟩ | refine ⟨fun h => Bool.noConfusion h, ?_⟩)
  conv => whnf
  refine cq_intro (fun c3 => ?_) (fun c3 => ?_) <;> try simp only [Bool.cond_true_left, Bool.cond_false_right, Bool.not_eq_true', Bool.not_eq_false', Bool.not_not] at c3
  · have c3 : f ∉ l.R := by rw [← hhit]; simpa using c3
    rw [show (!decide (f ∈ l.R)) = true by simpa using c3, cond_true] at hk
    repeat ((conv => whnf); first | refine Cd.go ?_ | refine ⟨rfl, ?_⟩ | refine rq_dec ⟨.inl rfl, rfl⟩ ?_ | refine rq_dec rfl ?_ | refine ⟨Nat.le_of_ble_eq_true rfl, ?_⟩ | refine ⟨.inl rfl, ?_⟩ | refine ⟨fun _ => ⟨rfl, Nat.le_of_ble_eq_true rfl⟩, ?_⟩ | refine ⟨fun _ => Nat.le_of_ble_eq_true rfl, ?_⟩ | refine ⟨fun h => Bool.noConfusion h, ?_⟩)
    conv => whnf
    refine ⟨Option Nat, fun | none => True | some c => l.R.length + 1 ≤ c ∧ c ≤ 9223372036854775807,
      fun | none => ⟨[(1, ⟨[], true, .int .i64 f⟩), (4, ⟨[], true, .ptr 0 0 0⟩), (6, ⟨[], true, .ptr 1 0 0⟩), (8, ⟨[], true, .int .i64 (atI l.R f : Int)⟩), (35, ⟨[], true, .lst 1 true (rowsI l.R)⟩)], [(0, .box [.lst 0 true [], .lst 0 true [], .lst 0 true []]), (1, .box [.lst 1 false (rowsI l.A), .lst 1 false (rowsI l.I), .lst 1 false (rowsI l.R)])], 2⟩
          | some c => ⟨[(1, ⟨[], true, .int .i64 f⟩), (4, ⟨[], true, .ptr 0 0 0⟩), (6, ⟨[], true, .ptr 1 0 0⟩), (8, ⟨[], true, .int .i64 (atI l.R f : Int)⟩), (35, ⟨[], true, .slk 2 0 l.R.length c⟩)], [(0, .box [.lst 0 true [], .lst 0 true [], .lst 0 true []]), (1, .box [.lst 1 false (rowsI l.A), .lst 1 false (rowsI l.I), .sl 2 0 l.R.length]), (2, .row 1 (rowsI l.R))], 3⟩, ?_, fun x hx => ?_⟩
    · repeat ((conv => whnf); first | refine Cd.go ?_ | refine ⟨rfl, ?_⟩ | refine rq_dec ⟨.inl rfl, rfl⟩ ?_ | refine rq_dec rfl ?_ | refine ⟨Nat.le_of_ble_eq_true rfl, ?_⟩ | refine ⟨.inl rfl, ?_⟩ | refine ⟨fun _ => ⟨rfl, Nat.le_of_ble_eq_true rfl⟩, ?_⟩ | refine ⟨fun _ => Nat.le_of_ble_eq_true rfl, ?_⟩ | refine ⟨fun h => Bool.noConfusion h, ?_⟩)
      conv => whnf
      intro c hc hc2
      by_cases hcn : c = l.R.length
      · subst hcn
        refine ⟨none, trivial, ?_⟩
        refine viewI [some 1, some 18] rfl rfl ?_ rfl ?_ rfl ?_
        repeat' (first | exact trivial | rfl | exact .inl rfl | exact .inr rfl | exact id | exact (fun h => Bool.noConfusion h) | refine And.intro ?_ ?_)
        · show 0 + l.R.length ≤ _
          rw [rowsI_len]; omega
        · exact take0 (rowsI_len _)
        · exact fun _ => rfl
        · show 0 + l.R.length ≤ _
          rw [rowsI_len]; omega
        · exact take0 (rowsI_len _)
      refine ⟨some c, ⟨by omega, hc2⟩, ?_⟩
      refine viewI [some 1, some 18, some 2] rfl rfl ?_ rfl ?_ rfl ?_
      repeat' (first | exact trivial | rfl | exact .inl rfl | exact .inr rfl | exact id | exact (fun h => Bool.noConfusion h) | refine And.intro ?_ ?_)
    cases x with
    | none =>
      repeat ((conv => whnf); first | refine Cd.go ?_ | refine ⟨rfl, ?_⟩ | refine rq_dec ⟨.inl rfl, rfl⟩ ?_ | refine rq_dec rfl ?_ | refine ⟨Nat.le_of_ble_eq_true rfl, ?_⟩ | refine ⟨.inl rfl, ?_⟩ | refine ⟨fun _ => ⟨rfl, Nat.le_of_ble_eq_true rfl⟩, ?_⟩ | refine ⟨fun _ => Nat.le_of_ble_eq_true rfl, ?_⟩ | refine ⟨fun h => Bool.noConfusion h, ?_⟩)
      conv => whnf
      refine .inr ⟨fun _ => ⟨[2], _, _, _, ok287 l.R (atI l.R f) f hat (by omega), ⟨rfl, trivial⟩, rfl, rfl, rfl, ?_⟩, (by intro h; cases h)⟩
      subst hk
      repeat ((conv => whnf); first | refine Cd.go ?_ | refine ⟨rfl, ?_⟩ | refine rq_dec ⟨.inl rfl, rfl⟩ ?_ | refine rq_dec rfl ?_ | refine ⟨Nat.le_of_ble_eq_true rfl, ?_⟩ | refine ⟨.inl rfl, ?_⟩ | refine ⟨fun _ => ⟨rfl, Nat.le_of_ble_eq_true rfl⟩, ?_⟩ | refine ⟨fun _ => Nat.le_of_ble_eq_true rfl, ?_⟩ | refine ⟨fun h => Bool.noConfusion h, ?_⟩)
      conv => whnf
      refine ⟨[], trivial, rfl, trivial, rfl, ?_⟩
      try subst hk
      repeat' (first | exact trivial | rfl | exact .inl rfl | exact .inr rfl | exact id | exact (fun h => Bool.noConfusion h) | refine And.intro ?_ ?_)
    | some c =>
      obtain ⟨x1, x2⟩ := hx
      repeat ((conv => whnf); first | refine Cd.go ?_ | refine ⟨rfl, ?_⟩ | refine rq_dec ⟨.inl rfl, rfl⟩ ?_ | refine rq_dec rfl ?_ | refine ⟨Nat.le_of_ble_eq_true rfl, ?_⟩ | refine ⟨.inl rfl, ?_⟩ | refine ⟨fun _ => ⟨rfl, Nat.le_of_ble_eq_true rfl⟩, ?_⟩ | refine ⟨fun _ => Nat.le_of_ble_eq_true rfl, ?_⟩ | refine ⟨fun h => Bool.noConfusion h, ?_⟩)
      conv => whnf
      refine .inr ⟨fun _ => ⟨[2, 3], _, _, _, ok287r l.R (atI l.R f) f c hat x1 x2, ⟨rfl, rfl, trivial⟩, rfl, rfl, rfl, ?_⟩, (by intro h; cases h)⟩
      subst hk
      repeat ((conv => whnf); first | refine Cd.go ?_ | refine ⟨rfl, ?_⟩ | refine rq_dec ⟨.inl rfl, rfl⟩ ?_ | refine rq_dec rfl ?_ | refine ⟨Nat.le_of_ble_eq_true rfl, ?_⟩ | refine ⟨.inl rfl, ?_⟩ | refine ⟨fun _ => ⟨rfl, Nat.le_of_ble_eq_true rfl⟩, ?_⟩ | refine ⟨fun _ => Nat.le_of_ble_eq_true rfl, ?_⟩ | refine ⟨fun h => Bool.noConfusion h, ?_⟩)
      conv => whnf
      refine ⟨[], trivial, rfl, trivial, rfl, ?_⟩
      try subst hk
      repeat' (first | exact trivial | rfl | exact .inl rfl | exact .inr rfl | exact id | exact (fun h => Bool.noConfusion h) | refine And.intro ?_ ?_)
      · show 0 + (l.R.length + 1) ≤ _
        rw [rowsI_len, insI_len]; omega
      · exact take0 (by rw [rowsI_len, insI_len])
  have c3 : f ∈ l.R := by rw [← hhit]; simpa using c3
  rw [show (!decide (f ∈ l.R)) = false by simpa using c3, cond_false] at hk
  repeat ((conv => whnf); first | refine Cd.go ?_ | refine ⟨rfl, ?_⟩ | refine rq_dec ⟨.inl rfl, rfl⟩ ?_ | refine rq_dec rfl ?_ | refine ⟨Nat.le_of_ble_eq_true rfl, ?_⟩ | refine ⟨.inl rfl, ?_⟩ | refine ⟨fun _ => ⟨rfl, Nat.le_of_ble_eq_true rfl⟩, ?_⟩ | refine ⟨fun _ => Nat.le_of_ble_eq_true rfl, ?_⟩ | refine ⟨fun h => Bool.noConfusion h, ?_⟩ | refine .inl ⟨_, fun _ => ⟨purA rfl, (by first | exact ok228 l.I false f (by omega))⟩, .inl rfl, ?_⟩)
  conv => whnf
  refine cq_intro (fun c4 => ?_) (fun c4 => ?_) <;> try simp only [Bool.cond_true_left, Bool.cond_false_right, Bool.not_eq_true', Bool.not_eq_false', Bool.not_not] at c4
  · rw [c4, cond_true] at hk
    subst hk
    repeat ((conv => whnf); first | refine Cd.go ?_ | refine ⟨rfl, ?_⟩ | refine rq_dec ⟨.inl rfl, rfl⟩ ?_ | refine rq_dec rfl ?_ | refine ⟨Nat.le_of_ble_eq_true rfl, ?_⟩ | refine ⟨.inl rfl, ?_⟩ | refine ⟨fun _ => ⟨rfl, Nat.le_of_ble_eq_true rfl⟩, ?_⟩ | refine ⟨fun _ => Nat.le_of_ble_eq_true rfl, ?_⟩ | refine ⟨fun h => Bool.noConfusion h, ?_⟩)
    conv => whnf
    refine ⟨Unit, fun _ => True, fun _ => ⟨[(1, ⟨[], true, .int .i64 f⟩), (4, ⟨[], true, .ptr 0 0 0⟩), (6, ⟨[], true, .ptr 1 0 0⟩)], [(0, .box [.lst 0 true [], .lst 0 true [], .lst 0 true []]), (1, .box [.lst 1 false (rowsI l.A), .lst 1 false (rowsI (wo l.I f)), .lst 1 false (rowsI l.R)])], 2⟩, ?_, fun _ _ => ?_⟩
    · repeat ((conv => whnf); first | refine Cd.go ?_ | refine ⟨rfl, ?_⟩ | refine rq_dec ⟨.inl rfl, rfl⟩ ?_ | refine rq_dec rfl ?_ | refine ⟨Nat.le_of_ble_eq_true rfl, ?_⟩ | refine ⟨.inl rfl, ?_⟩ | refine ⟨fun _ => ⟨rfl, Nat.le_of_ble_eq_true rfl⟩, ?_⟩ | refine ⟨fun _ => Nat.le_of_ble_eq_true rfl, ?_⟩ | refine ⟨fun h => Bool.noConfusion h, ?_⟩ | refine .inl ⟨_, fun _ => ⟨purA rfl, (by first | exact ok288 l.I false f (by omega))⟩, .inl rfl, ?_⟩)
      conv => whnf
      refine ⟨(), trivial, ?_⟩
      refine viewI [some 1, some 18] rfl rfl ?_ rfl ?_ rfl ?_
      repeat' (first | exact trivial | rfl | exact .inl rfl | exact .inr rfl | exact id | exact (fun h => Bool.noConfusion h) | refine And.intro ?_ ?_)
      · show 0 + l.R.length ≤ _
        rw [rowsI_len]; omega
      · exact take0 (rowsI_len _)
    repeat ((conv => whnf); first | refine Cd.go ?_ | refine ⟨rfl, ?_⟩ | refine rq_dec ⟨.inl rfl, rfl⟩ ?_ | refine rq_dec rfl ?_ | refine ⟨Nat.le_of_ble_eq_true rfl, ?_⟩ | refine ⟨.inl rfl, ?_⟩ | refine ⟨fun _ => ⟨rfl, Nat.le_of_ble_eq_true rfl⟩, ?_⟩ | refine ⟨fun _ => Nat.le_of_ble_eq_true rfl, ?_⟩ | refine ⟨fun h => Bool.noConfusion h, ?_⟩ | refine .inl ⟨_, fun _ => ⟨purA rfl, (by first | exact ok241 l.A false f (by omega) | exact ok288 l.R false f (by omega))⟩, .inl rfl, ?_⟩)
    conv => whnf
    refine ⟨[], trivial, rfl, trivial, rfl, ?_⟩
    try subst hk
    repeat' (first | exact trivial | rfl | exact .inl rfl | exact .inr rfl | exact id | exact (fun h => Bool.noConfusion h) | refine And.intro ?_ ?_)
  rw [c4, cond_false] at hk
  subst hk
  repeat ((conv => whnf); first | refine Cd.go ?_ | refine ⟨rfl, ?_⟩ | refine rq_dec ⟨.inl rfl, rfl⟩ ?_ | refine rq_dec rfl ?_ | refine ⟨Nat.le_of_ble_eq_true rfl, ?_⟩ | refine ⟨.inl rfl, ?_⟩ | refine ⟨fun _ => ⟨rfl, Nat.le_of_ble_eq_true rfl⟩, ?_⟩ | refine ⟨fun _ => Nat.le_of_ble_eq_true rfl, ?_⟩ | refine ⟨fun h => Bool.noConfusion h, ?_⟩)
  conv => whnf
  refine ⟨[], trivial, rfl, trivial, rfl, ?_⟩
  try subst hk
  repeat' (first | exact trivial | rfl | exact .inl rfl | exact .inr rfl | exact id | exact (fun h => Bool.noConfusion h) | refine And.intro ?_ ?_)
  · show 0 + l.R.length ≤ _
    rw [rowsI_len]; omega
  · exact take0 (rowsI_len _)
end Go.Proofs.YtmhapcbjjpadnaaGreat

