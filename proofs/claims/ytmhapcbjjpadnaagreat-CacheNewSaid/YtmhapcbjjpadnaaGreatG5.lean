/- Caches. -/
import Derived.Test.YtmhapcbjjpadnaaGreatG4
import Derived.Shelf.Spec.SlicesInsertGrow
set_option linter.unusedSimpArgs false
set_option linter.unusedVariables false
set_option maxRecDepth 40000
namespace Go.Proofs.YtmhapcbjjpadnaaGreat
open Go Go.Sk Go.RowKit Go.Shelf

def ren21 : Ren := ⟨fun | 21 => 287 | 27 => 335 | 28 => 336 | 35 => 357 | 39 => 363 | n => n, fun n => n, fun n => n⟩
theorem lays21 : Lays2.n21 Tryz.prog ren21 where
  mixed := by kernel_rfl
  f21 := Tryz.func287.trans (congrArg some (by kernel_rfl))
  f27 := Tryz.func335.trans (congrArg some (by kernel_rfl))
  f28 := Tryz.func336.trans (congrArg some (by kernel_rfl))
  f35 := Tryz.func357.trans (congrArg some (by kernel_rfl))
  f39 := Tryz.func363.trans (congrArg some (by kernel_rfl))
  t0 := Tryz.underlying0
  a0 := Tryz.isAgg0
  z0 := Tryz.sizeOf0
  v0 := Tryz.zeroValue0
  t3 := Tryz.underlying3
  a3 := Tryz.isAgg3
  z3 := Tryz.sizeOf3
  v3 := Tryz.zeroValue3
  t4 := Tryz.underlying4
  a4 := Tryz.isAgg4
  z4 := Tryz.sizeOf4
  v4 := Tryz.zeroValue4
  t22 := Tryz.underlying22
  a22 := Tryz.isAgg22
  z22 := Tryz.sizeOf22
  v22 := Tryz.zeroValue22
  i3 := by kernel_rfl

def wrote : Array Value → Nat → List Value → Array Value
  | arr, _, [] => arr
  | arr, o, v :: r => wrote (arr.setIfInBounds o v) (o + 1) r
theorem wrote_size : ∀ (vs : List Value) (o : Nat) (arr : Array Value), (wrote arr o vs).size = arr.size
  | [], _, _ => rfl
  | v :: r, o, arr => by rw [wrote, wrote_size r]; simp
theorem wrote_get : ∀ (vs : List Value) (o : Nat) (arr : Array Value) (j : Nat), o + vs.length ≤ arr.size → (wrote arr o vs)[j]? = if o ≤ j ∧ j < o + vs.length then vs[j - o]? else arr[j]?
  | [], o, arr, j, _ => by simp [wrote]; intro h1 h2; omega
  | v :: r, o, arr, j, h => by
    simp only [List.length_cons] at h
    rw [wrote, wrote_get r (o + 1) _ j (by simp; omega)]
    simp only [List.length_cons]
    by_cases h1 : j = o
    · subst h1
      rw [if_neg (by omega), if_pos (by omega), Array.getElem?_setIfInBounds_self_of_lt (by omega)]
      simp
    · by_cases h2 : o + 1 ≤ j ∧ j < o + 1 + r.length
      · rw [if_pos h2, if_pos (by omega), show j - o = (j - (o + 1)) + 1 by omega, List.getElem?_cons_succ]
      · rw [if_neg h2, if_neg (by omega), Array.getElem?_setIfInBounds_ne (by omega)]
theorem setCells_os (b : Nat) : ∀ (vs : List Value) (o : Nat) (w : World), (w.setCells b o vs).os = w.os ∧ (w.setCells b o vs).tape = w.tape ∧ (w.setCells b o vs).output = w.output
  | [], _, _ => ⟨rfl, rfl, rfl⟩
  | v :: r, o, w => setCells_os b r (o + 1) (w.setCell ⟨b, o, none⟩ v)
theorem setCells_heap (h : Array Go.Obj) (ty : TypeId) : ∀ (vs : List Value) (o : Nat) (w : World) (arr : Array Value), w.heap = h.push (.cells arr ty) → (w.setCells h.size o vs).heap = h.push (.cells (wrote arr o vs) ty)
  | [], _, _, _, e => e
  | v :: r, o, w, arr, e => by
    rw [World.setCells, wrote]
    refine setCells_heap h ty r (o + 1) _ _ ?_
    unfold World.setCell
    dsimp only
    rw [e]
    apply Array.ext_getElem?
    intro j
    rw [Array.getElem?_modify, Array.getElem?_push, Array.getElem?_push]
    by_cases hj : j = h.size
    · subst hj; simp
    · rw [if_neg (by omega), if_neg hj, if_neg hj]

theorem oneI (n : Int) : (Value.int .i64 n).oneCell' = true := rfl
/-- The values of a row of ints. -/
def valI (l : List Int) : List Value := l.map fun x => .int .i64 x
def insI (l : List Int) (i : Nat) (x : Int) : List Int := l.take i ++ x :: l.drop i
theorem lst_valI {O : Nat → Prop} {w : World} {σ : Sg} {t : Bool} {l : List Int} {v : Value} (h : VR O w σ (.lst 1 t (rowsI l)) v) :
    ∃ a cap b o, v = .slice a l.length cap ∧ (l ≠ [] → a = some ⟨b, o, none⟩ ∧ ¬ O b ∧ b < w.heap.size) ∧ l.length ≤ cap ∧ (t = true → cap = l.length) ∧ (∀ (j : Nat) (u : Value), (valI l)[j]? = some u → w.cell? ⟨b, o + j, none⟩ = some u) := by
  cases h with
  | @lst _ _ _ _ a cap b o cv ha hes hcap ht h1 h3 h2 =>
    rw [rowsI_len] at hcap ht
    refine ⟨a, cap, b, o, by rw [rowsI_len], fun hl => ha (by cases l with | nil => exact absurd rfl hl | cons _ _ => simp [rowsI]), hcap, ht, fun j u hj => ?_⟩
    simp only [valI, List.getElem?_map, Option.map_eq_some_iff] at hj
    obtain ⟨x, hx, rfl⟩ := hj
    obtain ⟨hlt, hx'⟩ := List.getElem?_eq_some_iff.1 hx
    have := h2 j [.int .i64 x] 0 (.int .i64 x) (by simp [rowsI, hx]) rfl
    have hc := h1 j 0 (by rw [rowsI_len]; exact hlt) (by omega)
    cases hq : cv j 0 with
    | int k n => rw [hq] at this; cases this; rw [hq] at hc; simpa using hc
    | _ => rw [hq] at this; cases this
/-- What a fresh block of ints is seen as. -/
theorem VR_fresh {O : Nat → Prop} {w w' : World} {σ : Sg} {arr : Array Value} {ty : TypeId × Bool} (hm : More w w' arr ty) (hO : ¬ O w.heap.size) (L : List Int) (cap : Nat) (hcap : L.length ≤ cap) (hg : ∀ (j : Nat) (u : Value), (valI L)[j]? = some u → arr[j]? = some u) :
    VR O w' σ (.lst 1 false (rowsI L)) (.slice (some ⟨w.heap.size, 0, none⟩) L.length cap) := by
  have hsz : w.heap.size < w'.heap.size := by rw [hm.heap]; simp
  rw [← rowsI_len L]
  refine .lst w.heap.size 0 (fun i _ => .int .i64 (L.getD i 0)) (fun _ => ⟨rfl, hO, hsz⟩) (fun x hx => by simp only [rowsI, List.mem_map] at hx; obtain ⟨y, -, rfl⟩ := hx; rfl) (by rw [rowsI_len]; exact hcap) (fun h => by cases h) (fun i c hi hc => ?_) (fun _ _ _ _ => rfl) fun i x c y hx hy => ?_
  · rw [rowsI_len] at hi
    obtain rfl : c = 0 := by omega
    have h2 := hg i (.int .i64 (L.getD i 0)) (by simp [valI, hi])
    have hnew := hm.new
    simp only [Nat.zero_add, Nat.mul_one, Nat.add_zero]
    rw [World.cell?, hnew]
    simpa using h2
  · simp only [rowsI, List.getElem?_map, Option.map_eq_some_iff] at hx
    obtain ⟨z, hz, rfl⟩ := hx
    cases c with
    | zero => simp only [List.getElem?_cons_zero, Option.some.injEq] at hy; subst hy; simp [List.getD_eq_getElem?_getD, hz]; exact .int _ _
    | succ c => simp at hy
/-- Nothing owned turns; a new block comes. -/
theorem RelS.newBlock {U : Nat → Prop} {σ : Sg} {S : Store} {w w' : World} {n : Nat} (hR : RelS U σ S w n) {arr : Array Value} {ty : TypeId × Bool} (hm : More w w' arr ty) : Grow σ S w n σ S w' n ∧ RelS U σ S w' n := by
  have g : Grow σ S w n σ S w' n := ⟨hm.keep _, fun b _ h => h, fun _ _ => rfl, Nat.le_refl _⟩
  exact ⟨g, hR.step g hR.fresh hR.inj fun k p hk => .inl ⟨hk, fun b e c hs => hm.old (hR.size ⟨k, p, e, c, hk, hs⟩)⟩⟩

/-- The block that Insert leaves, where it grows in the middle. -/
theorem more_grow (w : World) (i n cap : Nat) (x : Int) (l : List Int) (ty : TypeId) (hl : l.length = n) (hi : i < n) (z : Array Value) (hz : z.size = 1) (hcap : n + 1 ≤ cap) :
    ∃ arr, More w ((((w.alloc (.cells (((valI l).take i).toArray ++ Builtin.zeroCells z (n + 1 - i) ++ Builtin.zeroCells z (cap - (n + 1))) ty)).drew.setCells w.heap.size i [.int .i64 x]).drew).setCells w.heap.size (i + 1) ((valI l).drop i)) arr (ty, false) ∧
      ∀ (j : Nat) (u : Value), (valI (insI l i x))[j]? = some u → arr[j]? = some u := by
  have hv : (valI l).length = n := by simp [valI, hl]
  generalize hA : ((valI l).take i).toArray ++ Builtin.zeroCells z (n + 1 - i) ++ Builtin.zeroCells z (cap - (n + 1)) = A
  have hAs : A.size = cap := by
    rw [← hA]; simp [Builtin.zeroCells, hz, hv]; omega
  have h1 : (w.alloc (.cells A ty)).drew.heap = w.heap.push (.cells A ty) := rfl
  have h2 := setCells_heap w.heap ty [.int .i64 x] i _ A h1
  have h3 : ((w.alloc (.cells A ty)).drew.setCells w.heap.size i [.int .i64 x]).drew.heap = _ := h2
  have h4 := setCells_heap w.heap ty ((valI l).drop i) (i + 1) _ _ h3
  have o1 := setCells_os w.heap.size [.int .i64 x] i (w.alloc (.cells A ty)).drew
  have o2 := setCells_os w.heap.size ((valI l).drop i) (i + 1) ((w.alloc (.cells A ty)).drew.setCells w.heap.size i [.int .i64 x]).drew
  refine ⟨_, ⟨o2.1.trans o1.1, o2.2.1.trans o1.2.1, o2.2.2.trans o1.2.2, h4⟩, fun j u hj => ?_⟩
  have hd : ((valI l).drop i).length = n - i := by simp [hv]
  rw [wrote_get _ _ _ _ (by rw [wrote_size, hd, hAs]; omega), wrote_get _ _ _ _ (by rw [hAs]; simp; omega), hd]
  have hins : valI (insI l i x) = (valI l).take i ++ Value.int .i64 x :: (valI l).drop i := by simp [valI, insI]
  rw [hins, List.getElem?_append] at hj
  have ht : ((valI l).take i).length = i := by simp [hv]; omega
  rw [ht] at hj
  split at hj
  · rename_i hlt
    rw [if_neg (by omega), if_neg (by simp; omega), ← hA, Array.append_assoc, Array.getElem?_append_left (by simp [ht]; omega)]
    simpa using hj
  · rename_i hge
    by_cases he : j = i
    · subst he
      rw [if_neg (by omega), if_pos (by simp)]
      simpa using hj
    · have hj' : ((valI l).drop i)[j - (i + 1)]? = some u := by
        rw [show j - i = (j - (i + 1)) + 1 by omega, List.getElem?_cons_succ] at hj; exact hj
      obtain ⟨hlt, -⟩ := List.getElem?_eq_some_iff.1 hj'
      rw [hd] at hlt
      rw [if_pos (by omega)]
      exact hj'
theorem more_end (w : World) (n cap : Nat) (x : Int) (l : List Int) (ty : TypeId) (z : Array Value) :
    ∃ arr, More w (w.drew.alloc (.cells ((valI l ++ [Value.int .i64 x]).toArray ++ Builtin.zeroCells z cap) ty)) arr (ty, false) ∧
      ∀ (j : Nat) (u : Value), (valI (insI l l.length x))[j]? = some u → arr[j]? = some u := by
  refine ⟨_, More.drewAlloc w _ ty, fun j u hj => ?_⟩
  have hins : valI (insI l l.length x) = valI l ++ [Value.int .i64 x] := by simp [valI, insI]
  rw [hins] at hj
  obtain ⟨hlt, -⟩ := List.getElem?_eq_some_iff.1 hj
  rw [Array.getElem?_append_left (by simpa using hlt)]
  simpa using hj
theorem insI_len (l : List Int) (i : Nat) (x : Int) : (insI l i x).length = l.length + 1 := by simp [insI]; omega
/-- slices.Insert where there is no room: a new row, seen as what it holds. -/
theorem ok287 (l : List Int) (i : Nat) (x : Int) (hi : i ≤ l.length) (hbig : (l.length + 1) * 8 ≤ 140737488355328) :
    FnC Tryz.prog 287 [.row 1 [[.int .i64 x]]] [.lst 1 true (rowsI l), .int .i64 i, .sl 0 0 1] (.lst 1 false (rowsI (insI l i x))) [.row 1 [[.int .i64 x]]] := by
  intro U σ w cargs hR hn hargs
  obtain ⟨c0, c1, c2, rfl⟩ : ∃ a b c, cargs = #[a, b, c] := by
    rcases cargs with ⟨L⟩
    match L, hn with
    | [a, b, c], _ => exact ⟨a, b, c, rfl⟩
  have a0 := hargs 0 _ c0 rfl rfl
  have a1 := hargs 1 _ c1 rfl rfl
  have a2 := hargs 2 _ c2 rfl rfl
  obtain ⟨a, cap, b, o, rfl, hb, hcap, ht, hcs⟩ := lst_valI a0
  obtain rfl := ht rfl
  cases a1 with
  | int =>
    cases a2 with
    | @sl _ _ _ _ vb es vcap va hs hle ha =>
      have hob := hR.obj 0 (.row 1 [[.int .i64 x]]) rfl
      rw [hs] at hob
      obtain ⟨-, rfl, -, arr, ty, hblk, hasz, hcells⟩ := hob
      obtain ⟨xv, hx1, -, hx2⟩ := hcells 0 _ 0 _ rfl rfl
      cases hx2 with
      | int =>
        obtain rfl := ha (by omega)
        have hvs : ∀ (j : Nat) (v : Value), ([Value.int .i64 x])[j]? = some v → w.cell? ⟨vb, 0 * 1 + j, none⟩ = some v := fun j v hj => by
          cases j with
          | zero =>
            simp only [List.getElem?_cons_zero, Option.some.injEq] at hj
            subst hj
            rw [World.cell?, hblk]
            simpa using hx1
          | succ j => simp at hj
        have fin : ∀ (w' : World) (arr' : Array Value) (ty' : TypeId) (G : Nat), More w w' arr' (ty', false) → l.length + 1 ≤ G → (∀ (j : Nat) (u : Value), (valI (insI l i x))[j]? = some u → arr'[j]? = some u) →
            ∃ cv σ', (Ending.returned (.slice (some ⟨w.heap.size, 0, none⟩) (l.length + 1) G)) = .returned cv ∧ RelS U σ' (mkFrom 0 [.row 1 [[.int .i64 x]]]) w' 1 ∧ VR (Own U σ' (mkFrom 0 [.row 1 [[.int .i64 x]]])) w' σ' (.lst 1 false (rowsI (insI l i x))) cv ∧
              Grow σ (mkFrom 0 [.row 1 [[.int .i64 x]]]) w 1 σ' (mkFrom 0 [.row 1 [[.int .i64 x]]]) w' 1 := fun w' arr' ty' G hm hG hg => by
          obtain ⟨g, hR'⟩ := RelS.newBlock hR hm
          refine ⟨_, σ, rfl, hR', ?_, g⟩
          rw [← insI_len l i x]
          refine VR_fresh hm (fun h => ?_) _ _ (by rw [insI_len]; exact hG) hg
          rcases h with h | h
          · exact absurd (hR.ulim _ h) (by omega)
          · exact absurd (hR.size h) (by omega)
        have one : ∀ v ∈ valI l, v.oneCell' = true := fun v hv => by
          simp only [valI, List.mem_map] at hv; obtain ⟨y, -, rfl⟩ := hv; rfl
        by_cases he : i = l.length
        · subst he
          refine (Any2.slices_Insert_int_end_grow lays21 a l.length l.length vb (0 * 1) 1 (vcap - 0) (valI l) [.int .i64 x] w (by omega) (by omega) (by omega) hbig (by simp [valI]) rfl (fun h => ?_) (fun a' h j v hj => ?_) hvs (by simp [oneI])).mono ?_
          · cases l with
            | nil => rfl
            | cons y r => have := (hb (by simp)).1; rw [h] at this; cases this
          · have hne : l ≠ [] := by rintro rfl; simp [valI] at hj
            have := (hb hne).1
            rw [h] at this
            cases this
            rw [Addr.add_lit]; exact hcs j v hj
          · rintro e w' ⟨rfl, rfl⟩
            obtain ⟨arr', hm, hg⟩ := more_end w l.length (grownCap w (l.length + 1) l.length (ren21.t 3) - (l.length + 1)) x l (ren21.t 3) (Value.int .i64 0).cells
            exact fin _ arr' _ _ hm (le_grownCap _ _ _ _) hg
        · have hne : l ≠ [] := by rintro rfl; simp at hi; exact he (by simpa using hi)
          obtain ⟨rfl, hnb, hbw⟩ := hb hne
          refine (Any2.slices_Insert_int_grow lays21 b o l.length l.length i vb (0 * 1) 1 (vcap - 0) (valI l) [.int .i64 x] w (by omega) (by omega) (by omega) (by omega) hbig (by simp [valI]) rfl hcs hvs one (by simp [oneI])).mono ?_
          rintro e w' ⟨rfl, rfl⟩
          obtain ⟨arr', hm, hg⟩ := more_grow w i l.length (grownCap w (l.length + 1) l.length (ren21.t 3)) x l (ren21.t 3) rfl (by omega) (Value.int .i64 0).cells rfl (le_grownCap _ _ _ _)
          exact fin _ arr' _ _ hm (le_grownCap _ _ _ _) hg
end Go.Proofs.YtmhapcbjjpadnaaGreat

set_option maxRecDepth 40000
namespace Go.Proofs.YtmhapcbjjpadnaaGreat
open Go Go.Sk Go.RowKit

theorem ok208n (x : Int) : FnC Tryz.prog 208 [] [.int .i64 x] (.bool (x != x)) [] := by
  refine fn_okX (ob0 := []) [] Tryz.func208 rfl rfl rfl rfl ?_
  repeat ((conv => whnf); first | refine Cd.go ?_ | refine ⟨rfl, ?_⟩ | refine rq_dec ⟨.inl rfl, rfl⟩ ?_ | refine rq_dec rfl ?_ | refine ⟨Nat.le_of_ble_eq_true rfl, ?_⟩ | refine ⟨.inl rfl, ?_⟩ | refine ⟨fun _ => ⟨rfl, Nat.le_of_ble_eq_true rfl⟩, ?_⟩ | refine ⟨fun _ => Nat.le_of_ble_eq_true rfl, ?_⟩ | refine ⟨fun h => Bool.noConfusion h, ?_⟩)
  conv => whnf
  refine ⟨[], trivial, rfl, trivial, rfl, ?_⟩
  try subst hk
  repeat' (first | exact trivial | rfl | exact .inl rfl | exact .inr rfl | exact id | exact (fun h => Bool.noConfusion h) | refine And.intro ?_ ?_)
theorem ok208 (x : Int) : FnC Tryz.prog 208 [] [.int .i64 x] (.bool false) [] := by
  have := ok208n x
  rwa [show (x != x) = false by simp] at this
theorem ok334n (x : Int) : FnC Tryz.prog 334 [] [.int .i64 x] (.bool (x != x)) [] := by
  refine fn_okX (ob0 := []) [] Tryz.func334 rfl rfl rfl rfl ?_
  repeat ((conv => whnf); first | refine Cd.go ?_ | refine ⟨rfl, ?_⟩ | refine rq_dec ⟨.inl rfl, rfl⟩ ?_ | refine rq_dec rfl ?_ | refine ⟨Nat.le_of_ble_eq_true rfl, ?_⟩ | refine ⟨.inl rfl, ?_⟩ | refine ⟨fun _ => ⟨rfl, Nat.le_of_ble_eq_true rfl⟩, ?_⟩ | refine ⟨fun _ => Nat.le_of_ble_eq_true rfl, ?_⟩ | refine ⟨fun h => Bool.noConfusion h, ?_⟩)
  conv => whnf
  refine ⟨[], trivial, rfl, trivial, rfl, ?_⟩
  try subst hk
  repeat' (first | exact trivial | rfl | exact .inl rfl | exact .inr rfl | exact id | exact (fun h => Bool.noConfusion h) | refine And.intro ?_ ?_)
theorem ok334 (x : Int) : FnC Tryz.prog 334 [] [.int .i64 x] (.bool false) [] := by
  have := ok334n x
  rwa [show (x != x) = false by simp] at this
theorem ok333 (x y : Int) : FnC Tryz.prog 333 [] [.int .i64 x, .int .i64 y] (.bool (decide (x < y))) [] := by
  refine fn_okX (ob0 := []) [] Tryz.func333 rfl rfl rfl rfl ?_
  repeat ((conv => whnf); first | refine Cd.go ?_ | refine ⟨rfl, ?_⟩ | refine rq_dec ⟨.inl rfl, rfl⟩ ?_ | refine rq_dec rfl ?_ | refine ⟨Nat.le_of_ble_eq_true rfl, ?_⟩ | refine ⟨.inl rfl, ?_⟩ | refine ⟨fun _ => ⟨rfl, Nat.le_of_ble_eq_true rfl⟩, ?_⟩ | refine ⟨fun _ => Nat.le_of_ble_eq_true rfl, ?_⟩ | refine ⟨fun h => Bool.noConfusion h, ?_⟩ | refine .inl ⟨_, fun _ => ⟨purA rfl, (by first | exact ok208 x | exact ok208 y)⟩, .inl rfl, ?_⟩)
  conv => whnf
  refine ⟨[], trivial, rfl, trivial, rfl, ?_⟩
  try subst hk
  repeat' (first | exact trivial | rfl | exact .inl rfl | exact .inr rfl | exact id | exact (fun h => Bool.noConfusion h) | refine And.intro ?_ ?_)
/-- How many are less. -/
def atI (l : List Int) (x : Int) : Nat := (l.takeWhile (decide <| · < x)).length
theorem atI_eq : ∀ (l : List Int) (x : Int) (i : Nat), i ≤ l.length → (∀ j, j < i → l.getD j 0 < x) → (∀ j, i ≤ j → j < l.length → x ≤ l.getD j 0) → atI l x = i
  | [], _, i, h, _, _ => by simp at h; subst h; rfl
  | y :: r, x, 0, _, _, h2 => by
    have := h2 0 (by omega) (by simp)
    simp only [List.getD_cons_zero] at this
    simp only [atI, List.takeWhile_cons]
    rw [show decide (y < x) = false by simpa using this]; rfl
  | y :: r, x, i + 1, h, h1, h2 => by
    have := h1 0 (by omega)
    simp only [List.getD_cons_zero] at this
    have ih := atI_eq r x i (by simpa using h) (fun j hj => by simpa using h1 (j + 1) (by omega)) (fun j hj hj' => by simpa using h2 (j + 1) (by omega) (by simpa using hj'))
    simp only [atI, List.takeWhile_cons]
    rw [show decide (y < x) = true by simpa using this]
    simpa [atI] using ih
def hitI (l : List Int) (x : Int) : Bool := bif decide (atI l x < l.length) then l.getD (atI l x) 0 == x else false
set_option maxRecDepth 20000 in
theorem ok286 (l : List Int) (t : Bool) (x : Int) (hl : l.length ≤ 100000) (hs : l.Pairwise (· < ·)) : FnC Tryz.prog 286 [] [.lst 1 t (rowsI l), .int .i64 x] (.tup [.int .i64 (atI l x), .bool (hitI l x)]) [] := by
  have hmon : ∀ i j, i < j → j < l.length → l.getD i 0 < l.getD j 0 := fun i j hij hj => by
    rw [← getI l i (by omega), ← getI l j hj]
    exact List.pairwise_iff_getElem.1 hs i j (by omega) hj hij
  refine fn_okX (ob0 := []) [] Tryz.func286 rfl rfl rfl rfl ?_
  repeat ((conv => whnf); first | refine Cd.go ?_ | refine ⟨rfl, ?_⟩ | refine rq_dec ⟨.inl rfl, rfl⟩ ?_ | refine rq_dec rfl ?_ | refine ⟨Nat.le_of_ble_eq_true rfl, ?_⟩ | refine ⟨.inl rfl, ?_⟩ | refine ⟨fun _ => ⟨rfl, Nat.le_of_ble_eq_true rfl⟩, ?_⟩ | refine ⟨fun _ => Nat.le_of_ble_eq_true rfl, ?_⟩ | refine ⟨fun h => Bool.noConfusion h, ?_⟩)
  conv => whnf
  rw [rowsI_len]
  refine ⟨Nat × Nat, fun p => (p.1 ≤ p.2 ∧ p.2 ≤ l.length) ∧ (∀ j, j < p.1 → l.getD j 0 < x) ∧ (∀ j, p.2 ≤ j → j < l.length → x ≤ l.getD j 0), fun p => ⟨[(0, ⟨[], true, .lst 1 t (rowsI l)⟩), (1, ⟨[], true, .int .i64 x⟩), (6, ⟨[], true, .int .i64 (l.length : Int)⟩), (7, ⟨[], true, .int .i64 (p.1 : Int)⟩), (8, ⟨[], true, .int .i64 (p.2 : Int)⟩)], [], 0⟩, fun p => p.2 - p.1, ⟨(0, l.length), ⟨⟨by omega, by omega⟩, fun j hj => by simp at hj, fun j hj hj' => by simp only at hj; omega⟩, ?_⟩, fun p hI => ?_⟩
  · refine viewI [] rfl rfl ?_ rfl ?_ rfl ?_
    repeat' (first | exact trivial | rfl | exact .inl rfl | exact .inr rfl | exact id | exact (fun h => Bool.noConfusion h) | refine And.intro ?_ ?_)
  obtain ⟨a, b⟩ := p
  obtain ⟨⟨hI1, hI2⟩, hI3, hI4⟩ := hI
  simp only at hI1 hI2 hI3 hI4
  repeat ((conv => whnf); first | refine Cd.go ?_ | refine ⟨rfl, ?_⟩ | refine rq_dec ⟨.inl rfl, rfl⟩ ?_ | refine rq_dec rfl ?_ | refine ⟨Nat.le_of_ble_eq_true rfl, ?_⟩ | refine ⟨.inl rfl, ?_⟩ | refine ⟨fun _ => ⟨rfl, Nat.le_of_ble_eq_true rfl⟩, ?_⟩ | refine ⟨fun _ => Nat.le_of_ble_eq_true rfl, ?_⟩ | refine ⟨fun h => Bool.noConfusion h, ?_⟩)
  conv => whnf
  refine cq_intro (fun h1 => ?_) (fun h1 => ?_) <;> try simp only [Bool.cond_true_left, Bool.cond_false_right, Bool.not_eq_true', Bool.not_eq_false', Bool.not_not] at h1
  · have h1 : a < b := by simpa using h1
    repeat ((conv => whnf); first | refine Cd.go ?_ | refine ⟨rfl, ?_⟩ | refine rq_dec ⟨.inl rfl, rfl⟩ ?_ | refine rq_dec rfl ?_ | refine ⟨Nat.le_of_ble_eq_true rfl, ?_⟩ | refine ⟨.inl rfl, ?_⟩ | refine ⟨fun _ => ⟨rfl, Nat.le_of_ble_eq_true rfl⟩, ?_⟩ | refine ⟨fun _ => Nat.le_of_ble_eq_true rfl, ?_⟩ | refine ⟨fun h => Bool.noConfusion h, ?_⟩)
    conv => whnf
    try first | refine rq_dec (by decide) ?_ | refine gq_dec (fun _ => by decide) ?_ | refine ⟨fun _ => by decide, ?_⟩
    repeat ((conv => whnf); first | refine Cd.go ?_ | refine ⟨rfl, ?_⟩ | refine rq_dec ⟨.inl rfl, rfl⟩ ?_ | refine rq_dec rfl ?_ | refine ⟨Nat.le_of_ble_eq_true rfl, ?_⟩ | refine ⟨.inl rfl, ?_⟩ | refine ⟨fun _ => ⟨rfl, Nat.le_of_ble_eq_true rfl⟩, ?_⟩ | refine ⟨fun _ => Nat.le_of_ble_eq_true rfl, ?_⟩ | refine ⟨fun h => Bool.noConfusion h, ?_⟩)
    conv => whnf
    have hm : IntKind.i64.wrap ((IntKind.u64.wrap (IntKind.i64.wrap ((((a, b).fst : Nat) : Int) + (((a, b).snd : Nat) : Int)))).fdiv (2 ^ min (Int.toNat 1) IntKind.u64.bits)) = (((a + b) / 2 : Nat) : Int) := by
      simp only []
      rw [wrapI (n := (a : Int) + b) (by omega) (by omega), show IntKind.u64.wrap ((a : Int) + b) = (a : Int) + b from by
        have := Int.emod_eq_of_lt (a := (a : Int) + b) (b := 18446744073709551616) (by omega) (by omega)
        simpa [IntKind.wrap, IntKind.bits, IntKind.signed] using this]
      have e : ((a : Int) + b).fdiv (2 ^ min (Int.toNat 1) IntKind.u64.bits) = ((a : Int) + b) / 2 := by
        rw [Int.fdiv_eq_ediv_of_nonneg _ (by decide)]; rfl
      rw [e, wrapI (by omega) (by omega)]
      omega
    rw [hm]
    have hmid : a ≤ (a + b) / 2 ∧ (a + b) / 2 < b := by omega
    generalize (a + b) / 2 = m at hm hmid
    first | refine rq_dec (⟨rfl, by omega, by rw [rowsI_len]; omega⟩) ?_ | refine gq_dec (fun _ => ⟨rfl, by omega, by rw [rowsI_len]; omega⟩) ?_ | refine ⟨fun _ => ⟨rfl, by omega, by rw [rowsI_len]; omega⟩, ?_⟩
    rw [Int.toNat_natCast, rowsI_get l m (by omega), getI]
    repeat ((conv => whnf); first | refine Cd.go ?_ | refine ⟨rfl, ?_⟩ | refine rq_dec ⟨.inl rfl, rfl⟩ ?_ | refine rq_dec rfl ?_ | refine ⟨Nat.le_of_ble_eq_true rfl, ?_⟩ | refine ⟨.inl rfl, ?_⟩ | refine ⟨fun _ => ⟨rfl, Nat.le_of_ble_eq_true rfl⟩, ?_⟩ | refine ⟨fun _ => Nat.le_of_ble_eq_true rfl, ?_⟩ | refine ⟨fun h => Bool.noConfusion h, ?_⟩ | refine .inl ⟨_, fun _ => ⟨purA rfl, (by first | exact ok333 (l.getD m 0) x)⟩, .inl rfl, ?_⟩)
    conv => whnf
    refine cq_intro (fun h2 => ?_) (fun h2 => ?_) <;> try simp only [Bool.cond_true_left, Bool.cond_false_right, Bool.not_eq_true', Bool.not_eq_false', Bool.not_not] at h2
    · have h2 : l.getD m 0 < x := by simpa using h2
      repeat ((conv => whnf); first | refine Cd.go ?_ | refine ⟨rfl, ?_⟩ | refine rq_dec ⟨.inl rfl, rfl⟩ ?_ | refine rq_dec rfl ?_ | refine ⟨Nat.le_of_ble_eq_true rfl, ?_⟩ | refine ⟨.inl rfl, ?_⟩ | refine ⟨fun _ => ⟨rfl, Nat.le_of_ble_eq_true rfl⟩, ?_⟩ | refine ⟨fun _ => Nat.le_of_ble_eq_true rfl, ?_⟩ | refine ⟨fun h => Bool.noConfusion h, ?_⟩)
      conv => whnf
      rw [wrapI (n := (m : Int) + 1) (by omega) (by omega), show ((m : Int) + 1) = ((m + 1 : Nat) : Int) by omega]
      refine ⟨(m + 1, b), ⟨⟨by show m + 1 ≤ b; omega, hI2⟩, fun j hj => ?_, hI4⟩, ?_, by show b - (m + 1) < b - a; omega⟩
      · have hj : j < m + 1 := hj
        by_cases e : j = m
        · rw [e]; exact h2
        · have := hmon j m (by omega) (by omega); omega
      refine viewI [] rfl rfl ?_ rfl ?_ rfl ?_
      repeat' (first | exact trivial | rfl | exact .inl rfl | exact .inr rfl | exact id | exact (fun h => Bool.noConfusion h) | refine And.intro ?_ ?_)
    have h2 : x ≤ l.getD m 0 := by simpa using h2
    repeat ((conv => whnf); first | refine Cd.go ?_ | refine ⟨rfl, ?_⟩ | refine rq_dec ⟨.inl rfl, rfl⟩ ?_ | refine rq_dec rfl ?_ | refine ⟨Nat.le_of_ble_eq_true rfl, ?_⟩ | refine ⟨.inl rfl, ?_⟩ | refine ⟨fun _ => ⟨rfl, Nat.le_of_ble_eq_true rfl⟩, ?_⟩ | refine ⟨fun _ => Nat.le_of_ble_eq_true rfl, ?_⟩ | refine ⟨fun h => Bool.noConfusion h, ?_⟩)
    conv => whnf
    refine ⟨(a, m), ⟨⟨hmid.1, by show m ≤ l.length; omega⟩, hI3, fun j hj hj' => ?_⟩, ?_, by show m - a < b - a; omega⟩
    · have hj : m ≤ j := hj
      by_cases e : j = m
      · rw [e]; exact h2
      · have := hmon m j (by omega) hj'; omega
    refine viewI [] rfl rfl ?_ rfl ?_ rfl ?_
    repeat' (first | exact trivial | rfl | exact .inl rfl | exact .inr rfl | exact id | exact (fun h => Bool.noConfusion h) | refine And.intro ?_ ?_)
  have h1 : a = b := by simp at h1; omega
  subst h1
  have hat := atI_eq l x a hI2 hI3 hI4
  have hk : hitI l x = (bif decide ((a : Int) < (l.length : Int)) then l.getD a 0 == x else false) := by
    rw [hitI, hat]; congr 1; simp
  repeat ((conv => whnf); first | refine Cd.go ?_ | refine ⟨rfl, ?_⟩ | refine rq_dec ⟨.inl rfl, rfl⟩ ?_ | refine rq_dec rfl ?_ | refine ⟨Nat.le_of_ble_eq_true rfl, ?_⟩ | refine ⟨.inl rfl, ?_⟩ | refine ⟨fun _ => ⟨rfl, Nat.le_of_ble_eq_true rfl⟩, ?_⟩ | refine ⟨fun _ => Nat.le_of_ble_eq_true rfl, ?_⟩ | refine ⟨fun h => Bool.noConfusion h, ?_⟩)
  conv => whnf
  by_cases hlt : a < l.length
  · have hd : decide ((((a, a).fst : Nat) : Int) < (l.length : Int)) = true := by simpa using hlt
    rw [hd]
    first | refine rq_dec (⟨rfl, by omega, by rw [rowsI_len]; show (a : Int) < _; omega⟩) ?_ | refine gq_dec (fun _ => ⟨rfl, by omega, by rw [rowsI_len]; show (a : Int) < _; omega⟩) ?_ | refine ⟨fun _ => ⟨rfl, by omega, by rw [rowsI_len]; show (a : Int) < _; omega⟩, ?_⟩
    rw [Int.toNat_natCast, rowsI_get l a hlt, getI]
    repeat ((conv => whnf); first | refine Cd.go ?_ | refine ⟨rfl, ?_⟩ | refine rq_dec ⟨.inl rfl, rfl⟩ ?_ | refine rq_dec rfl ?_ | refine ⟨Nat.le_of_ble_eq_true rfl, ?_⟩ | refine ⟨.inl rfl, ?_⟩ | refine ⟨fun _ => ⟨rfl, Nat.le_of_ble_eq_true rfl⟩, ?_⟩ | refine ⟨fun _ => Nat.le_of_ble_eq_true rfl, ?_⟩ | refine ⟨fun h => Bool.noConfusion h, ?_⟩ | refine .inl ⟨_, fun _ => ⟨purA rfl, (by first | exact ok334 (l.getD a 0) | exact ok334 x)⟩, .inl rfl, ?_⟩)
    conv => whnf
    first | refine rq_dec (⟨rfl, by show (0 : Int) ≤ (a : Int); omega, by rw [rowsI_len]; show (a : Int) < _; omega⟩) ?_ | refine gq_dec (fun _ => ⟨rfl, by show (0 : Int) ≤ (a : Int); omega, by rw [rowsI_len]; show (a : Int) < _; omega⟩) ?_ | refine ⟨fun _ => ⟨rfl, by show (0 : Int) ≤ (a : Int); omega, by rw [rowsI_len]; show (a : Int) < _; omega⟩, ?_⟩
    rw [Int.toNat_natCast, rowsI_get l a hlt, getI]
    repeat ((conv => whnf); first | refine Cd.go ?_ | refine ⟨rfl, ?_⟩ | refine rq_dec ⟨.inl rfl, rfl⟩ ?_ | refine rq_dec rfl ?_ | refine ⟨Nat.le_of_ble_eq_true rfl, ?_⟩ | refine ⟨.inl rfl, ?_⟩ | refine ⟨fun _ => ⟨rfl, Nat.le_of_ble_eq_true rfl⟩, ?_⟩ | refine ⟨fun _ => Nat.le_of_ble_eq_true rfl, ?_⟩ | refine ⟨fun h => Bool.noConfusion h, ?_⟩ | refine .inl ⟨_, fun _ => ⟨purA rfl, (by first | exact ok334 (l.getD a 0) | exact ok334 x)⟩, .inl rfl, ?_⟩)
    conv => whnf
    rw [hat, hk, show decide ((a : Int) < (l.length : Int)) = true by simpa using hlt]
    refine ⟨[], trivial, rfl, trivial, rfl, ?_⟩
    try subst hk
    repeat' (first | exact trivial | rfl | exact .inl rfl | exact .inr rfl | exact id | exact (fun h => Bool.noConfusion h) | refine And.intro ?_ ?_)
    cases l.getD a 0 == x <;> rfl
  · have hd : decide ((((a, a).fst : Nat) : Int) < (l.length : Int)) = false := by simpa using hlt
    have hr : (rowsI l).getD a [] = [] := by rw [List.getD_eq_getElem?_getD, List.getElem?_eq_none (by rw [rowsI_len]; omega)]; rfl
    rw [hd]
    first | refine ⟨fun h => (by cases h), ?_⟩ | skip
    rw [Int.toNat_natCast, hr]
    repeat ((conv => whnf); first | refine Cd.go ?_ | refine ⟨rfl, ?_⟩ | refine rq_dec ⟨.inl rfl, rfl⟩ ?_ | refine rq_dec rfl ?_ | refine ⟨Nat.le_of_ble_eq_true rfl, ?_⟩ | refine ⟨.inl rfl, ?_⟩ | refine ⟨fun _ => ⟨rfl, Nat.le_of_ble_eq_true rfl⟩, ?_⟩ | refine ⟨fun _ => Nat.le_of_ble_eq_true rfl, ?_⟩ | refine ⟨fun h => Bool.noConfusion h, ?_⟩)
    conv => whnf
    rw [Int.toNat_natCast, hr]
    repeat ((conv => whnf); first | refine Cd.go ?_ | refine ⟨rfl, ?_⟩ | refine rq_dec ⟨.inl rfl, rfl⟩ ?_ | refine rq_dec rfl ?_ | refine ⟨Nat.le_of_ble_eq_true rfl, ?_⟩ | refine ⟨.inl rfl, ?_⟩ | refine ⟨fun _ => ⟨rfl, Nat.le_of_ble_eq_true rfl⟩, ?_⟩ | refine ⟨fun _ => Nat.le_of_ble_eq_true rfl, ?_⟩ | refine ⟨fun h => Bool.noConfusion h, ?_⟩)
    conv => whnf
    refine .inr ⟨fun h => (by cases h), fun _ => ?_⟩
    repeat ((conv => whnf); first | refine Cd.go ?_ | refine ⟨rfl, ?_⟩ | refine rq_dec ⟨.inl rfl, rfl⟩ ?_ | refine rq_dec rfl ?_ | refine ⟨Nat.le_of_ble_eq_true rfl, ?_⟩ | refine ⟨.inl rfl, ?_⟩ | refine ⟨fun _ => ⟨rfl, Nat.le_of_ble_eq_true rfl⟩, ?_⟩ | refine ⟨fun _ => Nat.le_of_ble_eq_true rfl, ?_⟩ | refine ⟨fun h => Bool.noConfusion h, ?_⟩)
    conv => whnf
    refine .inr ⟨fun h => (by cases h), fun _ => ?_⟩
    repeat ((conv => whnf); first | refine Cd.go ?_ | refine ⟨rfl, ?_⟩ | refine rq_dec ⟨.inl rfl, rfl⟩ ?_ | refine rq_dec rfl ?_ | refine ⟨Nat.le_of_ble_eq_true rfl, ?_⟩ | refine ⟨.inl rfl, ?_⟩ | refine ⟨fun _ => ⟨rfl, Nat.le_of_ble_eq_true rfl⟩, ?_⟩ | refine ⟨fun _ => Nat.le_of_ble_eq_true rfl, ?_⟩ | refine ⟨fun h => Bool.noConfusion h, ?_⟩)
    conv => whnf
    rw [hat, hk, show decide ((a : Int) < (l.length : Int)) = false by simpa using hlt]
    refine ⟨[], trivial, rfl, trivial, rfl, ?_⟩
    try subst hk
    repeat' (first | exact trivial | rfl | exact .inl rfl | exact .inr rfl | exact id | exact (fun h => Bool.noConfusion h) | refine And.intro ?_ ?_)
end Go.Proofs.YtmhapcbjjpadnaaGreat

set_option maxRecDepth 40000
namespace Go.Proofs.YtmhapcbjjpadnaaGreat
open Go Go.Sk Go.RowKit

def gaveZ (z : Zn) (f : Int) : Zn := ⟨z.first, z.size, z.min, z.low, z.high, insI z.free (atI z.free f) f, false⟩
def giveG (base l : List Zn) (f : Int) : List Zn × Int :=
  bif !checkZ l then (base, 1) else bif decide (idxF (inG f) l < 0) then (base, 2) else
  bif hitI (l.getD (idxF (inG f) l).toNat zeroZ).free f then (base, 5) else
  (base.set (idxF (inG f) l).toNat (gaveZ (l.getD (idxF (inG f) l).toNat zeroZ) f), 0)
theorem ascN_pair (lo hi : Int) (l : List Int) (h : ascN lo hi l l.length = true) : l.Pairwise (· < ·) := by
  have step : ∀ i, i + 1 < l.length → l.getD i 0 < l.getD (i + 1) 0 := fun i hi => by
    have := ascN_mono lo _ l l.length (i + 1) hi h
    simp only [freeBad, Bool.or_eq_false_iff, Bool.and_eq_false_iff, decide_eq_false_iff_not] at this
    have h2 := this.2
    rw [Nat.add_sub_cancel] at h2
    omega
  have mon : ∀ d i, i + d + 1 < l.length → l.getD i 0 < l.getD (i + d + 1) 0 := fun d => by
    induction d with
    | zero => exact fun i hi => step i hi
    | succ d ih =>
      intro i hi
      have h1 := ih i (by omega)
      have h2 := step (i + d + 1) (by omega)
      rw [show i + (d + 1) + 1 = i + d + 1 + 1 by omega]
      omega
  refine List.pairwise_iff_getElem.2 fun i j hi hj hij => ?_
  rw [getI, getI]
  have := mon (j - i - 1) i (by omega)
  rwa [show i + (j - i - 1) + 1 = j by omega] at this
theorem atI_le : ∀ (l : List Int) (x : Int), atI l x ≤ l.length
  | [], _ => Nat.le_refl 0
  | y :: r, x => by
    have := atI_le r x
    simp only [atI, List.takeWhile_cons] at this ⊢
    split <;> simp <;> omega
set_option maxRecDepth 20000 in
set_option maxHeartbeats 1000000 in
theorem ok247 (l : List Zn) (t : Bool) (f : Int) (hl : SmallZ l) : FnC Tryz.prog 247 [] [.lst 6 t (rowsZ l), .int .i64 f] (.tup [.lst 6 false (rowsZ (giveG (l.map exZ) l f).1), .int .i64 (giveG (l.map exZ) l f).2]) [] := by
  have hlen := hl.len
  refine fn_okX (ob0 := []) [] Tryz.func247 rfl rfl rfl rfl ?_
  generalize hk : giveG (l.map exZ) l f = q
  repeat ((conv => whnf); first | refine Cd.go ?_ | refine ⟨rfl, ?_⟩ | refine rq_dec ⟨.inl rfl, rfl⟩ ?_ | refine rq_dec rfl ?_ | refine ⟨Nat.le_of_ble_eq_true rfl, ?_⟩ | refine ⟨.inl rfl, ?_⟩ | refine ⟨fun _ => ⟨rfl, Nat.le_of_ble_eq_true rfl⟩, ?_⟩ | refine ⟨fun _ => Nat.le_of_ble_eq_true rfl, ?_⟩ | refine ⟨fun h => Bool.noConfusion h, ?_⟩)
  conv => whnf
  refine .inr ⟨fun _ => ⟨[], _, _, _, ok210 l t hl, trivial, rfl, rfl, rfl, ?_⟩, (by intro h; cases h)⟩
  repeat ((conv => whnf); first | refine Cd.go ?_ | refine ⟨rfl, ?_⟩ | refine rq_dec ⟨.inl rfl, rfl⟩ ?_ | refine rq_dec rfl ?_ | refine ⟨Nat.le_of_ble_eq_true rfl, ?_⟩ | refine ⟨.inl rfl, ?_⟩ | refine ⟨fun _ => ⟨rfl, Nat.le_of_ble_eq_true rfl⟩, ?_⟩ | refine ⟨fun _ => Nat.le_of_ble_eq_true rfl, ?_⟩ | refine ⟨fun h => Bool.noConfusion h, ?_⟩ | refine .inl ⟨_, fun _ => ⟨purA rfl, (by first | exact ok211 l t hl)⟩, .inl rfl, ?_⟩)
  conv => whnf
  refine cq_intro (fun h1 => ?_) (fun h1 => ?_) <;> try simp only [Bool.cond_true_left, Bool.cond_false_right, Bool.not_eq_true', Bool.not_eq_false', Bool.not_not] at h1
  · have h1 : (!checkZ l) = true := by rw [h1]; rfl
    simp only [giveG, h1, cond_true] at hk
    subst hk
    repeat ((conv => whnf); first | refine Cd.go ?_ | refine ⟨rfl, ?_⟩ | refine rq_dec ⟨.inl rfl, rfl⟩ ?_ | refine rq_dec rfl ?_ | refine ⟨Nat.le_of_ble_eq_true rfl, ?_⟩ | refine ⟨.inl rfl, ?_⟩ | refine ⟨fun _ => ⟨rfl, Nat.le_of_ble_eq_true rfl⟩, ?_⟩ | refine ⟨fun _ => Nat.le_of_ble_eq_true rfl, ?_⟩ | refine ⟨fun h => Bool.noConfusion h, ?_⟩)
    conv => whnf
    refine ⟨[], trivial, rfl, trivial, rfl, ?_⟩
    try subst hk
    repeat' (first | exact trivial | rfl | exact .inl rfl | exact .inr rfl | exact id | exact (fun h => Bool.noConfusion h) | refine And.intro ?_ ?_)
    · show 0 + l.length ≤ _
      rw [rowsZ_len]; simp
    · refine take0 ?_
      rw [rowsZ_len]; simp
  have h1' : checkZ l = true := by simpa using h1
  have h1 : (!checkZ l) = false := by rw [h1']; rfl
  have hg := check_good h1'
  simp only [giveG, h1, cond_false] at hk
  repeat ((conv => whnf); first | refine Cd.go ?_ | refine ⟨rfl, ?_⟩ | refine rq_dec ⟨.inl rfl, rfl⟩ ?_ | refine rq_dec rfl ?_ | refine ⟨Nat.le_of_ble_eq_true rfl, ?_⟩ | refine ⟨.inl rfl, ?_⟩ | refine ⟨fun _ => ⟨rfl, Nat.le_of_ble_eq_true rfl⟩, ?_⟩ | refine ⟨fun _ => Nat.le_of_ble_eq_true rfl, ?_⟩ | refine ⟨fun h => Bool.noConfusion h, ?_⟩)
  conv => whnf
  refine .inl ⟨_, fun _ => ⟨?_, ok305 l t 318 [.rp 1 [.int .i64 f] 0] (inG f) call58 rfl (fun x _ => ok318 x f) (by omega)⟩, .inr rfl, ?_⟩
  · intro v hv
    have hv : v ∈ [V.lst 6 t (rowsZ l), V.fn 318 [V.ptr 0 0 0]] := hv
    rcases List.mem_cons.1 hv with rfl | hv
    · exact trivial
    · obtain rfl := List.mem_singleton.1 hv
      intro c hc
      obtain rfl := List.mem_singleton.1 hc
      exact ⟨rfl, rfl⟩
  repeat ((conv => whnf); first | refine Cd.go ?_ | refine ⟨rfl, ?_⟩ | refine rq_dec ⟨.inl rfl, rfl⟩ ?_ | refine rq_dec rfl ?_ | refine ⟨Nat.le_of_ble_eq_true rfl, ?_⟩ | refine ⟨.inl rfl, ?_⟩ | refine ⟨fun _ => ⟨rfl, Nat.le_of_ble_eq_true rfl⟩, ?_⟩ | refine ⟨fun _ => Nat.le_of_ble_eq_true rfl, ?_⟩ | refine ⟨fun h => Bool.noConfusion h, ?_⟩)
  conv => whnf
  refine cq_intro (fun h2 => ?_) (fun h2 => ?_) <;> try simp only [Bool.cond_true_left, Bool.cond_false_right, Bool.not_eq_true', Bool.not_eq_false', Bool.not_not] at h2
  · simp only [h2, cond_true] at hk
    subst hk
    repeat ((conv => whnf); first | refine Cd.go ?_ | refine ⟨rfl, ?_⟩ | refine rq_dec ⟨.inl rfl, rfl⟩ ?_ | refine rq_dec rfl ?_ | refine ⟨Nat.le_of_ble_eq_true rfl, ?_⟩ | refine ⟨.inl rfl, ?_⟩ | refine ⟨fun _ => ⟨rfl, Nat.le_of_ble_eq_true rfl⟩, ?_⟩ | refine ⟨fun _ => Nat.le_of_ble_eq_true rfl, ?_⟩ | refine ⟨fun h => Bool.noConfusion h, ?_⟩)
    conv => whnf
    refine ⟨[], trivial, rfl, trivial, rfl, ?_⟩
    try subst hk
    repeat' (first | exact trivial | rfl | exact .inl rfl | exact .inr rfl | exact id | exact (fun h => Bool.noConfusion h) | refine And.intro ?_ ?_)
    · show 0 + l.length ≤ _
      rw [rowsZ_len]; simp
    · refine take0 ?_
      rw [rowsZ_len]; simp
  simp only [h2, cond_false] at hk
  obtain ⟨n, hn, hin, -, -⟩ := idxF_spec (inG f) l (by simpa using h2)
  rw [hin] at hk ⊢
  rw [Int.toNat_natCast] at hk
  have hgn := hg l[n] (List.getElem_mem hn)
  have hfn := hl.free l[n] (List.getElem_mem hn)
  have hpw := ascN_pair _ _ _ hgn.asc
  simp only [getZ l n hn] at hk
  repeat ((conv => whnf); first | refine Cd.go ?_ | refine ⟨rfl, ?_⟩ | refine rq_dec ⟨.inl rfl, rfl⟩ ?_ | refine rq_dec rfl ?_ | refine ⟨Nat.le_of_ble_eq_true rfl, ?_⟩ | refine ⟨.inl rfl, ?_⟩ | refine ⟨fun _ => ⟨rfl, Nat.le_of_ble_eq_true rfl⟩, ?_⟩ | refine ⟨fun _ => Nat.le_of_ble_eq_true rfl, ?_⟩ | refine ⟨fun h => Bool.noConfusion h, ?_⟩)
  conv => whnf
  first | refine rq_dec (⟨by omega, by omega⟩) ?_ | refine gq_dec (fun _ => ⟨by omega, by omega⟩) ?_ | refine ⟨fun _ => ⟨by omega, by omega⟩, ?_⟩
  repeat ((conv => whnf); first | refine Cd.go ?_ | refine ⟨rfl, ?_⟩ | refine rq_dec ⟨.inl rfl, rfl⟩ ?_ | refine rq_dec rfl ?_ | refine ⟨Nat.le_of_ble_eq_true rfl, ?_⟩ | refine ⟨.inl rfl, ?_⟩ | refine ⟨fun _ => ⟨rfl, Nat.le_of_ble_eq_true rfl⟩, ?_⟩ | refine ⟨fun _ => Nat.le_of_ble_eq_true rfl, ?_⟩ | refine ⟨fun h => Bool.noConfusion h, ?_⟩)
  conv => whnf
  first | refine rq_dec (by rw [rowsZ_len]; simp; omega) ?_ | refine gq_dec (fun _ => by rw [rowsZ_len]; simp; omega) ?_ | refine ⟨fun _ => by rw [rowsZ_len]; simp; omega, ?_⟩
  repeat ((conv => whnf); first | refine Cd.go ?_ | refine ⟨rfl, ?_⟩ | refine rq_dec ⟨.inl rfl, rfl⟩ ?_ | refine rq_dec rfl ?_ | refine ⟨Nat.le_of_ble_eq_true rfl, ?_⟩ | refine ⟨.inl rfl, ?_⟩ | refine ⟨fun _ => ⟨rfl, Nat.le_of_ble_eq_true rfl⟩, ?_⟩ | refine ⟨fun _ => Nat.le_of_ble_eq_true rfl, ?_⟩ | refine ⟨fun h => Bool.noConfusion h, ?_⟩)
  conv => whnf
  rw [Nat.zero_add, Int.toNat_natCast, getEx l n hn]
  repeat ((conv => whnf); first | refine Cd.go ?_ | refine ⟨rfl, ?_⟩ | refine rq_dec ⟨.inl rfl, rfl⟩ ?_ | refine rq_dec rfl ?_ | refine ⟨Nat.le_of_ble_eq_true rfl, ?_⟩ | refine ⟨.inl rfl, ?_⟩ | refine ⟨fun _ => ⟨rfl, Nat.le_of_ble_eq_true rfl⟩, ?_⟩ | refine ⟨fun _ => Nat.le_of_ble_eq_true rfl, ?_⟩ | refine ⟨fun h => Bool.noConfusion h, ?_⟩ | refine .inl ⟨_, fun _ => ⟨purA rfl, (by first | exact ok286 l[n].free true f hfn hpw)⟩, .inl rfl, ?_⟩)
  conv => whnf
  refine cq_intro (fun h4 => ?_) (fun h4 => ?_) <;> try simp only [Bool.cond_true_left, Bool.cond_false_right, Bool.not_eq_true', Bool.not_eq_false', Bool.not_not] at h4
  · simp only [h4, cond_true] at hk
    subst hk
    repeat ((conv => whnf); first | refine Cd.go ?_ | refine ⟨rfl, ?_⟩ | refine rq_dec ⟨.inl rfl, rfl⟩ ?_ | refine rq_dec rfl ?_ | refine ⟨Nat.le_of_ble_eq_true rfl, ?_⟩ | refine ⟨.inl rfl, ?_⟩ | refine ⟨fun _ => ⟨rfl, Nat.le_of_ble_eq_true rfl⟩, ?_⟩ | refine ⟨fun _ => Nat.le_of_ble_eq_true rfl, ?_⟩ | refine ⟨fun h => Bool.noConfusion h, ?_⟩)
    conv => whnf
    refine ⟨[], trivial, rfl, trivial, rfl, ?_⟩
    try subst hk
    repeat' (first | exact trivial | rfl | exact .inl rfl | exact .inr rfl | exact id | exact (fun h => Bool.noConfusion h) | refine And.intro ?_ ?_)
    · show 0 + l.length ≤ _
      rw [rowsZ_len]; simp
    · refine take0 ?_
      rw [rowsZ_len]; simp
  simp only [h4, cond_false] at hk
  repeat ((conv => whnf); first | refine Cd.go ?_ | refine ⟨rfl, ?_⟩ | refine rq_dec ⟨.inl rfl, rfl⟩ ?_ | refine rq_dec rfl ?_ | refine ⟨Nat.le_of_ble_eq_true rfl, ?_⟩ | refine ⟨.inl rfl, ?_⟩ | refine ⟨fun _ => ⟨rfl, Nat.le_of_ble_eq_true rfl⟩, ?_⟩ | refine ⟨fun _ => Nat.le_of_ble_eq_true rfl, ?_⟩ | refine ⟨fun h => Bool.noConfusion h, ?_⟩)
  conv => whnf
  first | refine rq_dec (⟨by omega, by omega⟩) ?_ | refine gq_dec (fun _ => ⟨by omega, by omega⟩) ?_ | refine ⟨fun _ => ⟨by omega, by omega⟩, ?_⟩
  repeat ((conv => whnf); first | refine Cd.go ?_ | refine ⟨rfl, ?_⟩ | refine rq_dec ⟨.inl rfl, rfl⟩ ?_ | refine rq_dec rfl ?_ | refine ⟨Nat.le_of_ble_eq_true rfl, ?_⟩ | refine ⟨.inl rfl, ?_⟩ | refine ⟨fun _ => ⟨rfl, Nat.le_of_ble_eq_true rfl⟩, ?_⟩ | refine ⟨fun _ => Nat.le_of_ble_eq_true rfl, ?_⟩ | refine ⟨fun h => Bool.noConfusion h, ?_⟩)
  conv => whnf
  first | refine rq_dec (by rw [rowsZ_len]; simp; omega) ?_ | refine gq_dec (fun _ => by rw [rowsZ_len]; simp; omega) ?_ | refine ⟨fun _ => by rw [rowsZ_len]; simp; omega, ?_⟩
  repeat ((conv => whnf); first | refine Cd.go ?_ | refine ⟨rfl, ?_⟩ | refine rq_dec ⟨.inl rfl, rfl⟩ ?_ | refine rq_dec rfl ?_ | refine ⟨Nat.le_of_ble_eq_true rfl, ?_⟩ | refine ⟨.inl rfl, ?_⟩ | refine ⟨fun _ => ⟨rfl, Nat.le_of_ble_eq_true rfl⟩, ?_⟩ | refine ⟨fun _ => Nat.le_of_ble_eq_true rfl, ?_⟩ | refine ⟨fun h => Bool.noConfusion h, ?_⟩)
  conv => whnf
  rw [Nat.zero_add, Int.toNat_natCast, getEx l n hn]
  repeat ((conv => whnf); first | refine Cd.go ?_ | refine ⟨rfl, ?_⟩ | refine rq_dec ⟨.inl rfl, rfl⟩ ?_ | refine rq_dec rfl ?_ | refine ⟨Nat.le_of_ble_eq_true rfl, ?_⟩ | refine ⟨.inl rfl, ?_⟩ | refine ⟨fun _ => ⟨rfl, Nat.le_of_ble_eq_true rfl⟩, ?_⟩ | refine ⟨fun _ => Nat.le_of_ble_eq_true rfl, ?_⟩ | refine ⟨fun h => Bool.noConfusion h, ?_⟩)
  conv => whnf
  refine .inr ⟨fun _ => ⟨[11408], _, _, _, ok287 l[n].free (atI l[n].free f) f (atI_le _ _) (by omega), ⟨rfl, trivial⟩, rfl, rfl, rfl, ?_⟩, (by intro h; cases h)⟩
  repeat ((conv => whnf); first | refine Cd.go ?_ | refine ⟨rfl, ?_⟩ | refine rq_dec ⟨.inl rfl, rfl⟩ ?_ | refine rq_dec rfl ?_ | refine ⟨Nat.le_of_ble_eq_true rfl, ?_⟩ | refine ⟨.inl rfl, ?_⟩ | refine ⟨fun _ => ⟨rfl, Nat.le_of_ble_eq_true rfl⟩, ?_⟩ | refine ⟨fun _ => Nat.le_of_ble_eq_true rfl, ?_⟩ | refine ⟨fun h => Bool.noConfusion h, ?_⟩)
  conv => whnf
  first | refine rq_dec (⟨by omega, by omega⟩) ?_ | refine gq_dec (fun _ => ⟨by omega, by omega⟩) ?_ | refine ⟨fun _ => ⟨by omega, by omega⟩, ?_⟩
  repeat ((conv => whnf); first | refine Cd.go ?_ | refine ⟨rfl, ?_⟩ | refine rq_dec ⟨.inl rfl, rfl⟩ ?_ | refine rq_dec rfl ?_ | refine ⟨Nat.le_of_ble_eq_true rfl, ?_⟩ | refine ⟨.inl rfl, ?_⟩ | refine ⟨fun _ => ⟨rfl, Nat.le_of_ble_eq_true rfl⟩, ?_⟩ | refine ⟨fun _ => Nat.le_of_ble_eq_true rfl, ?_⟩ | refine ⟨fun h => Bool.noConfusion h, ?_⟩)
  conv => whnf
  first | refine rq_dec (by rw [rowsZ_len]; simp; omega) ?_ | refine ⟨by rw [rowsZ_len]; simp; omega, ?_⟩
  repeat ((conv => whnf); first | refine Cd.go ?_ | refine ⟨rfl, ?_⟩ | refine rq_dec ⟨.inl rfl, rfl⟩ ?_ | refine rq_dec rfl ?_ | refine ⟨Nat.le_of_ble_eq_true rfl, ?_⟩ | refine ⟨.inl rfl, ?_⟩ | refine ⟨fun _ => ⟨rfl, Nat.le_of_ble_eq_true rfl⟩, ?_⟩ | refine ⟨fun _ => Nat.le_of_ble_eq_true rfl, ?_⟩ | refine ⟨fun h => Bool.noConfusion h, ?_⟩)
  conv => whnf
  subst hk
  refine ⟨[], trivial, rfl, trivial, rfl, ?_⟩
  try subst hk
  repeat' (first | exact trivial | rfl | exact .inl rfl | exact .inr rfl | exact id | exact (fun h => Bool.noConfusion h) | refine And.intro ?_ ?_)
  · show 0 + l.length ≤ _
    rw [List.length_set, rowsZ_len]; simp
  · rw [Nat.zero_add, Int.toNat_natCast]
    refine (congrArg (fun r => List.take l.length (List.drop 0 r)) (putFree (l.map exZ) n (by simp; omega) (insI l[n].free (atI l[n].free f) f) false)).trans ?_
    refine (take0 (by rw [rowsZ_len]; simp)).trans ?_
    simp only [List.getElem_map]
    rfl
end Go.Proofs.YtmhapcbjjpadnaaGreat

set_option maxRecDepth 40000
namespace Go.Proofs.YtmhapcbjjpadnaaGreat
open Go Go.Sk Go.RowKit

theorem pair_mono {l : List Int} (hs : l.Pairwise (· < ·)) (i j : Nat) (hij : i < j) (hj : j < l.length) : l.getD i 0 < l.getD j 0 := by
  rw [← getI l i (by omega), ← getI l j hj]
  exact List.pairwise_iff_getElem.1 hs i j (by omega) hj hij
theorem hit_of {l : List Int} (hs : l.Pairwise (· < ·)) {x : Int} {k : Nat} (hk : k < l.length) (h : l.getD k 0 = x) : hitI l x = true := by
  have : atI l x = k := atI_eq l x k (by omega) (fun j hj => by rw [← h]; exact pair_mono hs j k hj hk) (fun j hj hj' => by
    by_cases e : j = k
    · rw [e, h]; exact Int.le_refl _
    · have := pair_mono hs k j (by omega) hj'; omega)
  rw [hitI, this, h, show decide (k < l.length) = true by simpa using hk]
  simp
def accA (l : List Int) (f : Int) (k : Nat) : List Int := if k ≤ atI l f then l.take k else insI (l.take k) (atI l f) f
theorem rowsI_getK (L : List Int) (k : Nat) (h : k < L.length) : (rowsI L).getD ((k : Int)).toNat [] = [.int .i64 (L.getD k 0)] := by
  rw [Int.toNat_natCast, rowsI_get L k h, getI L k h]
end Go.Proofs.YtmhapcbjjpadnaaGreat

set_option maxRecDepth 40000
namespace Go.Proofs.YtmhapcbjjpadnaaGreat
open Go Go.Sk Go.RowKit

structure FreeOk (lo hi : Int) (l : List Int) : Prop where
  asc : l.Pairwise (· < ·)
  inn : ∀ x ∈ l, lo ≤ x ∧ x < hi
theorem ascN_iff (lo hi : Int) (l : List Int) : ascN lo hi l l.length = true ↔ FreeOk lo hi l := by
  constructor
  · intro h
    refine ⟨ascN_pair lo hi l h, fun x hx => ?_⟩
    obtain ⟨i, hi', rfl⟩ := List.getElem_of_mem hx
    have := ascN_mono lo hi l l.length i hi' h
    simp only [freeBad, Bool.or_eq_false_iff, decide_eq_false_iff_not] at this
    rw [getI l i hi']
    omega
  · intro h
    have : ∀ n, n ≤ l.length → ascN lo hi l n = true := by
      intro n
      induction n with
      | zero => intro _; rfl
      | succ n ih =>
        intro hn
        have hlt : n < l.length := by omega
        simp only [ascN, Bool.and_eq_true, Bool.not_eq_true', ih (by omega), true_and]
        have hin := h.inn l[n] (List.getElem_mem hlt)
        rw [getI l n hlt] at hin
        have h3 : (decide (0 < (n : Int)) && decide (l.getD n 0 ≤ l.getD (n - 1) 0)) = false := by
          by_cases e : n = 0
          · simp [e]
          · have := pair_mono h.asc (n - 1) n (by omega) hlt
            rw [show decide (l.getD n 0 ≤ l.getD (n - 1) 0) = false from by simp only [decide_eq_false_iff_not]; omega, Bool.and_false]
        simp only [freeBad, Bool.or_eq_false_iff, decide_eq_false_iff_not, h3, and_true]
        omega
    exact this _ (Nat.le_refl _)
theorem FreeOk.len : ∀ {l : List Int} {lo hi : Int}, FreeOk lo hi l → lo ≤ hi → (l.length : Int) ≤ hi - lo
  | [], _, _, _, h => by simp; omega
  | x :: r, lo, hi, h, _ => by
    have hx := h.inn x (by simp)
    have hp := List.pairwise_cons.1 h.asc
    have := FreeOk.len (l := r) (lo := x + 1) (hi := hi) ⟨hp.2, fun y hy => ⟨by have := hp.1 y hy; omega, (h.inn y (by simp [hy])).2⟩⟩ (by omega)
    simp only [List.length_cons]
    omega
theorem hit_iff {l : List Int} (hs : l.Pairwise (· < ·)) (x : Int) : hitI l x = true ↔ x ∈ l := by
  constructor
  · intro h
    rw [hitI] at h
    by_cases e : atI l x < l.length
    · rw [show decide (atI l x < l.length) = true by simpa using e, cond_true] at h
      have : l.getD (atI l x) 0 = x := by simpa using h
      rw [← this, ← getI l _ e]
      exact List.getElem_mem e
    · rw [show decide (atI l x < l.length) = false by simpa using e] at h; cases h
  · intro h
    obtain ⟨i, hi, rfl⟩ := List.getElem_of_mem h
    exact hit_of hs hi (getI l i hi).symm
structure RZ (f : Int) (z : Zn) : Prop where
  first : z.first = f
  size : 1 ≤ z.size ∧ z.size ≤ 64
  stop : f + z.size ≤ 65
  marks : 0 ≤ z.min ∧ z.min ≤ z.low ∧ z.low ≤ z.high ∧ z.high ≤ z.size
  free : FreeOk f (f + z.size) z.free
theorem right_iff {z : Zn} {f : Int} (hf : 1 ≤ f ∧ f ≤ 65) : rightZ z f = true ↔ RZ f z := by
  constructor
  · intro h
    obtain ⟨g, h1, h2⟩ := right_good hf h
    have g2 := g.stop
    rw [h1] at g2
    refine ⟨h1, g.size, g2, g.marks, ?_⟩
    have := (ascN_iff _ _ _).1 g.asc
    rwa [h1] at this
  · intro h
    have h1 := h.first
    have h2 := h.size
    have h3 := h.stop
    have h4 := h.marks
    have he : endZ z = f + z.size := by rw [endZ, wrapI (by omega) (by omega)]; omega
    have a1 : headBad z f = false := by
      simp only [headBad, Bool.or_eq_false_iff, decide_eq_false_iff_not, bne_eq_false_iff_eq]; omega
    have a2 : markBad z = false := by
      simp only [markBad, Bool.or_eq_false_iff, decide_eq_false_iff_not]; omega
    rw [rightZ, a1, a2, cond_false, cond_false, he, h1]
    exact (ascN_iff _ _ _).2 h.free
def ChZ : Int → List Zn → Prop
  | _, [] => True
  | f, z :: r => RZ f z ∧ ChZ (f + z.size) r
theorem chk_iff : ∀ (l : List Zn) (f : Int), 1 ≤ f ∧ f ≤ 65 → (chkF f l = true ↔ ChZ f l)
  | [], _, _ => by simp [chkF, ChZ]
  | z :: r, f, hf => by
    simp only [chkF, ChZ, Bool.and_eq_true]
    rw [right_iff hf]
    constructor
    · rintro ⟨h1, h2⟩
      have e := (right_good hf ((right_iff hf).2 h1)).2.2
      have := h1.size; have := h1.stop
      rw [e] at h2
      exact ⟨h1, (chk_iff r _ (by omega)).1 h2⟩
    · rintro ⟨h1, h2⟩
      have e := (right_good hf ((right_iff hf).2 h1)).2.2
      have := h1.size; have := h1.stop
      rw [e]
      exact ⟨h1, (chk_iff r _ (by omega)).2 h2⟩
theorem check_iff (l : List Zn) : checkZ l = true ↔ ChZ 1 l ∧ l ≠ [] := by
  rw [checkZ, Bool.and_eq_true, chk_iff l 1 (by decide)]
  refine and_congr Iff.rfl ?_
  cases l <;> simp
theorem ChZ.len : ∀ {l : List Zn} {f : Int}, ChZ f l → f ≤ 65 → f + l.length ≤ 65
  | [], f, _, h => by simpa using h
  | z :: r, f, h, _ => by
    have := h.1.size; have := h.1.stop
    have := ChZ.len h.2 (by omega)
    simp only [List.length_cons]; omega
theorem ChZ.get : ∀ {l : List Zn} {f : Int}, ChZ f l → ∀ (i : Nat) (h : i < l.length), RZ l[i].first l[i] ∧ f ≤ l[i].first
  | z :: r, f, h, 0, _ => by simp only [List.getElem_cons_zero]; rw [h.1.first]; exact ⟨h.1, Int.le_refl _⟩
  | z :: r, f, h, i + 1, hi => by
    have a1 := ChZ.get h.2 i (by simpa using hi)
    have a2 := h.1.size
    simp only [List.getElem_cons_succ]
    exact ⟨a1.1, by omega⟩
theorem check_small {l : List Zn} (h : checkZ l = true) : SmallZ l := by
  have hc := (check_iff l).1 h
  refine ⟨by have := hc.1.len (by decide); omega, fun z hz => ?_⟩
  obtain ⟨i, hi, rfl⟩ := List.getElem_of_mem hz
  obtain ⟨g, -⟩ := hc.1.get i hi
  have := g.free.len (by have := g.size; omega)
  have := g.size
  omega
def SimZ (a b : List Zn) : Prop := a.map exZ = b.map exZ
/-- What Take answers at right zones. -/
inductive TakeR (base l : List Zn) (p : Int) (u : Bool) : List Zn × Int × Int → Prop
  | range (h : p < 0 ∨ (l.length : Int) ≤ p) : TakeR base l p u (base, 0, 2)
  | full (h0 : 0 ≤ p) (h1 : p < l.length) (h : ∀ j : Nat, (j : Int) ≤ p → hasZ u (l.getD j zeroZ) = false) : TakeR base l p u (base, 0, 3)
  | ok (h0 : 0 ≤ p) (h1 : p < l.length) (i : Nat) (hi : i < l.length) (hp : (i : Int) ≤ p) (hz : hasZ u l[i] = true) (hn : ∀ j : Nat, i < j → (j : Int) ≤ p → hasZ u (l.getD j zeroZ) = false) :
      TakeR base l p u (base.set i (takenZ l[i]), l[i].free.getD 0 0, 0)
/-- What Give answers at right zones. -/
inductive GiveR (base l : List Zn) (f : Int) : List Zn × Int → Prop
  | range (h : ∀ z ∈ l, ¬ (z.first ≤ f ∧ f < z.first + z.size)) : GiveR base l f (base, 2)
  | free (i : Nat) (hi : i < l.length) (hf : l[i].first ≤ f ∧ f < l[i].first + l[i].size) (hm : f ∈ l[i].free) : GiveR base l f (base, 5)
  | ok (i : Nat) (hi : i < l.length) (hf : l[i].first ≤ f ∧ f < l[i].first + l[i].size) (hm : f ∉ l[i].free) : GiveR base l f (base.set i (gaveZ l[i] f), 0)
theorem seqI_ok (a b : Int) : FreeOk a b (seqI a b) := by
  refine ⟨?_, fun x hx => (mem_seqI a b x).1 hx⟩
  rw [seqI, List.pairwise_map]
  refine List.Pairwise.imp (fun h => ?_) List.pairwise_lt_range
  omega
theorem divW_in {n k : Int} (h0 : 0 ≤ n) (h1 : n ≤ 64) (hk : 1 ≤ k) : divW n k = n / k ∧ 0 ≤ divW n k ∧ divW n k ≤ n := by
  have e : n.tdiv k = n / k := Int.tdiv_eq_ediv_of_nonneg h0
  have a := Int.ediv_nonneg h0 (show 0 ≤ k by omega)
  have b := Int.ediv_le_self k h0
  rw [divW, e, wrapI (by omega) (by omega)]
  omega
theorem mkZ_right {f n : Int} (hf : 1 ≤ f ∧ f ≤ 65) (h : badN f n = false) : RZ f (mkZ f n) := by
  obtain ⟨a1, a2, a3, a4⟩ := badN_ok hf h
  have d8 := divW_in (n := n) (k := 8) (by omega) a2 (by decide)
  have d4 := divW_in (n := n) (k := 4) (by omega) a2 (by decide)
  have d2 := divW_in (n := n) (k := 2) (by omega) a2 (by decide)
  exact ⟨rfl, ⟨a1, a2⟩, a3, ⟨d8.2.1, by show divW n 8 ≤ divW n 4; rw [d8.1, d4.1]; omega, by show divW n 4 ≤ divW n 2; rw [d4.1, d2.1]; omega, d2.2.2⟩, seqI_ok _ _⟩
theorem newR_ch : ∀ (s : List Int) (f : Int) (l : List Zn), 1 ≤ f ∧ f ≤ 65 → newR f s = some l → ChZ f l ∧ l.length = s.length
  | [], f, l, _, h => by obtain rfl : [] = l := Option.some.inj h; exact ⟨trivial, rfl⟩
  | n :: r, f, l, hf, h => by
    rw [newR] at h
    cases hb : badN f n with
    | true => rw [hb] at h; cases h
    | false =>
      rw [hb, cond_false, Option.map_eq_some_iff] at h
      obtain ⟨l', h1, rfl⟩ := h
      have a := badN_ok hf hb
      obtain ⟨h2, h3⟩ := newR_ch r (f + n) l' (by omega) h1
      exact ⟨⟨mkZ_right hf hb, h2⟩, by simp [h3]⟩
theorem newF_ok {s : List Int} (h : (newF s).2 = 0) : checkZ (newF s).1 = true ∧ (newF s).1.length = s.length ∧ newR 1 s = some (newF s).1 := by
  rw [newF] at h ⊢
  cases hs : ((s.length : Int) == 0) with
  | true => rw [hs] at h; cases h
  | false =>
    rw [hs] at h
    cases hn : newR 1 s with
    | none => rw [hn] at h; cases h
    | some l =>
      obtain ⟨h1, h2⟩ := newR_ch s 1 l (by decide) hn
      refine ⟨(check_iff l).2 ⟨h1, ?_⟩, h2, rfl⟩
      rintro rfl
      simp only [List.length_nil] at h2
      simp [← h2] at hs
end Go.Proofs.YtmhapcbjjpadnaaGreat

