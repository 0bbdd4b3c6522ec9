/- Zone: slices.Insert at []int, by the kit's contracts. -/
import Derived.Test.YtcifhjkodbaghaaB11
import Derived.Shelf.Spec.SlicesInsertGrow
set_option linter.unusedSimpArgs false
set_option linter.unusedVariables false
namespace Go.Proofs.Ytcifhjkodbaghaa
open Go Go.Sk Go.RowKit Go.Shelf

def ren21 : Ren := ⟨fun | 21 => 61 | 27 => 80 | 28 => 81 | 35 => 86 | 39 => 88 | n => n, fun n => n, fun n => n⟩
theorem lays21 : Lays2.n21 Try.prog ren21 where
  mixed := by kernel_rfl
  f21 := Try.func61.trans (congrArg some (by kernel_rfl))
  f27 := Try.func80.trans (congrArg some (by kernel_rfl))
  f28 := Try.func81.trans (congrArg some (by kernel_rfl))
  f35 := Try.func86.trans (congrArg some (by kernel_rfl))
  f39 := Try.func88.trans (congrArg some (by kernel_rfl))
  t0 := Try.underlying0
  a0 := Try.isAgg0
  z0 := Try.sizeOf0
  v0 := Try.zeroValue0
  t3 := Try.underlying3
  a3 := Try.isAgg3
  z3 := Try.sizeOf3
  v3 := Try.zeroValue3
  t4 := Try.underlying4
  a4 := Try.isAgg4
  z4 := Try.sizeOf4
  v4 := Try.zeroValue4
  t22 := Try.underlying22
  a22 := Try.isAgg22
  z22 := Try.sizeOf22
  v22 := Try.zeroValue22
  i3 := by kernel_rfl

def wrote : Array Value → Nat → List Value → Array Value
  | arr, _, [] => arr
  | arr, o, v :: r => wrote (arr.setIfInBounds o v) (o + 1) r
theorem wrote_size : ∀ (vs : List Value) (o : Nat) (arr : Array Value), (wrote arr o vs).size = arr.size
  | [], _, _ => rfl
  | v :: r, o, arr => by rw [wrote, wrote_size r]; simp
theorem wrote_get : ∀ (vs : List Value) (o : Nat) (arr : Array Value) (j : Nat), o + vs.length ≤ arr.size → (wrote arr o vs)[j]? = if o ≤ j ∧ j < o + vs.length then vs[j - o]? else arr[j]?
  | [], o, arr, j, _ => by simp [wrote]; intro h1 h2; omega
  | v :: r, o, arr, j, h => by
    simp only [List.length_cons] at h
    rw [wrote, wrote_get r (o + 1) _ j (by simp; omega)]
    simp only [List.length_cons]
    by_cases h1 : j = o
    · subst h1
      rw [if_neg (by omega), if_pos (by omega), Array.getElem?_setIfInBounds_self_of_lt (by omega)]
      simp
    · by_cases h2 : o + 1 ≤ j ∧ j < o + 1 + r.length
      · rw [if_pos h2, if_pos (by omega), show j - o = (j - (o + 1)) + 1 by omega, List.getElem?_cons_succ]
      · rw [if_neg h2, if_neg (by omega), Array.getElem?_setIfInBounds_ne (by omega)]
theorem setCells_os (b : Nat) : ∀ (vs : List Value) (o : Nat) (w : World), (w.setCells b o vs).os = w.os ∧ (w.setCells b o vs).tape = w.tape ∧ (w.setCells b o vs).output = w.output
  | [], _, _ => ⟨rfl, rfl, rfl⟩
  | v :: r, o, w => setCells_os b r (o + 1) (w.setCell ⟨b, o, none⟩ v)
theorem setCells_heap (h : Array Go.Obj) (ty : TypeId) : ∀ (vs : List Value) (o : Nat) (w : World) (arr : Array Value), w.heap = h.push (.cells arr ty) → (w.setCells h.size o vs).heap = h.push (.cells (wrote arr o vs) ty)
  | [], _, _, _, e => e
  | v :: r, o, w, arr, e => by
    rw [World.setCells, wrote]
    refine setCells_heap h ty r (o + 1) _ _ ?_
    unfold World.setCell
    dsimp only
    rw [e]
    apply Array.ext_getElem?
    intro j
    rw [Array.getElem?_modify, Array.getElem?_push, Array.getElem?_push]
    by_cases hj : j = h.size
    · subst hj; simp
    · rw [if_neg (by omega), if_neg hj, if_neg hj]

theorem oneI (n : Int) : (Value.int .i64 n).oneCell' = true := rfl
/-- The values of a row of ints. -/
def valI (l : List Int) : List Value := l.map fun x => .int .i64 x
def insI (l : List Int) (i : Nat) (x : Int) : List Int := l.take i ++ x :: l.drop i
theorem lst_valI {O : Nat → Prop} {w : World} {σ : Sg} {t : Bool} {l : List Int} {v : Value} (h : VR O w σ (.lst 1 t (rowsI l)) v) :
    ∃ a cap b o, v = .slice a l.length cap ∧ (l ≠ [] → a = some ⟨b, o, none⟩ ∧ ¬ O b ∧ b < w.heap.size) ∧ l.length ≤ cap ∧ (t = true → cap = l.length) ∧ (∀ (j : Nat) (u : Value), (valI l)[j]? = some u → w.cell? ⟨b, o + j, none⟩ = some u) := by
  cases h with
  | @lst _ _ _ _ a cap b o cv ha hes hcap ht h1 h3 h2 =>
    rw [rowsI_len] at hcap ht
    refine ⟨a, cap, b, o, by rw [rowsI_len], fun hl => ha (by cases l with | nil => exact absurd rfl hl | cons _ _ => simp [rowsI]), hcap, ht, fun j u hj => ?_⟩
    simp only [valI, List.getElem?_map, Option.map_eq_some_iff] at hj
    obtain ⟨x, hx, rfl⟩ := hj
    obtain ⟨hlt, hx'⟩ := List.getElem?_eq_some_iff.1 hx
    have := h2 j [.int .i64 x] 0 (.int .i64 x) (by simp [rowsI, hx]) rfl
    have hc := h1 j 0 (by rw [rowsI_len]; exact hlt) (by omega)
    cases hq : cv j 0 with
    | int k n => rw [hq] at this; cases this; rw [hq] at hc; simpa using hc
    | _ => rw [hq] at this; cases this
/-- What a fresh block of ints is seen as. -/
theorem VR_fresh {O : Nat → Prop} {w w' : World} {σ : Sg} {arr : Array Value} {ty : TypeId} (hm : More w w' arr ty) (hO : ¬ O w.heap.size) (L : List Int) (cap : Nat) (hcap : L.length ≤ cap) (hg : ∀ (j : Nat) (u : Value), (valI L)[j]? = some u → arr[j]? = some u) :
    VR O w' σ (.lst 1 false (rowsI L)) (.slice (some ⟨w.heap.size, 0, none⟩) L.length cap) := by
  have hsz : w.heap.size < w'.heap.size := by rw [hm.heap]; simp
  rw [← rowsI_len L]
  refine .lst w.heap.size 0 (fun i _ => .int .i64 (L.getD i 0)) (fun _ => ⟨rfl, hO, hsz⟩) (fun x hx => by simp only [rowsI, List.mem_map] at hx; obtain ⟨y, -, rfl⟩ := hx; rfl) (by rw [rowsI_len]; exact hcap) (fun h => by cases h) (fun i c hi hc => ?_) (fun _ _ _ _ => rfl) fun i x c y hx hy => ?_
  · rw [rowsI_len] at hi
    obtain rfl : c = 0 := by omega
    have h2 := hg i (.int .i64 (L.getD i 0)) (by simp [valI, hi])
    have hnew := hm.new
    simp only [Nat.zero_add, Nat.mul_one, Nat.add_zero]
    rw [World.cell?, hnew]
    simpa using h2
  · simp only [rowsI, List.getElem?_map, Option.map_eq_some_iff] at hx
    obtain ⟨z, hz, rfl⟩ := hx
    cases c with
    | zero => simp only [List.getElem?_cons_zero, Option.some.injEq] at hy; subst hy; simp [List.getD_eq_getElem?_getD, hz]; exact .int _ _
    | succ c => simp at hy
/-- Nothing owned turns; a new block comes. -/
theorem RelS.newBlock {U : Nat → Prop} {σ : Sg} {S : Store} {w w' : World} {n : Nat} (hR : RelS U σ S w n) {arr : Array Value} {ty : TypeId} (hm : More w w' arr ty) : Grow σ S w n σ S w' n ∧ RelS U σ S w' n := by
  have g : Grow σ S w n σ S w' n := ⟨hm.keep _, fun b _ h => h, fun _ _ => rfl, Nat.le_refl _⟩
  exact ⟨g, hR.step g hR.fresh hR.inj fun k p hk => .inl ⟨hk, fun b e c hs => hm.old (hR.size ⟨k, p, e, c, hk, hs⟩)⟩⟩

/-- The block that Insert leaves, where it grows in the middle. -/
theorem more_grow (w : World) (i n cap : Nat) (x : Int) (l : List Int) (ty : TypeId) (hl : l.length = n) (hi : i < n) (z : Array Value) (hz : z.size = 1) (hcap : n + 1 ≤ cap) :
    ∃ arr, More w ((((w.alloc (.cells (((valI l).take i).toArray ++ Builtin.zeroCells z (n + 1 - i) ++ Builtin.zeroCells z (cap - (n + 1))) ty)).drew.setCells w.heap.size i [.int .i64 x]).drew).setCells w.heap.size (i + 1) ((valI l).drop i)) arr ty ∧
      ∀ (j : Nat) (u : Value), (valI (insI l i x))[j]? = some u → arr[j]? = some u := by
  have hv : (valI l).length = n := by simp [valI, hl]
  generalize hA : ((valI l).take i).toArray ++ Builtin.zeroCells z (n + 1 - i) ++ Builtin.zeroCells z (cap - (n + 1)) = A
  have hAs : A.size = cap := by
    rw [← hA]; simp [Builtin.zeroCells, hz, hv]; omega
  have h1 : (w.alloc (.cells A ty)).drew.heap = w.heap.push (.cells A ty) := rfl
  have h2 := setCells_heap w.heap ty [.int .i64 x] i _ A h1
  have h3 : ((w.alloc (.cells A ty)).drew.setCells w.heap.size i [.int .i64 x]).drew.heap = _ := h2
  have h4 := setCells_heap w.heap ty ((valI l).drop i) (i + 1) _ _ h3
  have o1 := setCells_os w.heap.size [.int .i64 x] i (w.alloc (.cells A ty)).drew
  have o2 := setCells_os w.heap.size ((valI l).drop i) (i + 1) ((w.alloc (.cells A ty)).drew.setCells w.heap.size i [.int .i64 x]).drew
  refine ⟨_, ⟨o2.1.trans o1.1, o2.2.1.trans o1.2.1, o2.2.2.trans o1.2.2, h4⟩, fun j u hj => ?_⟩
  have hd : ((valI l).drop i).length = n - i := by simp [hv]
  rw [wrote_get _ _ _ _ (by rw [wrote_size, hd, hAs]; omega), wrote_get _ _ _ _ (by rw [hAs]; simp; omega), hd]
  have hins : valI (insI l i x) = (valI l).take i ++ Value.int .i64 x :: (valI l).drop i := by simp [valI, insI]
  rw [hins, List.getElem?_append] at hj
  have ht : ((valI l).take i).length = i := by simp [hv]; omega
  rw [ht] at hj
  split at hj
  · rename_i hlt
    rw [if_neg (by omega), if_neg (by simp; omega), ← hA, Array.append_assoc, Array.getElem?_append_left (by simp [ht]; omega)]
    simpa using hj
  · rename_i hge
    by_cases he : j = i
    · subst he
      rw [if_neg (by omega), if_pos (by simp)]
      simpa using hj
    · have hj' : ((valI l).drop i)[j - (i + 1)]? = some u := by
        rw [show j - i = (j - (i + 1)) + 1 by omega, List.getElem?_cons_succ] at hj; exact hj
      obtain ⟨hlt, -⟩ := List.getElem?_eq_some_iff.1 hj'
      rw [hd] at hlt
      rw [if_pos (by omega)]
      exact hj'
theorem more_end (w : World) (n cap : Nat) (x : Int) (l : List Int) (ty : TypeId) (z : Array Value) :
    ∃ arr, More w (w.drew.alloc (.cells ((valI l ++ [Value.int .i64 x]).toArray ++ Builtin.zeroCells z cap) ty)) arr ty ∧
      ∀ (j : Nat) (u : Value), (valI (insI l l.length x))[j]? = some u → arr[j]? = some u := by
  refine ⟨_, More.drewAlloc w _ ty, fun j u hj => ?_⟩
  have hins : valI (insI l l.length x) = valI l ++ [Value.int .i64 x] := by simp [valI, insI]
  rw [hins] at hj
  obtain ⟨hlt, -⟩ := List.getElem?_eq_some_iff.1 hj
  rw [Array.getElem?_append_left (by simpa using hlt)]
  simpa using hj
theorem insI_len (l : List Int) (i : Nat) (x : Int) : (insI l i x).length = l.length + 1 := by simp [insI]; omega
/-- slices.Insert where there is no room: a new row, seen as what it holds. -/
theorem ok61 (l : List Int) (i : Nat) (x : Int) (hi : i ≤ l.length) (hbig : (l.length + 1) * 8 ≤ 140737488355328) :
    FnC Try.prog 61 [.row 1 [[.int .i64 x]]] [.lst 1 true (rowsI l), .int .i64 i, .sl 0 0 1] (.lst 1 false (rowsI (insI l i x))) [.row 1 [[.int .i64 x]]] := by
  intro U σ w cargs hR hn hargs
  obtain ⟨c0, c1, c2, rfl⟩ : ∃ a b c, cargs = #[a, b, c] := by
    rcases cargs with ⟨L⟩
    match L, hn with
    | [a, b, c], _ => exact ⟨a, b, c, rfl⟩
  have a0 := hargs 0 _ c0 rfl rfl
  have a1 := hargs 1 _ c1 rfl rfl
  have a2 := hargs 2 _ c2 rfl rfl
  obtain ⟨a, cap, b, o, rfl, hb, hcap, ht, hcs⟩ := lst_valI a0
  obtain rfl := ht rfl
  cases a1 with
  | int =>
    cases a2 with
    | @sl _ _ _ _ vb es vcap va hs hle ha =>
      have hob := hR.obj 0 (.row 1 [[.int .i64 x]]) rfl
      rw [hs] at hob
      obtain ⟨-, rfl, -, arr, ty, hblk, hasz, hcells⟩ := hob
      obtain ⟨xv, hx1, -, hx2⟩ := hcells 0 _ 0 _ rfl rfl
      cases hx2 with
      | int =>
        obtain rfl := ha (by omega)
        have hvs : ∀ (j : Nat) (v : Value), ([Value.int .i64 x])[j]? = some v → w.cell? ⟨vb, 0 * 1 + j, none⟩ = some v := fun j v hj => by
          cases j with
          | zero =>
            simp only [List.getElem?_cons_zero, Option.some.injEq] at hj
            subst hj
            rw [World.cell?, hblk]
            simpa using hx1
          | succ j => simp at hj
        have fin : ∀ (w' : World) (arr' : Array Value) (ty' : TypeId) (G : Nat), More w w' arr' ty' → l.length + 1 ≤ G → (∀ (j : Nat) (u : Value), (valI (insI l i x))[j]? = some u → arr'[j]? = some u) →
            ∃ cv σ', (Ending.returned (.slice (some ⟨w.heap.size, 0, none⟩) (l.length + 1) G)) = .returned cv ∧ RelS U σ' (mkFrom 0 [.row 1 [[.int .i64 x]]]) w' 1 ∧ VR (Own U σ' (mkFrom 0 [.row 1 [[.int .i64 x]]])) w' σ' (.lst 1 false (rowsI (insI l i x))) cv ∧
              Grow σ (mkFrom 0 [.row 1 [[.int .i64 x]]]) w 1 σ' (mkFrom 0 [.row 1 [[.int .i64 x]]]) w' 1 := fun w' arr' ty' G hm hG hg => by
          obtain ⟨g, hR'⟩ := RelS.newBlock hR hm
          refine ⟨_, σ, rfl, hR', ?_, g⟩
          rw [← insI_len l i x]
          refine VR_fresh hm (fun h => ?_) _ _ (by rw [insI_len]; exact hG) hg
          rcases h with h | h
          · exact absurd (hR.ulim _ h) (by omega)
          · exact absurd (hR.size h) (by omega)
        have one : ∀ v ∈ valI l, v.oneCell' = true := fun v hv => by
          simp only [valI, List.mem_map] at hv; obtain ⟨y, -, rfl⟩ := hv; rfl
        by_cases he : i = l.length
        · subst he
          refine (Any2.slices_Insert_int_end_grow lays21 a l.length l.length vb (0 * 1) 1 (vcap - 0) (valI l) [.int .i64 x] w (by omega) (by omega) (by omega) hbig (by simp [valI]) rfl (fun h => ?_) (fun a' h j v hj => ?_) hvs (by simp [oneI])).mono ?_
          · cases l with
            | nil => rfl
            | cons y r => have := (hb (by simp)).1; rw [h] at this; cases this
          · have hne : l ≠ [] := by rintro rfl; simp [valI] at hj
            have := (hb hne).1
            rw [h] at this
            cases this
            rw [Addr.add_lit]; exact hcs j v hj
          · rintro e w' ⟨rfl, rfl⟩
            obtain ⟨arr', hm, hg⟩ := more_end w l.length (grownCap w (l.length + 1) l.length (ren21.t 3) - (l.length + 1)) x l (ren21.t 3) (Value.int .i64 0).cells
            exact fin _ arr' _ _ hm (le_grownCap _ _ _ _) hg
        · have hne : l ≠ [] := by rintro rfl; simp at hi; exact he (by simpa using hi)
          obtain ⟨rfl, hnb, hbw⟩ := hb hne
          refine (Any2.slices_Insert_int_grow lays21 b o l.length l.length i vb (0 * 1) 1 (vcap - 0) (valI l) [.int .i64 x] w (by omega) (by omega) (by omega) (by omega) hbig (by simp [valI]) rfl hcs hvs one (by simp [oneI])).mono ?_
          rintro e w' ⟨rfl, rfl⟩
          obtain ⟨arr', hm, hg⟩ := more_grow w i l.length (grownCap w (l.length + 1) l.length (ren21.t 3)) x l (ren21.t 3) rfl (by omega) (Value.int .i64 0).cells rfl (le_grownCap _ _ _ _)
          exact fin _ arr' _ _ hm (le_grownCap _ _ _ _) hg
end Go.Proofs.Ytcifhjkodbaghaa
