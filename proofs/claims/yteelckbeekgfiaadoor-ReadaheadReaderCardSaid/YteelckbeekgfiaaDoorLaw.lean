/- Readahead: from a function's contract to the given form of a statement. -/
import Derived.Test.YteelckbeekgfiaaDoorRows
import Derived.Test.YteelckbeekgfiaaDoorTie
import Derived.Test.YteelckbeekgfiaaDoorCards
import Derived.Test.YteelckbeekgfiaaDoorR7
import Derived.ProofKit
import Derived.OpenShut
import Derived.SizedLaws
import Derived.LaidMore
import Derived.MakeChecks
import Derived.Below
import Derived.Stop.Joined
import Derived.SevenTiedAt
set_option linter.unusedSimpArgs false
set_option linter.unusedVariables false
namespace Go.Proofs.YteelckbeekgfiaaDoor
open Go Go.Sk Go.RowKit Go.ChangeShapes Go.WideShapes Go.ChangeAt

theorem Tryd.own : ownKnob Tryd.prog.godebug = none := by kernel_rfl
theorem Tryd.laidOut : laidOutB Tryd.prog = true := by kernel_rfl
theorem Tryd.cells3 : Tryd.prog.cellsOf 3 = 1 := by kernel_rfl
theorem Tryd.cells57 : Tryd.prog.cellsOf 57 = 3 := by kernel_rfl
theorem Tryd.bytes3 : Tryd.prog.bytesOf 3 = 8 := by kernel_rfl
theorem gSizes : Tryd.prog.globalNamed "pagecache/readahead.sizes" = some 0 := by kernel_rfl
theorem tSizes : (Tryd.prog.globals[0]?).map (·.type) = some 57 := by kernel_rfl
def laidV : List (String × DataW Unit) := [("pagecache/readahead.sizes", Rows.laid_pagecache_readahead_sizes)]
theorem door_met (os : Os) (args : Array Value) : laidMetH Tryd.prog laidV ((World.doorLaid Tryd.prog 400 os).forCall (fun _ _ => 0) ⟨#[], args, []⟩).memory :=
  laidMetH_of_parts3 (fuel := 8) (laidMet_of_run' 8 (by kernel_rfl) (by kernel_rfl)) (by kernel_rfl) (by kernel_rfl)
/-- What the condition gives: the three cells. -/
theorem of_laid {W : World} (h : laidMetH Tryd.prog laidV W) : W.cell? ⟨0, 0, none⟩ = some (.int .i64 2) ∧ W.cell? ⟨0, 1, none⟩ = some (.int .i64 4) ∧ W.cell? ⟨0, 2, none⟩ = some (.int .i64 8) := by
  rw [MakeChecks.laidMetH_plain _ _ _ (by kernel_rfl)] at h
  obtain ⟨ps, ⟨g0, t0, cs0, f0, p0, q0, hg0, ht0, hv0, hd0, _, _⟩, _, _⟩ := h
  obtain rfl := Option.some.inj (gSizes.symm.trans hg0)
  obtain rfl := Option.some.inj (tSizes.symm.trans ht0)
  have hc := World.var?_cell hg0 hv0
  obtain ⟨xs, m1, rfl, hx1, hlen, hn3, hel⟩ := DataW.trod_array Tryd.underlying57 hd0
  simp only [Prod.mk.injEq] at hx1
  have hx1 := hx1.1
  rw [show Rows.laid_pagecache_readahead_sizes (H := Unit) = .agg [.lit (.int .i64 2), .lit (.int .i64 4), .lit (.int .i64 8)] from rfl] at hx1
  rw [DataW.agg.injEq] at hx1
  rw [Tryd.cells57] at hlen
  obtain ⟨c⟩ := cs0
  match xs, c, hn3, hx1, hlen, hel with
  | [x0, x1, x2], [c0, c1, c2], _, hx1, _, hel =>
    simp only [List.map_cons, List.map_nil, List.cons.injEq, and_true] at hx1
    obtain ⟨h0, h1, h2⟩ := hx1
    rw [Tryd.cells3] at hel
    have one : ∀ (i : Nat) (x : DataW Unit × List MemPlace) (v : Value) (n : Int), i < 3 → [x0, x1, x2][i]? = some x → (([c0, c1, c2].drop (i * 1)).take 1) = [v] → .lit (.int .i64 n) = x.1 → v = .int .i64 n := by
      intro i x v n hi hx hv hl
      have h := hel i hi
      rw [hx] at h
      have h' := h
      obtain ⟨k, e1, e2, _⟩ := DataW.trod_int Tryd.underlying3 h'
      rw [e2] at hl
      have hk : n = k := by simpa using hl
      subst hk
      have e1 := hv.symm.trans e1
      simpa using e1
    have v0 := one 0 x0 c0 2 (by decide) rfl rfl h0
    have v1 := one 1 x1 c1 4 (by decide) rfl rfl h1
    have v2 := one 2 x2 c2 8 (by decide) rfl rfl h2
    subst v0 v1 v2
    exact ⟨(hc 0).trans rfl, (hc 1).trans rfl, (hc 2).trans rfl⟩

theorem nomatchB {α : Type} {x : Option α} {y : α} {P : Prop} (h : x = none) (h2 : x = some y) : P := by rw [h] at h2; cases h2
theorem lst_VR {O : Nat → Prop} (hO : ∀ b, ¬ O b) {W : World} {a0 : Option Addr} {len cap : Nat} {zs : List Int} (hlen : len ≤ zs.length) (hcap : len ≤ cap)
    (hcell : 0 < len → ∃ b off, a0 = some ⟨b, off, none⟩ ∧ b < W.heap.size ∧ ∀ i, i < len → W.cell? ⟨b, off + i, none⟩ = some (.int .i64 (zs.getD i 0))) :
    VR O W (fun _ => none) (.lst 1 false (rowsI (zs.take len))) (.slice a0 len cap) := by
  by_cases h0 : len = 0
  · subst h0
    exact .lst (xs := []) 0 0 (fun _ _ => undef) (by simp) (by simp) (by simp) (by simp) (by simp) (by simp) (by simp)
  · obtain ⟨b, off, rfl, hb, hc⟩ := hcell (by omega)
    have e : (rowsI (zs.take len)).length = len := by rw [rowsI_len, List.length_take]; omega
    have key := VR.lst (O := O) (w := W) (σ := fun _ => none) (es := 1) (t := false) (xs := rowsI (zs.take len)) (a := some ⟨b, off, none⟩) (cap := cap) b off (fun i _ => .int .i64 (zs.getD i 0))
      (fun _ => ⟨rfl, hO b, hb⟩) (fun x hx => by obtain ⟨n, -, rfl⟩ := List.mem_map.1 hx; rfl) (by omega) (by simp)
      (fun i c hi hc' => by
        obtain rfl : c = 0 := by omega
        rw [Nat.mul_one, Nat.add_zero]; exact hc i (by omega))
      (fun i c _ _ => rfl)
      (fun i x c y hx hy => by
        obtain ⟨hi, -⟩ := List.getElem?_eq_some_iff.1 hx
        rw [e] at hi
        simp only [rowsI, List.getElem?_map, Option.map_eq_some_iff] at hx
        obtain ⟨n, hn, rfl⟩ := hx
        rw [List.getElem?_take, if_pos hi, List.getElem?_eq_getElem (by omega)] at hn
        obtain rfl := Option.some.inj hn
        obtain ⟨hc1, -⟩ := List.getElem?_eq_some_iff.1 hy
        obtain rfl : c = 0 := by simp at hc1; omega
        simp only [List.getElem?_cons_zero, Option.some.injEq] at hy
        subst hy
        have : zs.getD i 0 = zs[i]'(by omega) := by simp [List.getD_eq_getElem?_getD, show i < zs.length by omega]
        rw [this]; exact .int _ _)
    rw [e] at key
    exact key

theorem run_FnC {f : FuncId} {args : List V} {cargs : Array Value} (h : FnC Tryd.prog f [] args (.bool true) []) (W : World) (hL : laidMetH Tryd.prog laidV W) (hn : cargs.size = args.length)
    (ha : ∀ (i : Nat) v c, args[i]? = some v → cargs[i]? = some c → VR (Own (fun _ => False) (fun _ => none) (mkFrom 0 [])) W (fun _ => none) v c) :
    Calls Tryd.prog f cargs W fun e w' => e = .returned (.bool true) ∧ Below W.heap.size W w' := by
  have hE : ∀ (σ : Sg) b, ¬ OwnE σ (mkFrom 0 []) b := fun σ b ⟨k, o, es, cap, hk, _⟩ => by simp [mkFrom, Store.get] at hk
  obtain ⟨c0, c1, c2⟩ := of_laid hL
  have hgl : GlR (Own (fun _ => False) (fun _ => none) (mkFrom 0 [])) W := by
    intro g cs hg
    match g with
    | 0 =>
      obtain rfl := Option.some.inj (show some [V.int .i64 2, V.int .i64 4, V.int .i64 8] = some cs from hg)
      refine .rp 0 0 (fun j => match j with | 0 => .int .i64 2 | 1 => .int .i64 4 | _ => .int .i64 8) rfl (fun h => h.elim id (hE _ 0)) (World.block_lt_of_cell? W _ c0) (fun j hj => ?_) (fun j hj => ?_) (fun j y hy => ?_)
      · match j, hj with
        | 0, _ => exact c0
        | 1, _ => exact c1
        | 2, _ => exact c2
      · match j, hj with
        | 0, _ => rfl
        | 1, _ => rfl
        | 2, _ => rfl
      · match j with
        | 0 => obtain rfl := Option.some.inj (show some (V.int .i64 2) = some y from hy); exact .int _ _
        | 1 => obtain rfl := Option.some.inj (show some (V.int .i64 4) = some y from hy); exact .int _ _
        | 2 => obtain rfl := Option.some.inj (show some (V.int .i64 8) = some y from hy); exact .int _ _
        | j + 3 => simp at hy
    | g + 1 => exact nomatchB (show Tab.gl (g + 1) = none from rfl) hg
  refine (h (fun _ => False) (fun _ => none) W cargs ⟨fun k o hk => by simp [mkFrom, Store.get] at hk, fun k k' o o' b es cap es' cap' hk => by simp [mkFrom, Store.get] at hk, fun k _ => ⟨rfl, rfl⟩, fun b hb => absurd hb (hE _ b), fun b hb => hb.elim, hgl⟩ hn ha).mono ?_
  rintro e w' ⟨cv, σ', rfl, -, hv, g⟩
  cases hv
  exact ⟨rfl, (g.keep.wider (O' := fun _ => False) fun b hb => hE _ b hb).below⟩

/-- What is known of an argument that is a list of numbers. -/
structure IntsArg (W : World) (a0 : Option Addr) (len cap : Nat) (zs : List Int) : Prop where
  le : len ≤ zs.length
  cap : len ≤ cap
  cell : 0 < len → ∃ b off, a0 = some ⟨b, off, none⟩ ∧ b < W.heap.size ∧ ∀ i, i < len → W.cell? ⟨b, off + i, none⟩ = some (.int .i64 (zs.getD i 0))
  small : (len : Int) < 2 ^ 62

theorem open_arg {H : Type} {enc : TypeId × Value → H} {W : World} {a0 : Option Addr} {len cap : Nat} {d0 : DataW H} {p : List MemPlace} {ts : List TypeId} {ds : List (DataW H)} (h0 : DataW.Trod enc Tryd.prog W 0 (fun _ => true) true 22 (.slice a0 len cap) d0 p)
    (hsz : (DataW.weightsEach Tryd.prog (22 :: ts) (d0 :: ds)).all (· ≤ reachBytes) = true) : ∃ zs, IntsArg W a0 len cap zs := by
  obtain ⟨fuel, hf⟩ := h0
  rcases open_ints Tryd.underlying22 Tryd.underlying3 Tryd.cells3 hf with ⟨hcs, hx⟩ | ⟨a, len', cap', zs, hcs, _, hl, hm, hz, hx, hcell, hwz⟩
  · simp [Value.cells] at hcs
    obtain ⟨rfl, rfl, rfl⟩ := hcs
    exact ⟨[], by simp, by simp, by simp, by decide⟩
  · simp [Value.cells] at hcs
    obtain ⟨rfl, rfl, rfl⟩ := hcs
    simp only [Prod.mk.injEq] at hx
    obtain ⟨rfl, rfl⟩ := hx
    simp only [if_true] at hz
    refine ⟨zs, by omega, hl, fun h => ?_, ?_⟩
    · obtain ⟨b, off, spot⟩ := a
      have hspot : spot = none := by simpa [Addr.add] using World.cell?_spot (hcell 0 (by omega))
      subst hspot
      have hcell' : ∀ j, j < zs.length → W.cell? ⟨b, off + j, none⟩ = some (.int .i64 (zs.getD j 0)) := fun j hj => by rw [← add_plain]; exact hcell j hj
      exact ⟨b, off, rfl, World.block_lt_of_cell? W _ (hcell' 0 (by omega)), fun i hi => hcell' i (by omega)⟩
    · have hb := sized_slice hsz (j := 0) (t := 22) (e := 3) rfl rfl Tryd.underlying22
      rw [Tryd.bytes3] at hb
      have := reachBytes_lt
      simp only [lits, List.length_map, List.length_take, List.length_drop] at hb
      omega
end Go.Proofs.YteelckbeekgfiaaDoor
