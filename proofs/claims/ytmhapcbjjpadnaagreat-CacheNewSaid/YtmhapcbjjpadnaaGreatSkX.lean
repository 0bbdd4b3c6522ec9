/- Sk, part X: operations on strings. -/
import Derived.Test.YtmhapcbjjpadnaaGreatSkC
import Derived.Laws.IdiomStrings
import Derived.Laws.DeepStrings4
import Derived.Laws.Concat
import Derived.Laws.BytesArg
set_option linter.unusedSimpArgs false
set_option linter.unusedVariables false
set_option linter.unusedSectionVars false
namespace Go.Sk
open Go Go.RowKit
variable [Tab]
section
variable {P : Program} {U : Nat → Prop} {σ : Sg} {S : Store} {w : World} {n : Nat} {ρ : Operand → Value} {e : A → V} {K : V → Prop}

theorem eqGuard_str (op : BinOp) (t : TypeId) (x y : Operand) (a b : ByteArray) (ht : P.underlying t = some .string) (w' : World) : (eqGuard op t x y (.string a) (.string b)).run P w' = .ok () w' := by
  have hm : P.eqGuardType P.depth t = false := by
    cases hd : P.depth with
    | zero => simp [Program.depth] at hd
    | succ d => simp [Program.eqGuardType, ht]
  cases op <;> simp [eqGuard, run_program, hm]

theorem rd_slen {t : TypeId} {x : Operand} {a : A} (ht : P.underlying t = some .string) (o : Op) (ho : o = .call { callee := .builtin .len, args := #[x], argTypes := #[t] })
    (hx : VR (Own U σ S) w σ (e a) (ρ x)) (hK : rdK S (.slen a) e true K) : RdOk P U σ S w ρ o K := by
  unfold rdK at hK
  simp only at hK
  split at hK
  · rename_i s h1
    rw [h1] at hx
    generalize hva : ρ x = va at hx
    cases hx
    exact ⟨_, _, hK, .int _ _, fun w' o' h _ => by simp [execOp, h, ho, resolve, invoke, builtin, Builtin.len_, hva, run_underlying ht, goInt]⟩
  · exact absurd hK.1 (by simp)

theorem rd_sidx {t : TypeId} {x i : Operand} {a b : A} (ht : P.underlying t = some .string) (hx : VR (Own U σ S) w σ (e a) (ρ x)) (hy : VR (Own U σ S) w σ (e b) (ρ i)) (hK : rdK S (.sidx a b) e true K) : RdOk P U σ S w ρ (.index t x i) K := by
  unfold rdK at hK
  simp only at hK
  split at hK
  · rename_i s k j h1 h2
    rw [h1] at hx
    rw [h2] at hy
    generalize hva : ρ x = va at hx
    generalize hvb : ρ i = vb at hy
    cases hx
    cases hy
    obtain ⟨hj, hK⟩ := hK
    have hj := hj trivial
    have hlt : j.toNat < s.data.toList.length := by have : s.data.toList.length = s.size := rfl; omega
    have e1 : s.data.toList.getD j.toNat 0 = s[j.toNat]'(by have : s.data.toList.length = s.size := rfl; omega) := by
      rw [List.getD_eq_getElem?_getD, List.getElem?_eq_getElem hlt]; rfl
    rw [e1] at hK
    exact ⟨_, _, hK, .int _ _, fun w' o' h _ => by simp [execOp, h, hva, hvb, run_index_string w' t s k j ht, hj]⟩
  · exact absurd hK.1 (by simp)

theorem rd_ssl {t : TypeId} {x : Operand} {lo hi : Option Operand} {a : A} {la ha : Option A} (ht : P.underlying t = some .string) (hx : VR (Own U σ S) w σ (e a) (ρ x))
    (hlo : match lo, la with | none, none => True | some l, some l' => VR (Own U σ S) w σ (e l') (ρ l) | _, _ => False)
    (hhi : match hi, ha with | none, none => True | some l, some l' => VR (Own U σ S) w σ (e l') (ρ l) | _, _ => False)
    (hK : rdK S (.ssl a la ha) e true K) : RdOk P U σ S w ρ (.slice t x lo hi none) K := by
  unfold rdK at hK
  simp only at hK
  split at hK
  · rename_i s h1
    rw [h1] at hx
    generalize hva : ρ x = va at hx
    cases hx
    split at hK
    · rename_i k1 l k2 h e1 e2
      obtain ⟨hb, hK⟩ := hK
      obtain ⟨b0, b1, b2⟩ := hb trivial
      have B1 : bnd ρ lo 0 l := by
        cases lo with
        | none =>
          cases la with
          | none => simp only [V.int.injEq] at e1; exact e1.2.symm
          | some _ => exact hlo.elim
        | some z =>
          cases la with
          | none => exact hlo.elim
          | some z' =>
            simp only at hlo e1
            rw [e1] at hlo
            generalize hv : ρ z = v at hlo
            cases hlo
            exact ⟨_, hv⟩
      have B2 : bnd ρ hi (s.size : Int) h := by
        cases hi with
        | none =>
          cases ha with
          | none => simp only [V.int.injEq] at e2; exact e2.2.symm
          | some _ => exact hhi.elim
        | some z =>
          cases ha with
          | none => exact hhi.elim
          | some z' =>
            simp only at hhi e2
            rw [e2] at hhi
            generalize hv : ρ z = v at hhi
            cases hhi
            exact ⟨_, hv⟩
      refine ⟨_, .string (s.extract l.toNat h.toNat), hK, .str _, fun w' o' hop _ => ?_⟩
      have h0h : 0 ≤ h := by omega
      have el : ((h.toNat : Nat) : Int) = h := Int.toNat_of_nonneg h0h
      have full : s.extract 0 s.size = s := by simp
      cases lo with
      | none =>
        have B1 : l = 0 := B1
        subst B1
        cases hi with
        | none =>
          have B2 : h = (s.size : Int) := B2
          subst B2
          simp [execOp, hop, Instr.sliceAt, Instr.slice, Instr.sliceBounds, hva, run_underlying ht]
        | some z =>
          obtain ⟨k, hz⟩ := B2
          simp [execOp, hop, Instr.sliceAt, Instr.slice, Instr.sliceBounds, Instr.sliceBound, asIntOf_int, hva, hz, run_underlying ht, h0h, b2]
      | some y =>
        obtain ⟨k', hy⟩ := B1
        cases hi with
        | none =>
          have B2 : h = (s.size : Int) := B2
          subst B2
          simp [execOp, hop, Instr.sliceAt, Instr.slice, Instr.sliceBounds, Instr.sliceBound, asIntOf_int, hva, hy, run_underlying ht, b0, b1]
        | some z =>
          obtain ⟨k, hz⟩ := B2
          simp [execOp, hop, Instr.sliceAt, Instr.slice, Instr.sliceBounds, Instr.sliceBound, asIntOf_int, hva, hy, hz, run_underlying ht, b0, h0h, b2, b1, el]
    · exact absurd hK.1 (by simp)
  · exact absurd hK.1 (by simp)

theorem rd_scat {t u : TypeId} {x y : Operand} {a b : A} (ht : P.underlying t = some .string) (hx : VR (Own U σ S) w σ (e a) (ρ x)) (hy : VR (Own U σ S) w σ (e b) (ρ y)) (hK : rdK S (.scat a b) e true K) : RdOk P U σ S w ρ (.binOp .add t x y u) K := by
  unfold rdK at hK
  simp only at hK
  split at hK
  · rename_i s s' h1 h2
    rw [h1] at hx
    rw [h2] at hy
    generalize hva : ρ x = va at hx
    generalize hvb : ρ y = vb at hy
    cases hx
    cases hy
    obtain ⟨hj, hK⟩ := hK
    exact ⟨_, _, hK, .str _, fun w' o' h _ => by simp only [execOp, h, hva, hvb, Sem.run_bind, eqGuard_str _ _ _ _ _ _ ht, Result.andThen_ok, binOp_string_add, run_string_add_sum w' s s' (hj trivial)]; rfl⟩
  · exact absurd hK.1 (by simp)

theorem rd_sqs {neg : Bool} {op : BinOp} {t u : TypeId} {x y : Operand} {a b : A} (ht : P.underlying t = some .string) (hop : op = if neg then .neq else .eql) (hx : VR (Own U σ S) w σ (e a) (ρ x)) (hy : VR (Own U σ S) w σ (e b) (ρ y)) (hK : rdK S (.sqs neg a b) e true K) : RdOk P U σ S w ρ (.binOp op t x y u) K := by
  unfold rdK at hK
  simp only at hK
  split at hK
  · rename_i s s' h1 h2
    rw [h1] at hx
    rw [h2] at hy
    generalize hva : ρ x = va at hx
    generalize hvb : ρ y = vb at hy
    cases hx
    cases hy
    cases neg with
    | true => subst hop; exact ⟨_, .bool (!strEq s s'), hK, .bool _, fun w' o' h _ => by simp [execOp, h, hva, hvb, eqGuard_str _ _ _ _ _ _ ht, binOp_string_neq, strEq_run]⟩
    | false => subst hop; exact ⟨_, .bool (strEq s s'), hK, .bool _, fun w' o' h _ => by simp [execOp, h, hva, hvb, eqGuard_str _ _ _ _ _ _ ht, binOp_string_eql, strEq_run]⟩
  · exact absurd hK.1 (by simp)

theorem bytesV_ns : ∀ {rows : List (List V)} {l : List UInt8}, bytesV rows = some l → ∃ ns : List Int, rows = ns.map (fun n => [V.int .u8 n]) ∧ l = ns.map fun n => UInt8.ofNat n.toNat
  | [], l, h => ⟨[], rfl, (Option.some.inj h).symm⟩
  | x :: r, l, h => by
    unfold bytesV at h
    split at h
    · rename_i e; cases e
    · rename_i n r' e
      obtain ⟨rfl, rfl⟩ := List.cons.inj e
      split at h
      · rename_i l' h'
        obtain rfl := Option.some.inj h
        obtain ⟨ns, rfl, rfl⟩ := bytesV_ns h'
        exact ⟨n :: ns, rfl, rfl⟩
      · cases h
    · cases h
theorem bytesV_rowsB : ∀ l : List UInt8, bytesV (rowsB l) = some l
  | [] => rfl
  | b :: r => by
    show (match bytesV (rowsB r) with | some l => some (UInt8.ofNat ((b.toNat : Int)).toNat :: l) | none => none) = _
    rw [bytesV_rowsB r, Int.toNat_natCast, UInt8.ofNat_toNat]

/-- The string of a list of bytes that lies in memory. -/
theorem rd_b2s {s d el : TypeId} {x : Operand} {a : A} (hs : P.underlying s = some (.slice el)) (hd : P.underlying d = some .string) (hel : P.underlying el = some (.int .u8)) (hz : tySize P el = some 1) (hR : RelS U σ S w n)
    (hx : VR (Own U σ S) w σ (e a) (ρ x)) (hK : rdK S (.b2s a) e true K) : RdOk P U σ S w ρ (.convert s d x) K := by
  replace hx := unk_VR hx
  have fin : ∀ (ad : Option Addr) (cap : Nat) (rows : List (List V)) (l : List UInt8), bytesV rows = some l → ρ x = .slice ad rows.length cap → (rows ≠ [] → ∃ b o, ad = some ⟨b, o, none⟩ ∧ b < w.heap.size ∧ ∀ (i : Nat) (v : V), rows[i]? = some [v] → ∃ u, w.cell? ⟨b, o + i, none⟩ = some u ∧ VR (Own U σ S) w (fun _ => none) v u) → K (.str ⟨l.toArray⟩) → RdOk P U σ S w ρ (.convert s d x) K := by
    intro ad cap rows l hb hv hc hK
    obtain ⟨ns, rfl, rfl⟩ := bytesV_ns hb
    refine ⟨_, .string ⟨(ns.map fun n => UInt8.ofNat n.toNat).toArray⟩, hK, .str _, fun w' o' h hsm => ?_⟩
    rw [List.length_map] at hv
    have run : (convert s d (.slice ad ns.length cap)).run P w' = .ok (.string ⟨(ns.map fun n => UInt8.ofNat n.toNat).toArray⟩) w' := by
      rw [run_convert_bytes_string w' s d el ad ns.length cap hs hel hd]
      by_cases h0 : ns = []
      · subst h0
        cases ad with
        | none => rfl
        | some a0 => exact (run_bytesToString (P := P) w' a0 0 cap [] rfl).trans rfl
      · obtain ⟨b, o, rfl, hbs, hcell⟩ := hc (by simpa using h0)
        have hl := run_loadCells (P := P) (w := w') b o (fun j => Value.int .u8 (ns.getD j 0)) ns.length (fun j hj => by
          rw [hsm.cell hbs]
          obtain ⟨u, hu, hvr⟩ := hcell j (.int .u8 ns[j]) (by simp [hj])
          cases hvr
          rw [hu]
          simp [List.getD_eq_getElem?_getD, hj])
        have he : ((List.range ns.length).map fun j => Value.int .u8 (ns.getD j 0)) = ns.map (Value.int .u8) := by
          apply List.ext_getElem
          · simp
          · intro i h1 h2
            simp at h1
            simp [List.getD_eq_getElem?_getD, h1]
        rw [he] at hl
        rw [run_bytesToString w' ⟨b, o, none⟩ ns.length cap ns hl, foldl_push_bytes]
        have he0 : ByteArray.empty.data = #[] := rfl
        rw [he0]
        simp
    simp only [execOp, h, hv, Sem.run_bind, run, Result.andThen_ok]
    rfl
  unfold rdK at hK
  simp only at hK
  split at hK
  · rename_i k off len h1
    rw [h1] at hx
    generalize hva : ρ x = va at hx
    split at hK
    · rename_i xs ho
      split at hK
      · rename_i l hb
        obtain ⟨hle, hK⟩ := hK
        have hle := hle trivial
        have hlen : ((xs.drop off).take len).length = len := by simp; omega
        have hob := hR.obj k _ ho
        cases hx with
        | @sl _ _ _ _ blk es2 cap ad hs' hle' had =>
          rw [hs'] at hob
          obtain ⟨hl, rfl, hcap, arr, ty, hh, hsz, hcells⟩ := hob
          refine fin ad (cap - off) _ l hb (by rw [hlen]; exact hva) (fun hne => ?_) hK
          have hpos := List.length_pos_iff.2 hne
          rw [hlen] at hpos
          refine ⟨blk, off * 1, had (by omega), (Array.getElem?_eq_some_iff.1 hh).1, fun i v hv => ?_⟩
          rw [List.getElem?_take] at hv
          split at hv
          · rw [List.getElem?_drop] at hv
            obtain ⟨u, q1, -, q3⟩ := hcells (off + i) _ 0 v hv rfl
            exact ⟨u, by simp only [World.cell?, hh]; rw [show off * 1 + i = (off + i) * 1 + 0 by omega]; simpa using q1, q3⟩
          · cases hv
        | sl0 hs' =>
          refine fin _ 0 _ l hb (by rw [hlen]; exact hva) (fun hne => ?_) hK
          simp at hne
      · exact absurd hK.1 (by simp)
    · exact absurd hK.1 (by simp)
  · rename_i t xs h1
    rw [h1] at hx
    generalize hva : ρ x = va at hx
    split at hK
    · rename_i l hb
      cases hx with
      | lst b o cv ha hes hcap ht hc1 hc3 hc2 =>
        refine fin _ _ xs l hb hva (fun hne => ?_) hK
        obtain ⟨e1, -, e3⟩ := ha hne
        refine ⟨b, o, e1, e3, fun i v hv => ?_⟩
        have hi := (List.getElem?_eq_some_iff.1 hv).1
        refine ⟨cv i 0, ?_, (hc2 i _ 0 v hv rfl).mono (Keep.refl _ _) (fun b _ h => h) fun _ _ => rfl⟩
        rw [← hc1 i 0 hi (by omega)]
        congr 2
        omega
    · exact absurd hK.1 (by simp)
  · exact absurd hK.1 (by simp)

/-- THE OPERATIONS ON STRINGS. -/
theorem rdS_sound {o : Op} {i : I} (h : resS P o = some i) (hR : RelS U σ S w n) (he : ∀ x a, resA x = some a → VR (Own U σ S) w σ (e a) (ρ x)) (hK : rdK S i e true K) : RdOk P U σ S w ρ o K := by
  unfold resS at h
  split at h
  · split at h
    · rename_i h1 h2 h3
      split at h
      · obtain rfl := Option.some.inj h; exact rd_scat h1 (he _ _ h2) (he _ _ h3) hK
      · obtain rfl := Option.some.inj h; exact rd_sqs h1 rfl (he _ _ h2) (he _ _ h3) hK
      · obtain rfl := Option.some.inj h; exact rd_sqs h1 rfl (he _ _ h2) (he _ _ h3) hK
      · cases h
    · cases h
  · split at h
    · rename_i h1 h2 h3
      split at h
      · rename_i h4 h5
        obtain rfl := Option.some.inj h
        exact rd_b2s h1 h2 h4 h5 hR (he _ _ h3) hK
      · cases h
    · cases h
  · split at h
    · rename_i h1 h2 h3
      obtain rfl := Option.some.inj h
      exact rd_sidx h1 (he _ _ h2) (he _ _ h3) hK
    · cases h
  · split at h
    · rename_i h1 h2
      split at h
      · obtain rfl := Option.some.inj h
        exact rd_ssl h1 (he _ _ h2) trivial trivial hK
      · simp only [Option.map_eq_some_iff] at h
        obtain ⟨z, h4, rfl⟩ := h
        exact rd_ssl h1 (he _ _ h2) (he _ _ h4) trivial hK
      · simp only [Option.map_eq_some_iff] at h
        obtain ⟨z, h4, rfl⟩ := h
        exact rd_ssl h1 (he _ _ h2) trivial (he _ _ h4) hK
      · split at h
        · rename_i h4 h5
          obtain rfl := Option.some.inj h
          exact rd_ssl h1 (he _ _ h2) (he _ _ h4) (he _ _ h5) hK
        · cases h
    · cases h
  · rename_i args ats
    split at h
    · rename_i x t ha hb
      split at h
      · rename_i h1 h2
        obtain rfl := Option.some.inj h
        have ha : args = #[x] := by rw [← Array.toArray_toList (xs := args), ha]
        have hb : ats = #[t] := by rw [← Array.toArray_toList (xs := ats), hb]
        subst ha hb
        exact rd_slen h1 _ rfl (he _ _ h2) hK
      · cases h
    · cases h
  · cases h

theorem rd_sound' {o : Op} {i : I} (h : resOp' P o = some i) (hc : ∀ v, ρ (.const v) = v) (hR : RelS U σ S w n) (he : ∀ x a, resA x = some a → VR (Own U σ S) w σ (e a) (ρ x)) (hK : rdK S i e true K) : RdOk P U σ S w ρ o K := by
  unfold resOp' at h
  split at h
  · rename_i h1
    obtain rfl := Option.some.inj h
    exact rd_sound h1 hc hR he hK
  · exact rdS_sound h hR he hK
end
end Go.Sk
