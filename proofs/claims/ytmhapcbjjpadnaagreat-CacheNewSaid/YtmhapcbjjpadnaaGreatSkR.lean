/- Sk, part R: the theorem of drawn regions. -/
import Derived.Test.YtmhapcbjjpadnaaGreatSkQ
set_option linter.unusedSimpArgs false
set_option linter.unusedVariables false
set_option linter.unusedSectionVars false
namespace Go.Sk
open Go Go.RowKit
variable [Tab]

section
variable {P : Program} {N : Nat}

theorem RelF.of [Dfr] {U : Nat → Prop} {σ : Sg} {st : St} {act : Act} {w : World} (h : RelSt U N σ st act w) : RelF U N σ (getS st.sl) st.so st.nx act w :=
  ⟨h.rel, h.sz, h.df, fun d s hs => h.sl d s (getS_mem hs)⟩

theorem RelSt.of_keep [Dfr] {U : Nat → Prop} {σ : Sg} {st : St} {act : Act} {w w' : World} (h : RelSt U N σ st act w) (hk : Keep (fun _ => False) w w') : RelSt U N σ st act w' := by
  refine ⟨h.rel.of_keep hk, h.sz, h.df, fun d s hm => ?_⟩
  have g := Grow.of_keep (σ := σ) (S := st.so) (n := st.nx) hk
  have := h.sl d s hm
  unfold SVR at this ⊢
  split
  · rename_i hc; rw [hc] at this; exact this.grow g
  · rename_i gg r hc; rw [hc] at this
    exact ⟨this.1, fun hh => ⟨(this.2.1 hh).1, (this.2.1 hh).2.grow g⟩, this.2.2⟩

def unl (n : Nat) (listed : Array Bool) : List Nat := (List.range n).filter fun i => !listed.getD i true

theorem unl_set {n i : Nat} {listed : Array Bool} (hs : listed.size = n) (hi : listed.getD i true = false) : (unl n (listed.setIfInBounds i true)).length < (unl n listed).length := by
  have hin : i < n := by
    apply Nat.lt_of_not_le
    intro hle
    rw [Array.getD_eq_getD_getElem?, Array.getElem?_eq_none (by omega)] at hi
    simp at hi
  have : unl n (listed.setIfInBounds i true) = (unl n listed).filter fun j => j != i := by
    unfold unl
    rw [List.filter_filter]
    apply List.filter_congr
    intro j hj
    by_cases h : j = i
    · subst h
      simp [Array.getD_eq_getD_getElem?, Array.getElem?_setIfInBounds_self_of_lt (show j < listed.size by omega)]
    · simp [h, Array.getD_eq_getD_getElem?, Array.getElem?_setIfInBounds_ne (Ne.symm h)]
  rw [this, List.length_filter_lt_length_iff_exists]
  exact ⟨i, List.mem_filter.2 ⟨List.mem_range.2 hin, by rw [hi]; rfl⟩, by simp⟩

theorem mem_edges {o : Oper} {p : Nat} : p ∈ edges o ↔ ∃ e ∈ o.after, Region.binds .any e = true ∧ e.on = p := by
  simp [edges, and_assoc]

theorem drawn_sound [Dfr] {U : Nat → Prop} {id : Nat} {ops : Array Oper} {l : List Ins} {an : List (List Nat)} {b0 n : Nat} (hm : P.follows .mixedOrders = true) (hres : resList P ops N ops.toList = some l) (han : anOK an ops.toList an 0 = true) (hn : b0 + 16 * ops.size = n)
    {σ0 : Sg} {st0 : St} {act0 : Act} {w00 : World} (hrel00 : RelSt U N σ0 st0 act0 w00) (hcl : ∀ p ∈ st0.sl, p.2.ch = []) (hb0 : st0.nx ≤ b0) {K : St → Prop}
    (hK : dopsK P l (basesOf b0 ops.size) ⟨st0.sl, st0.so, n⟩ fun recs stF => commB recs an 0 = true ∧ K ⟨look stF.sl (keysS stF.sl), stF.so, stF.nx⟩) {Q : Exit → Act → World → Prop}
    (hQ : ∀ σ' st' act' w', K st' → RelSt U N σ' st' act' w' → Grow σ0 st0.so w00 st0.nx σ' st'.so w' st'.nx → Q .normal act' w') : (Code.region id ops true).wp P Q act0 w00 := by
  refine wp_region_any hm ?_
  -- the draw
  have hk0 : Keep (fun _ => False) w00 { w00 with drawn := w00.drawn + 1 } := ⟨rfl, rfl, rfl, Nat.le_refl _, fun _ _ _ => rfl⟩
  have hrel0 := hrel00.of_keep hk0
  have hg0 : Grow σ0 st0.so w00 st0.nx σ0 st0.so { w00 with drawn := w00.drawn + 1 } n := by
    have g := Grow.of_keep (σ := σ0) (S := st0.so) (n := st0.nx) hk0
    exact ⟨g.keep, g.own, g.sg, by omega⟩
  generalize ({ w00 with drawn := w00.drawn + 1 } : World) = w0 at hrel0 hg0 ⊢
  -- the lexical walk
  obtain ⟨recs, stF, ⟨hcomm, hKF⟩, hlen, -, hFs, hFo, hFn, hloc⟩ := dops_det (n := n) (ops := ops) l (basesOf b0 ops.size) ops.toList _ _ hres hK (fun m hmm => by
    obtain ⟨j, hj⟩ := List.getElem?_of_mem hmm
    rw [basesOf_get] at hj
    split at hj
    · obtain rfl := Option.some.inj hj; omega
    · cases hj)
  simp only at hFs hFo hFn hloc
  have hlen := hlen.trans Array.length_toList
  obtain ⟨hanl, hanj⟩ := anOK_spec han
  have hanl := hanl.trans Array.length_toList
  -- the facts of one operation
  have fact : ∀ i o, ops[i]? = some o → ∃ r a, recs[i]? = some r ∧ an[i]? = some a ∧ i < ops.size ∧ (∀ p ∈ edges o, p < i) ∧ (∀ k ∈ a, ∃ p ∈ edges o, k = p ∨ k ∈ an.getD p []) ∧ Noted r (b0 + 16 * i) ∧ ∃ SL SO, (∀ d s, (d, s) ∈ SL → d ∈ r.rd ∧ foldL (wrS d) (fun j => decide (j < i)) recs (getS st0.sl d) = some s) ∧
        (∀ S : Store, (∀ k ∈ r.T, S.get k = foldL (wrO k) (fun j => decide (j < i)) recs (st0.so.get k)) → lookO S r.T = SO) ∧ Loc P N n ops o r SL SO := by
    intro i o ho
    have hi : i < ops.size := (Array.getElem?_eq_some_iff.1 ho).1
    have hr := List.getElem?_eq_getElem (l := recs) (i := i) (by omega)
    have ha := List.getElem?_eq_getElem (l := an) (i := i) (by omega)
    have ho' : ops.toList[i]? = some o := by simpa using ho
    obtain ⟨e1, e2⟩ := hanj i o _ ho' ha
    obtain ⟨e3, e4⟩ := hloc i _ o (b0 + 16 * i) hr ho' (by rw [basesOf_get, if_pos hi])
    exact ⟨_, _, hr, ha, hi, fun p hp => by have := e1 p hp; omega, e2, e3, e4⟩
  have down : ∀ {D : Nat → Bool}, (∀ j o, ops[j]? = some o → D j = true → ∀ p ∈ edges o, D p = true) → ∀ j, j < ops.size → D j = true → ∀ a, an[j]? = some a → ∀ i ∈ a, D i = true := by
    intro D hD j
    induction j using Nat.strongRecOn with
    | _ j ih =>
      intro hj hDj a ha i hi
      have ho := Array.getElem?_eq_getElem hj
      obtain ⟨r, a', -, ha', -, e1, e2, -⟩ := fact j _ ho
      obtain rfl : a = a' := Option.some.inj (ha.symm.trans ha')
      obtain ⟨p, hp, h⟩ := e2 i hi
      have hDp := hD j _ ho hDj p hp
      have hpj := e1 p hp
      rcases h with rfl | h
      · exact hDp
      · have hap := List.getElem?_eq_getElem (l := an) (i := p) (by omega)
        rw [List.getD_eq_getElem?_getD, hap] at h
        exact ih p hpj (by omega) hDp _ hap i h
  have comm : ∀ (i j : Nat) r r' a, i < j → recs[i]? = some r → recs[j]? = some r' → an[j]? = some a → (i ∈ a ∧ notIn r'.d r.cs = true) ∨ Indep r r' := fun i j r r' a hij hi hj ha => by
    rcases commB_spec hcomm i j r r' a hij hi hj ha with h | h
    · exact .inl (by simpa using h)
    · exact .inr (indep_spec h)
  -- every order
  have main : ∀ (fuel : Nat) (listed : Array Bool) (act : Act) (w : World), listed.size = ops.size → (unl ops.size listed).length ≤ fuel →
      (∃ σ S, (∀ k, S.get k = foldL (wrO k) (fun i => listed.getD i false) recs (st0.so.get k)) ∧ RelF U N σ (fun t => foldL (wrS t) (fun i => listed.getD i false) recs (getS st0.sl t)) S n act w ∧ Grow σ0 st0.so w00 st0.nx σ S w n ∧
        (∀ i q, i < ops.size → listed.getD i false = false → q < 16 → σ (b0 + 16 * i + q) = none) ∧ (∀ j o, ops[j]? = some o → listed.getD j false = true → ∀ p ∈ edges o, listed.getD p false = true)) →
      wpAny P .any ops Q fuel listed act w := by
    have tf : ∀ (listed : Array Bool), listed.size = ops.size → ∀ i, i < ops.size → listed.getD i true = listed.getD i false := fun listed hs i hi => by
      rw [Array.getD_eq_getD_getElem?, Array.getD_eq_getD_getElem?, Array.getElem?_eq_getElem (by omega)]; rfl
    have done : ∀ (listed : Array Bool) (act : Act) (w : World), listed.size = ops.size → Region.ready .any ops listed = [] → (∃ σ S, (∀ k, S.get k = foldL (wrO k) (fun i => listed.getD i false) recs (st0.so.get k)) ∧ RelF U N σ (fun t => foldL (wrS t) (fun i => listed.getD i false) recs (getS st0.sl t)) S n act w ∧ Grow σ0 st0.so w00 st0.nx σ S w n) → Q .normal act w := by
      intro listed act w hs hr ⟨σ, S, hS, hrel, hg⟩
      have hall : ∀ i, i < ops.size → listed.getD i false = true := by
        intro i
        induction i using Nat.strongRecOn with
        | _ i ih =>
          intro hi
          have ho := Array.getElem?_eq_getElem hi
          obtain ⟨r, a', -, -, -, e1, -⟩ := fact i _ ho
          cases hd : listed.getD i false with
          | true => rfl
          | false =>
            have : i ∈ Region.ready .any ops listed := mem_ready.2 ⟨by rw [tf listed hs i hi]; exact hd, _, ho, fun e he hb => by
              have hp := e1 e.on (mem_edges.2 ⟨e, he, hb, rfl⟩)
              exact ih e.on hp (by omega)⟩
            rw [hr] at this
            cases this
      have cg : ∀ (j : Nat) r, recs[j]? = some r → listed.getD j false = true := fun j r hj => hall j (by have := (List.getElem?_eq_some_iff.1 hj).1; omega)
      have hSF : ∀ k, S.get k = stF.so.get k := fun k => by
        rw [hS k, hFo k]; exact foldL_congr fun j r hj _ => cg j r hj
      refine hQ σ _ act w hKF ⟨?_, hrel.sz, hrel.df, fun d s hmm => ?_⟩ ?_
      · simp only; rw [hFn]; exact hrel.rel.congr fun k => (hSF k).symm
      · have hs := (mem_look hmm).2
        rw [hFs d] at hs
        have := hrel.sl d s (by rw [← hs]; exact foldL_congr fun j r hj _ => cg j r hj)
        have hO : Own U σ S = Own U σ stF.so := by
          funext b
          unfold Own OwnE
          simp only [hSF]
        rw [hO] at this
        exact this
      · simp only
        rw [hFn]
        refine ⟨hg.keep, fun b hb hO => hg.own b hb ?_, hg.sg, hg.nx⟩
        obtain ⟨k, o, es, cap, h1, h2⟩ := hO
        exact ⟨k, o, es, cap, by rw [hSF]; exact h1, h2⟩
    intro fuel
    induction fuel with
    | zero =>
      rintro listed act w hs hf ⟨σ, S, h1, h2, h3, -⟩
      have hu : unl ops.size listed = [] := List.length_eq_zero_iff.1 (by omega)
      have hr : Region.ready .any ops listed = [] := by
        rw [List.eq_nil_iff_forall_not_mem]
        intro i hi
        obtain ⟨a1, o, a2, -⟩ := mem_ready.1 hi
        have : i ∈ unl ops.size listed := List.mem_filter.2 ⟨List.mem_range.2 (Array.getElem?_eq_some_iff.1 a2).1, by rw [a1]; rfl⟩
        rw [hu] at this
        cases this
      exact ⟨hr, done listed act w hs hr ⟨σ, S, h1, h2, h3⟩⟩
    | succ fuel ih =>
      intro listed act w hs hf ⟨σ, S, h1, h2, h3, h4, h5⟩
      refine ⟨fun hr => done listed act w hs hr ⟨σ, S, h1, h2, h3⟩, fun i hi => ?_⟩
      obtain ⟨a1, o, ho, a3⟩ := mem_ready.1 hi
      obtain ⟨r, a, hr, ha, hisz, e1, e2, e3, SL, SO, e4, e5, e6⟩ := fact i o ho
      have hDi : listed.getD i false = false := by rw [← tf listed hs i hisz]; exact a1
      have hpre : ∀ p ∈ edges o, listed.getD p false = true := fun p hp => by
        obtain ⟨e, he, hb, rfl⟩ := mem_edges.1 hp; exact a3 e he hb
      have hanc : ∀ j ∈ a, listed.getD j false = true := fun j hj => by
        obtain ⟨p, hp, h⟩ := e2 j hj
        have hpi := e1 p hp
        rcases h with rfl | h
        · exact hpre _ hp
        · have hap := List.getElem?_eq_getElem (l := an) (i := p) (by omega)
          rw [List.getD_eq_getElem?_getD, hap] at h
          exact down h5 p (by omega) (hpre p hp) _ hap j h
      -- another operation: how it lies to this one
      have other : ∀ (j : Nat) r', recs[j]? = some r' → (j < i ∧ ((listed.getD j false = true ∧ notIn r.d r'.cs = true) ∨ Indep r' r)) ∨ j = i ∨ (i < j ∧ (listed.getD j false = false ∨ Indep r r')) := by
        intro j r' hj
        rcases Nat.lt_trichotomy j i with h | h | h
        · left; refine ⟨h, ?_⟩
          rcases comm j i r' r a h hj hr ha with ⟨h1, h2⟩ | h1
          · exact .inl ⟨hanc j h1, h2⟩
          · exact .inr h1
        · exact .inr (.inl h)
        · right; right; refine ⟨h, ?_⟩
          have hjl : j < ops.size := by have := (List.getElem?_eq_some_iff.1 hj).1; omega
          have haj := List.getElem?_eq_getElem (l := an) (i := j) (by omega)
          rcases comm i j r r' _ h hr hj haj with ⟨h1, h2⟩ | h1
          · left
            cases hd : listed.getD j false with
            | false => rfl
            | true => rw [down h5 j hjl hd _ haj i h1] at hDi; cases hDi
          · exact .inr h1
      have agreeS : ∀ d ∈ r.rd, foldL (wrS d) (fun j => listed.getD j false) recs (getS st0.sl d) = foldL (wrS d) (fun j => decide (j < i)) recs (getS st0.sl d) := by
        intro d hd
        refine foldL_congr fun j r' hj hw => ?_
        have hw' := wrS_ne hw
        rcases other j r' hj with ⟨h, h' | h'⟩ | h | ⟨h, h' | h'⟩
        · rw [h'.1]; simp [h]
        · exact absurd hw' (h'.d1 d hd)
        · subst h; rw [hDi]; simp
        · rw [h']; simp; omega
        · exact absurd hw' (h'.d2 d hd)
      have agreeO : ∀ k ∈ r.T, foldL (wrO k) (fun j => listed.getD j false) recs (st0.so.get k) = foldL (wrO k) (fun j => decide (j < i)) recs (st0.so.get k) := by
        intro k hk
        refine foldL_congr fun j r' hj hw => ?_
        have hw' := wrO_ne hw
        rcases other j r' hj with ⟨h, h' | h'⟩ | h | ⟨h, h' | h'⟩
        · rw [h'.1]; simp [h]
        · exact absurd hk (h'.o1 k hw')
        · subst h; rw [hDi]; simp
        · rw [h']; simp; omega
        · exact absurd hk (h'.o3 k hw')
      have hmr : r.m = b0 + 16 * i := e3.m
      unfold wpOp
      simp only [ho]
      have step := e6 U σ _ S act w (fun act' w' => wpAny P .any ops Q fuel (listed.setIfInBounds i true) act' w') Q h2 (fun d s hmm => by rw [agreeS d (e4 d s hmm).1]; exact (e4 d s hmm).2)
        (e5 S fun k hk => by rw [h1 k]; exact agreeO k hk) (fun q hq => ⟨?_, by rw [hmr]; exact h4 i q hisz hDi hq⟩) (fun t s ht x hx hd => ?_) fun σ' cv w' hrel' hg' hσ' => ?_
      · split
        · rename_i hw; rw [if_pos hw] at step; exact .inl step
        · rename_i hw; rw [if_neg hw] at step; exact step
      · rw [h1, foldL_id fun j r' hj hDj => ?_]
        · exact (hrel0.rel.fresh _ (by omega)).1
        · unfold wrO
          rw [if_neg]
          intro hk
          have hjl : j < ops.size := by have := (List.getElem?_eq_some_iff.1 hj).1; omega
          obtain ⟨r'', -, hr'', -, -, -, -, hno, -⟩ := fact j _ (Array.getElem?_eq_getElem hjl)
          obtain rfl : r' = r'' := Option.some.inj (hj.symm.trans hr'')
          have hlt := hno.ids _ hk
          rcases other j r' hj with ⟨h, -⟩ | h | ⟨h, h' | h'⟩
          · omega
          · subst h; rw [hDi] at hDj; cases hDj
          · rw [h'] at hDj; cases hDj
          · exact h'.o4 _ hk ⟨by omega, by omega⟩
      · rcases foldL_mem (wr := wrS t) (rs := recs) (D := fun j => listed.getD j false) (x := getS st0.sl t) with h | ⟨j, r', v, hj, hDj, hv, hF⟩
        · rw [h] at ht
          have := hcl _ (getS_mem ht)
          simp only at this
          rw [this] at hx
          cases hx
        · rw [hF] at ht
          unfold wrS at hv
          split at hv
          · obtain rfl := Option.some.inj hv
            obtain rfl := Option.some.inj ht
            have hjl : j < ops.size := by have := (List.getElem?_eq_some_iff.1 hj).1; omega
            obtain ⟨r'', -, hr'', -, -, -, -, hno, -⟩ := fact j _ (Array.getElem?_eq_getElem hjl)
            obtain rfl : r' = r'' := Option.some.inj (hj.symm.trans hr'')
            obtain ⟨c1, c2⟩ := hno.cs x hx
            rcases other j r' hj with ⟨h, h' | h'⟩ | h | ⟨h, h' | h'⟩
            · exact notIn_spec h'.2 _ c1 hd
            · exact h'.d2 _ c2 hd
            · subst h; rw [hDi] at hDj; cases hDj
            · rw [h'] at hDj; cases hDj
            · exact h'.d1 _ c2 hd
          · cases hv
      · -- behind it
        have hset : ∀ j, (listed.setIfInBounds i true).getD j false = (j == i || listed.getD j false) := fun j => by
          by_cases h : j = i
          · subst h
            rw [Array.getD_eq_getD_getElem?, Array.getElem?_setIfInBounds_self_of_lt (by omega)]; simp
          · rw [Array.getD_eq_getD_getElem?, Array.getElem?_setIfInBounds_ne (Ne.symm h), ← Array.getD_eq_getD_getElem?]; simp [h]
        have hDD : (fun j => (listed.setIfInBounds i true).getD j false) = fun j => j == i || listed.getD j false := funext hset
        have addS : ∀ t, foldL (wrS t) (fun j => (listed.setIfInBounds i true).getD j false) recs (getS st0.sl t) = if r.d = some t then some r.s else foldL (wrS t) (fun j => listed.getD j false) recs (getS st0.sl t) := fun t => by
          rw [hDD, foldL_add hr hDi fun hw j r' hj hlt hDj => ?_]
          · unfold wrS; split <;> rfl
          · rcases other j r' hj with ⟨h, -⟩ | h | ⟨h, h' | h'⟩
            · omega
            · omega
            · rw [h'] at hDj; cases hDj
            · unfold wrS; rw [if_neg (h'.d3 t (wrS_ne hw))]
        have addO : ∀ k, foldL (wrO k) (fun j => (listed.setIfInBounds i true).getD j false) recs (st0.so.get k) = if k ∈ r.ids then r.S1.get k else foldL (wrO k) (fun j => listed.getD j false) recs (st0.so.get k) := fun k => by
          rw [hDD, foldL_add hr hDi fun hw j r' hj hlt hDj => ?_]
          · unfold wrO; split <;> rfl
          · rcases other j r' hj with ⟨h, -⟩ | h | ⟨h, h' | h'⟩
            · omega
            · omega
            · rw [h'] at hDj; cases hDj
            · unfold wrO; rw [if_neg (h'.o2 k (wrO_ne hw))]
        refine ih _ _ w' (by simp [hs]) (by have := unl_set hs a1; omega) ⟨σ', _, fun k => ?_, ?_, h3.trans hg', fun i' q hi' hD' hq => ?_, fun j o' ho' hDj p hp => ?_⟩
        · rw [over_get, addO k, h1 k]
        · have : (fun t => foldL (wrS t) (fun j => (listed.setIfInBounds i true).getD j false) recs (getS st0.sl t)) = fun t => if r.d = some t then some r.s else foldL (wrS t) (fun j => listed.getD j false) recs (getS st0.sl t) := funext addS
          rw [this]; exact hrel'
        · rw [hset] at hD'
          simp only [Bool.or_eq_false_iff, beq_eq_false_iff_ne] at hD'
          rw [hσ' _ (by rw [hmr]; have := hD'.1; omega)]
          exact h4 i' q hi' hD'.2 hq
        · rw [hset] at hDj ⊢
          simp only [Bool.or_eq_true, beq_iff_eq] at hDj ⊢
          right
          rcases hDj with rfl | hDj
          · obtain rfl : o = o' := Option.some.inj (ho.symm.trans ho')
            exact hpre p hp
          · exact h5 j o' ho' hDj p hp
  have hrep : ∀ (i : Nat) , (Array.replicate ops.size false).getD i false = false := fun i => by
    rw [Array.getD_eq_getD_getElem?, Array.getElem?_replicate]; split <;> rfl
  refine main ops.size _ act0 w0 (by simp) ?_ ⟨σ0, st0.so, fun k => ?_, ?_, hg0, fun i q hi _ _ => (hrel0.rel.fresh _ (by omega)).2, fun j o ho hD => by rw [hrep] at hD; cases hD⟩
  · exact Nat.le_trans (List.length_filter_le _ _) (by simp)
  · rw [foldL_id fun j r _ h => by rw [hrep] at h; cases h]
  · have : (fun t => foldL (wrS t) (fun i => (Array.replicate ops.size false).getD i false) recs (getS st0.sl t)) = getS st0.sl := funext fun t => foldL_id fun j r _ h => by rw [hrep] at h; cases h
    rw [this]
    have := RelF.of hrel0
    exact ⟨this.rel.wider (by omega), this.sz, this.df, this.sl⟩
end
end Go.Sk
