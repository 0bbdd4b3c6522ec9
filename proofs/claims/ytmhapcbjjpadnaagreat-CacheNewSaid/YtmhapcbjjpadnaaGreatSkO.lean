/- Sk, part O: regions whose order is drawn. -/
import Derived.Test.YtmhapcbjjpadnaaGreatSkN
set_option linter.unusedSimpArgs false
set_option linter.unusedVariables false
set_option linter.unusedSectionVars false
namespace Go.Sk
open Go Go.RowKit
variable [Tab]

structure Rec where
  m : Nat
  rd : List Nat
  cs : List Nat
  d : Option Nat
  s : SV
  T : List Nat
  ids : List Nat
  S1 : Store

def ids1 : V → List Nat
  | .ptr k _ _ => [k]
  | .sl k _ _ => [k]
  | .slx k _ _ => [k]
  | .slk k _ _ _ => [k]
  | .mp k => [k]
  | _ => []
def ids1s : List V → List Nat
  | [] => []
  | v :: r => ids1 v ++ ids1s r
def ids2 : V → List Nat
  | .agg cs => ids1s cs
  | .fn _ cs => ids1s cs
  | v => ids1 v
def idsSL : Slots → List Nat
  | [] => []
  | (_, s) :: r => ids2 s.v ++ idsSL r
/-- The objects that an operation may look at. -/
def idsT (i : I) (SL : Slots) : List Nat :=
  match i with
  | .mv _ => []
  | .faddr _ _ => []
  | .extr _ _ => []
  | _ => idsSL SL
def idsB (S : Store) : List Nat → List Nat
  | [] => []
  | k :: r => match S.get k with
    | some (.box cs) => ids1s cs ++ idsB S r
    | _ => idsB S r
/-- A call may look at what the boxes name, too. -/
def idsC (i : I) (SL : Slots) (S : Store) : List Nat :=
  match i with
  | .call _ _ => idsSL SL ++ idsB S (idsSL SL)
  | .vcall _ _ => idsSL SL ++ idsB S (idsSL SL)
  | i => idsT i SL
def aT : A → List Nat
  | .t n => [n]
  | .c _ => []
def aTs : List A → List Nat
  | [] => []
  | a :: r => aT a ++ aTs r
def tmpsI : I → List Nat
  | .mv x => aT x | .pick c a b => aT c ++ aT a ++ aT b | .un _ x => aT x | .bin _ x y => aT x ++ aT y | .conv _ x => aT x | .nilck x => aT x | .faddr _ x => aT x
  | .fget _ _ _ x => aT x | .ld _ _ x => aT x | .st _ x y => aT x ++ aT y | .iaddr _ x i => aT x ++ aT i | .iarr _ _ x i => aT x ++ aT i | .aidx _ x i => aT x ++ aT i
  | .slc _ x lo hi => aT x ++ (match lo with | some l => aT l | none => []) ++ (match hi with | some l => aT l | none => [])
  | .eqb _ x y => aT x ++ aT y | .eqs _ _ x y => aT x ++ aT y
  | .len x => aT x | .mx x y => aT x ++ aT y | .mn x y => aT x ++ aT y | .extr _ x => aT x
  | .build _ ps => aTs (ps.map fun p => p.2.2)
  | .alloc _ => [] | .box x => aT x | .bslice _ _ _ ps => aTs (ps.map fun p => p.2) | .mk _ _ _ l c => aT l ++ aT c | .app _ _ x y => aT x ++ aT y | .cpy _ x y => aT x ++ aT y
  | .mkmap _ => [] | .mget _ _ x i => aT x ++ aT i | .mput x i y => aT x ++ aT i ++ aT y | .mgetp _ _ x i => aT x ++ aT i | .mputp x i y => aT x ++ aT i ++ aT y
  | .call _ xs => aTs xs
  | .vcall x xs => aT x ++ aTs xs
  | .clr _ _ x => aT x
  | .slen x => aT x | .sidx x i => aT x ++ aT i | .scat x y => aT x ++ aT y | .sqs _ x y => aT x ++ aT y | .b2s x => aT x | .s2b x => aT x | .cpys x y => aT x ++ aT y
  | .aslc _ x hi => aT x ++ (match hi with | some l => aT l | none => [])
  | .ssl x lo hi => aT x ++ (match lo with | some l => aT l | none => []) ++ (match hi with | some l => aT l | none => [])
  | .slc3 _ x lo hi mx => aT x ++ (match lo with | some l => aT l | none => []) ++ aT hi ++ aT mx
  | .isnil _ x => aT x
  | .mkfn _ xs => aTs xs
  | .bad => []
def gsl : Option (Nat × Bool) → List Nat
  | none => []
  | some (g, _) => [g]
def chT : List (Nat × Bool) → List Nat
  | [] => []
  | (g, _) :: r => g :: chT r
def chs : Slots → List Nat
  | [] => []
  | (_, s) :: r => chT s.ch ++ chs r
def wrI (SL : Slots) (T : List Nat) (m n1 : Nat) : I → List Nat
  | .st _ x _ => ids2 (opnd SL [] x)
  | .cpy _ x _ => ids2 (opnd SL [] x)
  | .clr _ _ x => ids2 (opnd SL [] x)
  | .mput x _ _ => ids2 (opnd SL [] x)
  | .mputp x _ _ => ids2 (opnd SL [] x)
  | .cpys x _ => ids2 (opnd SL [] x)
  | .aslc _ x _ => ids2 (opnd SL [] x)
  | .call f _ => match Nat.beq n1 m with
    | true => []
    | false => match hasN f Tab.ro with
      | true => []
      | false => T
  | _ => match Nat.beq n1 m with
    | true => []
    | false => T
def newK (m : Nat) : Store → List Nat
  | [] => []
  | (k, _) :: r => match Nat.ble m k with
    | true => k :: newK m r
    | false => newK m r
def keysOK (T : List Nat) (m : Nat) : Store → Bool
  | [] => true
  | (k, _) :: r => (hasN k T || (Nat.ble m k && Nat.blt k (m + 16))) && keysOK T m r
def notIn : Option Nat → List Nat → Bool
  | none, _ => true
  | some d, l => !hasN d l
def sameO (SO S1 : Store) (W : List Nat) : List Nat → Prop
  | [] => True
  | k :: r => match hasN k W with
    | true => sameO SO S1 W r
    | false => S1.get k = SO.get k ∧ sameO SO S1 W r
def sameK (SO S1 : Store) (W : List Nat) (K : Prop) : List Nat → Prop
  | [] => K
  | k :: r => match hasN k W with
    | true => sameK SO S1 W K r
    | false => S1.get k = SO.get k ∧ sameK SO S1 W K r
theorem sameK_spec {SO S1 : Store} {W : List Nat} {K : Prop} : ∀ {T : List Nat}, sameK SO S1 W K T → sameO SO S1 W T ∧ K
  | [], h => ⟨trivial, h⟩
  | k :: r, h => by
    simp only [sameK, sameO] at h ⊢
    split at h
    · exact sameK_spec h
    · exact ⟨⟨h.1, (sameK_spec h.2).1⟩, (sameK_spec h.2).2⟩
def allLt (n : Nat) : List Nat → Bool
  | [] => true
  | k :: r => Nat.blt k n && allLt n r
def subN : List Nat → List Nat → Bool
  | [], _ => true
  | k :: r, l => hasN k l && subN r l
def disjN : List Nat → List Nat → Bool
  | [], _ => true
  | k :: r, l => !hasN k l && disjN r l
def awayN (m : Nat) : List Nat → Bool
  | [] => true
  | k :: r => (Nat.blt k m || Nat.ble (m + 16) k) && awayN m r

/-- One operation in a drawn region: it sees what its operands name. -/
def dinsK (P : Program) : St → Nat → Option Nat → Option (Nat × Bool) → I → (Rec → St → Prop) → Prop
  | ⟨ssl, sso, snx⟩, m, d, g, i, K =>
  forceNL (gsl g ++ tmpsI i) fun rds => forceSl (look ssl rds) fun SL => guardF SL g fun ch gc => forceNL (idsC i SL sso) fun T => forceSt (lookO sso T) fun SO => forceNL (gsl g ++ chs SL) fun G =>
    insK' P SL SO m ch gc i fun v S1 n1 => forceV v fun v => forceSt S1 fun S1 => forceNL (wrI SL T m n1 i) fun W => forceNL (W ++ newK m S1) fun ids =>
      (keysOK T m S1 && (notIn d G && (allLt (m + 16) ids && (subN W T && (subN (chT ch) G && (awayN m T && Nat.ble n1 (m + 16))))))) = true ∧ sameK SO S1 W
      (putSF ssl d ⟨ch, gc, v⟩ fun sl => forceSt (over sso S1 ids) fun so => K ⟨m, rds ++ G, chT ch, d, ⟨ch, gc, v⟩, T, ids, S1⟩ ⟨sl, so, snx⟩) T

def dopsK (P : Program) : List Ins → List Nat → St → (List Rec → St → Prop) → Prop
  | [], [], st, K => K [] st
  | ⟨d, g, i⟩ :: r, m :: ms, st, K => dinsK P st m d g i fun rc st' => dopsK P r ms st' fun rs st'' => K (rc :: rs) st''
  | _, _, _, _ => False

/-- Two that are not in order do not meet. -/
def indep (r r' : Rec) : Bool :=
  notIn r.d r'.rd && (notIn r'.d r.rd && ((match r.d, r'.d with | some a, some b => !Nat.beq a b | _, _ => true) && (disjN r.ids r'.T && (disjN r.ids r'.ids && (disjN r'.ids r.T && awayN r.m r'.ids)))))
def commOne (r : Rec) (i : Nat) : List Rec → List (List Nat) → Bool
  | r' :: rs, a :: an => (bif hasN i a then notIn r'.d r.cs else indep r r') && commOne r i rs an
  | _, _ => true
def commB : List Rec → List (List Nat) → Nat → Bool
  | r :: rs, _ :: an, i => commOne r i rs an && commB rs an (i + 1)
  | _, _, _ => true

theorem hasN_false {d : Nat} {l : List Nat} (h : (!hasN d l) = true) : d ∉ l := fun hm => by rw [hasN_mem.2 hm] at h; simp at h
theorem notIn_spec {d : Option Nat} {l : List Nat} (h : notIn d l = true) : ∀ x ∈ l, d ≠ some x := by
  intro x hx hd; subst hd; exact hasN_false h hx
theorem allLt_spec {n : Nat} : ∀ {l : List Nat}, allLt n l = true → ∀ k ∈ l, k < n
  | [], _, k, h => by simp at h
  | a :: r, h, k, hk => by
    simp only [allLt, Bool.and_eq_true] at h
    rcases List.mem_cons.1 hk with rfl | hk
    · exact Nat.le_of_ble_eq_true h.1
    · exact allLt_spec h.2 k hk
theorem subN_spec : ∀ {l l' : List Nat}, subN l l' = true → ∀ k ∈ l, k ∈ l'
  | [], _, _, k, h => by simp at h
  | a :: r, l', h, k, hk => by
    simp only [subN, Bool.and_eq_true] at h
    rcases List.mem_cons.1 hk with rfl | hk
    · exact hasN_mem.1 h.1
    · exact subN_spec h.2 k hk
theorem disjN_spec : ∀ {l l' : List Nat}, disjN l l' = true → ∀ k ∈ l, k ∉ l'
  | [], _, _, k, h => by simp at h
  | a :: r, l', h, k, hk => by
    simp only [disjN, Bool.and_eq_true] at h
    rcases List.mem_cons.1 hk with rfl | hk
    · exact hasN_false h.1
    · exact disjN_spec h.2 k hk
theorem awayN_spec {m : Nat} : ∀ {l : List Nat}, awayN m l = true → ∀ k ∈ l, ¬ (m ≤ k ∧ k < m + 16)
  | [], _, k, h => by simp at h
  | a :: r, h, k, hk => by
    simp only [awayN, Bool.and_eq_true, Bool.or_eq_true] at h
    rcases List.mem_cons.1 hk with rfl | hk
    · rcases h.1 with h | h
      · have := Nat.le_of_ble_eq_true h; omega
      · have := Nat.le_of_ble_eq_true h; omega
    · exact awayN_spec h.2 k hk
theorem keysOK_spec {T : List Nat} {m : Nat} : ∀ {S : Store}, keysOK T m S = true → ∀ k o, S.get k = some o → k ∈ T ∨ (m ≤ k ∧ k < m + 16)
  | [], _, k, o, h => by simp [Store.get] at h
  | (j, p) :: r, h, k, o, hk => by
    simp only [keysOK, Bool.and_eq_true, Bool.or_eq_true] at h
    simp only [Store.get] at hk
    split at hk
    · rename_i hj; subst hj
      rcases h.1 with h | ⟨h1, h2⟩
      · exact .inl (hasN_mem.1 h)
      · exact .inr ⟨Nat.le_of_ble_eq_true h1, Nat.le_of_ble_eq_true h2⟩
    · exact keysOK_spec h.2 k o hk
theorem newK_spec {m : Nat} : ∀ {S : Store} {k : Nat}, k ∈ newK m S ↔ m ≤ k ∧ ∃ o, S.get k = some o
  | [], k => by simp [newK, Store.get]
  | (j, p) :: r, k => by
    simp only [newK, Store.get]
    split
    · rename_i hb
      have := Nat.le_of_ble_eq_true hb
      rw [List.mem_cons, newK_spec]
      by_cases h : k = j
      · subst h; simp [this]
      · simp [h]
    · rename_i hb
      rw [newK_spec]
      by_cases h : k = j
      · subst h
        have : ¬ m ≤ k := fun hle => by rw [Nat.ble_eq_true_of_le hle] at hb; cases hb
        simp [this]
      · simp [h]
theorem sameO_spec {SO S1 : Store} {W : List Nat} : ∀ {T : List Nat}, sameO SO S1 W T → ∀ k ∈ T, k ∉ W → S1.get k = SO.get k
  | [], _, k, h, _ => by simp at h
  | a :: r, h, k, hk, hw => by
    simp only [sameO] at h
    split at h
    · rename_i hb
      rcases List.mem_cons.1 hk with rfl | hk
      · exact absurd (hasN_mem.1 hb) hw
      · exact sameO_spec h k hk hw
    · rcases List.mem_cons.1 hk with rfl | hk
      · exact h.1
      · exact sameO_spec h.2 k hk hw
theorem mem_chT {x : Nat × Bool} : ∀ {l : List (Nat × Bool)}, x ∈ l → x.1 ∈ chT l
  | (g, b) :: r, h => by
    rcases List.mem_cons.1 h with rfl | h
    · simp [chT]
    · exact List.mem_cons_of_mem _ (mem_chT h)
theorem mem_chs {p : Nat × SV} : ∀ {l : Slots}, p ∈ l → ∀ x ∈ p.2.ch, x.1 ∈ chs l
  | (d, s) :: r, h, x, hx => by
    simp only [chs, List.mem_append]
    rcases List.mem_cons.1 h with rfl | h
    · exact .inl (mem_chT hx)
    · exact .inr (mem_chs h x hx)

/-! ### What is known of slots, as a function -/

structure RelF [Dfr] (U : Nat → Prop) (N : Nat) (σ : Sg) (gs : Nat → Option SV) (S : Store) (n : Nat) (act : Act) (w : World) : Prop where
  rel : RelS U σ S w n
  sz : act.tmps.size = N
  df : act.defers = Dfr.ds
  sl : ∀ d s, gs d = some s → SVR (Own U σ S) w σ act.tmps s (act.tmps.getD d undef)

theorem getS_set {l : Slots} {d : Nat} {s : SV} : ∀ t, getS (setS l d s) t = if t = d then some s else getS l t := by
  have hdel : ∀ (l : Slots) (t : Nat), t ≠ d → getS (delS l d) t = getS l t := by
    intro l t ht
    induction l with
    | nil => rfl
    | cons p r ih =>
      obtain ⟨j, q⟩ := p
      simp only [delS, getS]
      split
      · rename_i h; subst h; rw [if_neg ht]; exact ih
      · simp only [getS, ih]
  induction l with
  | nil => intro t; simp only [setS, getS]
  | cons p r ih =>
    obtain ⟨j, q⟩ := p
    intro t
    simp only [setS]
    split
    · rename_i h; subst h
      simp only [getS]
      by_cases ht : t = d
      · simp [ht]
      · rw [if_neg ht, if_neg ht, if_neg ht]; exact hdel r t ht
    · rename_i h
      simp only [getS, ih]
      by_cases ht : t = j
      · subst ht; rw [if_pos rfl, if_pos rfl, if_neg (Ne.symm h)]
      · rw [if_neg ht, if_neg ht]
theorem getS_put {l : Slots} {d : Option Nat} {s : SV} (t : Nat) : getS (putS l d s) t = if d = some t then some s else getS l t := by
  cases d with
  | none => simp [putS]
  | some d =>
    simp only [putS, getS_set, Option.some.injEq]
    by_cases h : t = d
    · rw [if_pos h, if_pos h.symm]
    · rw [if_neg h, if_neg (Ne.symm h)]

/-- What an operation does wherever it comes up. -/
def Loc [Dfr] (P : Program) (N : Nat) (n : Nat) (ops : Array Oper) (o : Oper) (r : Rec) (SL : Slots) (SO : Store) : Prop :=
  ∀ (U : Nat → Prop) (σ : Sg) (gs : Nat → Option SV) (S : Store) (act : Act) (w : World) (next : Act → World → Prop) (Q : Exit → Act → World → Prop), RelF U N σ gs S n act w → (∀ d s, (d, s) ∈ SL → gs d = some s) → lookO S r.T = SO →
    (∀ i, i < 16 → S.get (r.m + i) = none ∧ σ (r.m + i) = none) → (∀ t s, gs t = some s → ∀ x ∈ s.ch, r.d ≠ some x.1) →
    (∀ σ' cv w', RelF U N σ' (fun t => if r.d = some t then some r.s else gs t) (over S r.S1 r.ids) n (act.put r.d cv) w' → Grow σ S w n σ' (over S r.S1 r.ids) w' n → (∀ k, ¬ (r.m ≤ k ∧ k < r.m + 16) → σ' k = σ k) → next (act.put r.d cv) w') →
    if Region.wanted o (yielded ops act.tmps) then o.wp P act w next Q else next (act.put o.dst undef) w

/-- What is noted of an operation. -/
structure Noted (r : Rec) (m0 : Nat) : Prop where
  m : r.m = m0
  ids : ∀ k ∈ r.ids, k < m0 + 16
  ids' : ∀ k ∈ r.ids, k ∈ r.T ∨ (m0 ≤ k ∧ k < m0 + 16)
  cs : ∀ x ∈ r.s.ch, x.1 ∈ r.cs ∧ x.1 ∈ r.rd

section
variable {P : Program} {N n : Nat}

theorem dinsK_det [Dfr] {st : St} {m : Nat} {d : Option Nat} {g : Option (Nat × Bool)} {i : I} {K : Rec → St → Prop} (h : dinsK P st m d g i K) {ops : Array Oper} {o : Oper} (hi : resI P o.op = some i) (hg : resG ops N o.guard = some g) (hd : resD N o.dst = some d) (hn : m + 16 ≤ n) :
    ∃ r, K r ⟨putS st.sl r.d r.s, over st.so r.S1 r.ids, st.nx⟩ ∧ r.d = d ∧ Noted r m ∧ ∃ SL, (∀ d s, (d, s) ∈ SL → d ∈ r.rd ∧ getS st.sl d = some s) ∧ Loc P N n ops o r SL (lookO st.so r.T) := by
  obtain ⟨ssl, sso, snx⟩ := st
  simp only [dinsK, forceNL_eq, forceSl_eq, guardF_eq] at h
  simp only
  obtain ⟨SL, hSL⟩ : ∃ SL, SL = look ssl (gsl g ++ tmpsI i) := ⟨_, rfl⟩
  rw [← hSL] at h
  split at h
  · exact h.elim
  · rename_i ch gc hgu
    obtain ⟨SO, hSO⟩ : ∃ SO, SO = lookO sso (idsC i SL sso) := ⟨_, rfl⟩
    simp only [forceSt_eq] at h
    rw [← hSO] at h
    obtain ⟨v, S1, n1, h1, h2⟩ := insK_det (st := ⟨SL, SO, m⟩) h
    simp only [forceV_eq, forceSt_eq, forceNL_eq, putSF_eq, Bool.and_eq_true] at h1
    obtain ⟨⟨k1, k2, k3, k4, k5, k6, k7⟩, hsk⟩ := h1
    obtain ⟨hsame, hK⟩ := sameK_spec hsk
    have hn1 := Nat.le_of_ble_eq_true k7
    refine ⟨_, hK, rfl, ⟨rfl, allLt_spec k3, fun k hk => ?_, fun x hx => ⟨mem_chT hx, List.mem_append_right _ (subN_spec k5 _ (mem_chT hx))⟩⟩, SL, fun d s hm => ?_, ?_⟩
    · rcases List.mem_append.1 hk with hk | hk
      · exact .inl (subN_spec k4 k hk)
      · obtain ⟨hk1, o, ho⟩ := newK_spec.1 hk
        exact keysOK_spec k1 k o ho
    · subst hSL
      exact ⟨List.mem_append_left _ (mem_look hm).1, (mem_look hm).2⟩
    · -- wherever it comes up
      rw [← hSO]
      intro U σ gs S act w next Q hrel hsl hSO' hfree hch hnext
      have hpart := hrel.rel.part (idsC i SL sso)
      simp only at hSO' hfree hch hnext
      rw [hSO'] at hpart
      have hrelS : RelSt (Uf U σ S (idsC i SL sso)) N σ ⟨SL, SO, n⟩ act w := by
        refine ⟨hpart, hrel.sz, hrel.df, fun t s hm => ?_⟩
        have := hrel.sl t s (hsl t s hm)
        have less : ∀ {x v}, VR (Own U σ S) w σ x v → VR (Own (Uf U σ S (idsC i SL sso)) σ SO) w σ x v := fun h => h.mono (Keep.refl _ _) (fun b _ hb => Uf_own (T := idsC i SL sso) (by rw [hSO']; exact hb)) fun _ _ => rfl
        unfold SVR at this ⊢
        split
        · rename_i hc; rw [hc] at this; exact less this
        · rename_i gg r hc; rw [hc] at this
          exact ⟨this.1, fun hh => ⟨(this.2.1 hh).1, less (this.2.1 hh).2⟩, this.2.2⟩
      have hsg : ∀ x ∈ ch, x.1 ∈ gsl g ++ chs SL := fun x hx => subN_spec k5 _ (mem_chT hx)
      refine ins_step (P := P) hrelS (m := m) (show m ≤ n by omega) (fun i hi => ⟨?_, (hfree i hi).2⟩) hi hg hd hgu (G := gsl g ++ chs SL) (fun d s hm x hx => List.mem_append_right _ (mem_chs hm x hx)) (fun d' hd' hm => notIn_spec k2 d' hm hd') hsg h2 ?_
      · rw [← hSO', lookO_get, (hfree i hi).1]; simp
      · rintro σ' v' S1' n1' cv w' ⟨rfl, rfl, rfl⟩ hge hr' gr - hσ
        have hmx : max n n1' = n := by omega
        simp only at hr' gr
        rw [hmx] at hr' gr
        -- the whole store
        have hR : ∀ k, k ∈ (wrI SL (idsC i SL sso) m n1' i ++ newK m S1') → k ∈ idsC i SL sso ∨ (m ≤ k ∧ k < m + 16) := fun k hk => by
          rcases List.mem_append.1 hk with hk | hk
          · exact .inl (subN_spec k4 k hk)
          · obtain ⟨hk1, o, ho⟩ := newK_spec.1 hk
            exact keysOK_spec k1 k o ho
        have hw := hrel.rel.whole (T := idsC i SL sso) (σ' := σ') (S1 := S1') (S2 := over S S1' (wrI SL (idsC i SL sso) m n1' i ++ newK m S1')) (w' := w') (R := fun k => k ∈ idsC i SL sso ∨ (m ≤ k ∧ k < m + 16)) (fun k hk => .inl hk)
          (fun k hk hn => by
            rcases hk with hk | hk
            · exact absurd hk hn
            · have := (hfree (k - m) (by omega)).1; rwa [show m + (k - m) = k by omega] at this)
          (fun k hk => by
            rw [over_get]
            split
            · rfl
            · rename_i hnk
              simp only [List.mem_append, not_or] at hnk
              by_cases hT : k ∈ idsC i SL sso
              · rw [sameO_spec hsame k hT hnk.1, ← hSO', lookO_get, if_pos hT]
              · rcases hk with hk | hk
                · exact absurd hk hT
                · have h0 := (hfree (k - m) (by omega)).1
                  rw [show m + (k - m) = k by omega] at h0
                  rw [h0]
                  cases hs1 : S1'.get k with
                  | none => rfl
                  | some o => exact absurd (newK_spec.2 ⟨hk.1, o, hs1⟩) hnk.2)
          (fun k hk => by
            refine ⟨by rw [over_get, if_neg fun hm => hk (hR k hm)], ?_, ?_⟩
            · simp only [not_or] at hk
              exact hσ k hk.2
            · cases hs1 : S1'.get k with
              | none => rfl
              | some o => exact absurd (keysOK_spec k1 k o hs1) hk)
          (by rw [hSO']; exact gr) hr'.rel
        obtain ⟨g2, r2, o2⟩ := hw
        refine hnext σ' cv w' ⟨r2, hr'.sz, hr'.df, fun t s ht => ?_⟩ g2 hσ
        have hdN : ∀ d', d = some d' → d' < N := fun d' hd' => by
          unfold resD at hd
          split at hd
          · obtain rfl := Option.some.inj hd; cases hd'
          · split at hd
            · rename_i hlt; obtain rfl := Option.some.inj hd; obtain rfl := Option.some.inj hd'; exact hlt
            · cases hd
        split at ht
        · rename_i htd
          obtain rfl := Option.some.inj ht
          have hm : (t, (⟨ch, gc, v'⟩ : SV)) ∈ putS SL d ⟨ch, gc, v'⟩ := by
            rw [htd]
            exact getS_mem (by rw [getS_put, if_pos rfl])
          have := hr'.sl t _ hm
          have more : ∀ {x v}, VR (Own (Uf U σ S (idsC i SL sso)) σ' S1') w' σ' x v → VR (Own U σ' (over S S1' (wrI SL (idsC i SL sso) m n1' i ++ newK m S1'))) w' σ' x v := fun h => h.mono (Keep.refl _ _) (fun b _ hb => o2 b hb) fun _ _ => rfl
          unfold SVR at this ⊢
          split
          · rename_i hc; rw [hc] at this; exact more this
          · rename_i gg r hc; rw [hc] at this
            exact ⟨this.1, fun hh => ⟨(this.2.1 hh).1, more (this.2.1 hh).2⟩, this.2.2⟩
        · rename_i htd
          have hold := hrel.sl t s ht
          have hval : (act.put d cv).tmps.getD t undef = act.tmps.getD t undef := by
            cases d with
            | none => rfl
            | some d => rw [put_getD (by rw [hrel.sz]; exact hdN d rfl), if_neg (fun e => htd (by rw [e]))]
          have hkeep : ∀ x ∈ s.ch, (holds (act.put d cv).tmps x ↔ holds act.tmps x) := fun x hx => by
            have := hch t s ht x hx
            cases d with
            | none => exact Iff.rfl
            | some d =>
              unfold holds
              rw [put_getD (by rw [hrel.sz]; exact hdN d rfl), if_neg (fun e => this (by rw [e]))]
          rw [hval]
          unfold SVR at hold ⊢
          split
          · rename_i hc; rw [hc] at hold; exact hold.grow g2
          · rename_i gg r hc
            rw [hc] at hold hkeep
            exact ⟨fun hh => hold.1 ((hkeep gg (by simp)).1 hh), fun hh => ⟨fun x hx => (hkeep x hx).2 ((hold.2.1 hh).1 x hx), (hold.2.1 hh).2.grow g2⟩, hold.2.2⟩
end
end Go.Sk
