/- Sk, part K: regions, code, functions. -/
import Derived.Test.YtmhapcbjjpadnaaGreatSkR
set_option linter.unusedSimpArgs false
set_option linter.unusedVariables false
set_option linter.unusedSectionVars false
namespace Go.Sk
open Go Go.RowKit
variable [Tab]

inductive RC where
  | skip
  | reg (l : List Ins) (kill : List Nat)
  | dreg (b0 n : Nat) (l : List Ins) (kill : List Nat) (an : List (List Nat)) (ms : List Nat)
  | seq (a b : RC)
  | cut (a b : RC)
  | regc (a b : List Ins) (kill : List Nat)
  | regv (a : List Ins) (d : Nat) (b : List Ins) (kill : List Nat)
  | cond (c : A) (a b : RC)
  | block (id : Nat) (c : RC)
  | loop (c : RC)
  | uloop (c : RC)
  | exit (id : Nat)
  | ret
  | bad

inductive Ex where
  | normal
  | exit (id : Nat)
  | ret

def exOf : Ex → Exit
  | .normal => .normal
  | .exit id => .exit id
  | .ret => .ret

/-- What stays known behind a region. -/
def clean (kill : List Nat) : Slots → Slots
  | [] => []
  | (d, s) :: r => match s.ch with
    | [] => if hasN d kill = true then clean kill r else (d, s) :: clean kill r
    | _ :: _ => clean kill r

theorem mem_clean {kill : List Nat} : ∀ {l : Slots} {p : Nat × SV}, p ∈ clean kill l → p ∈ l ∧ p.2.ch = []
  | [], _, h => by simp [clean] at h
  | (d, s) :: r, p, h => by
    simp only [clean] at h
    split at h
    · rename_i hc
      split at h
      · have := mem_clean h; exact ⟨List.mem_cons_of_mem _ this.1, this.2⟩
      · rcases List.mem_cons.1 h with rfl | h
        · exact ⟨by simp, hc⟩
        · have := mem_clean h; exact ⟨List.mem_cons_of_mem _ this.1, this.2⟩
    · have := mem_clean h; exact ⟨List.mem_cons_of_mem _ this.1, this.2⟩

def vwSlots (sl : Slots) (S : Store) (ids : List (Option Nat)) : Slots → Prop
  | [] => True
  | (d, s) :: r => s.ch = [] ∧ vw2 S ids (opnd sl [] (.t d)) s.v ∧ vwSlots sl S ids r

/-- A state seen as another; the first n0 objects stay what they are. -/
def View (n0 : Nat) (st st' : St) : Prop :=
  ∃ ids obs, st'.so = mkFrom 0 obs ∧ st'.nx = obs.length ∧ vwObs st.so ids ids obs ∧ nodupB ids = true ∧ firstOK 0 n0 ids ∧ Nat.ble n0 obs.length = true ∧ vwSlots st.sl st.so ids st'.sl

/-- The room of the slice in slot d, whatever it is, becomes known. -/
def revK (st : St) (d : Nat) (K : St → Prop) : Prop :=
  match getS st.sl d with
  | some ⟨[], gc, .sl k off len⟩ => match st.so.get k with
    | some (.row _ _) => ∀ c, len ≤ c → c ≤ 9223372036854775807 → K ⟨setS st.sl d ⟨[], gc, .slk k off len c⟩, st.so, st.nx⟩
    | _ => False
  | _ => False

/-- A loop that ends within n rounds. -/
def iterK (f : St → (Ex → St → Prop) → Prop) (K : Ex → St → Prop) : Nat → St → Prop
  | 0, _ => False
  | n + 1, st => f st fun e st' => match e with
    | .normal => iterK f K n st'
    | .exit id => K (.exit id) st'
    | .ret => K .ret st'

def codeK (P : Program) (n0 : Nat) : RC → St → (Ex → St → Prop) → Prop
  | .skip, st, K => K .normal st
  | .reg l kill, st, K => opsK P l st fun st' => K .normal ⟨clean kill st'.sl, st'.so, st'.nx⟩
  | .dreg b0 n l kill an ms, st, K => match Nat.ble st.nx b0 with
    | true => dopsK P l ms ⟨st.sl, st.so, n⟩ fun recs stF => commB recs an 0 = true ∧ K .normal ⟨clean kill (look stF.sl (keysS stF.sl)), stF.so, stF.nx⟩
    | false => dopsK P l (shM st.nx ms) ⟨st.sl, st.so, n + st.nx⟩ fun recs stF => commB recs an 0 = true ∧ K .normal ⟨clean kill (look stF.sl (keysS stF.sl)), stF.so, stF.nx⟩
  | .seq a b, st, K => codeK P n0 a st fun e st' => match e with
    | .normal => codeK P n0 b st' K
    | .exit id => K (.exit id) st'
    | .ret => K .ret st'
  | .regc a b kill, st, K => ∃ (α : Type) (I : α → Prop) (F : α → St), (opsK P a st fun st' => ∃ x, I x ∧ View n0 st' (F x)) ∧ ∀ x, I x → opsK P b (F x) fun st' => K .normal ⟨clean kill st'.sl, st'.so, st'.nx⟩
  | .regv a d b kill, st, K => ∃ (α : Type) (I : α → Prop) (F : α → St), (opsK P a st fun st' => revK st' d fun st'' => ∃ x, I x ∧ View n0 st'' (F x)) ∧ ∀ x, I x → opsK P b (F x) fun st' => K .normal ⟨clean kill st'.sl, st'.so, st'.nx⟩
  | .cut a b, st, K => ∃ (α : Type) (I : α → Prop) (F : α → St), (codeK P n0 a st fun e st' => match e with
    | .normal => ∃ x, I x ∧ View n0 st' (F x)
    | .exit id => K (.exit id) st'
    | .ret => K .ret st') ∧ ∀ x, I x → codeK P n0 b (F x) K
  | .cond c a b, st, K => match opnd st.sl [] c with
    | .bool x => (x = true → codeK P n0 a st K) ∧ (x = false → codeK P n0 b st K)
    | _ => False
  | .block id c, st, K => codeK P n0 c st fun e st' => match e with
    | .exit j => if j = id then K .normal st' else K (.exit j) st'
    | .normal => K .normal st'
    | .ret => K .ret st'
  | .loop c, st, K => ∃ (α : Type) (I : α → Prop) (F : α → St) (m : α → Nat), (∃ a, I a ∧ View n0 st (F a)) ∧ ∀ a, I a → codeK P n0 c (F a) fun e st' => match e with
    | .normal => ∃ a', I a' ∧ View n0 st' (F a') ∧ m a' < m a
    | .exit id => K (.exit id) st'
    | .ret => K .ret st'
  | .uloop c, st, K => ∃ n, iterK (codeK P n0 c) K n st
  | .exit id, st, K => K (.exit id) st
  | .ret, st, K => K .ret st
  | .bad, _, _ => False

/-- Code, resolved. -/
def resC (P : Program) (N : Nat) : Code → Option RC
  | .skip => some .skip
  | .region _ ops false => match resList P ops N ops.toList with
    | some l => if regOK [] l = true then some (.reg l []) else none
    | none => some .bad
  | .region id ops true => match resList P ops N ops.toList with
    | some l => if P.follows .mixedOrders = true ∧ anOK (mkAn (ops.toList.map edges) []) ops.toList (mkAn (ops.toList.map edges) []) 0 = true then some (.dreg (1024 * (id + 1)) (1024 * (id + 1) + 16 * ops.size) l [] (mkAn (ops.toList.map edges) []) (basesOf (1024 * (id + 1)) ops.size)) else none
    | none => some .bad
  | .seq a b => match resC P N a, resC P N b with
    | some a, some b => some (.seq a b)
    | _, _ => none
  | .cond c a b => match resA c, resC P N a, resC P N b with
    | some c, some a, some b => some (.cond c a b)
    | _, _, _ => none
  | .block id c => (resC P N c).map (.block id)
  | .loop c => (resC P N c).map .loop
  | .exit id => some (.exit id)
  | .ret => some .ret
  | _ => some .bad

def strip : RC → RC
  | .reg l _ => .reg l []
  | .dreg b0 n l _ an ms => .dreg b0 n l [] an ms
  | .seq a b => .seq (strip a) (strip b)
  | .cut a b => .seq (strip a) (strip b)
  | .regc a b _ => .reg (a ++ b) []
  | .regv a _ b _ => .reg (a ++ b) []
  | .cond c a b => .cond c (strip a) (strip b)
  | .block id c => .block id (strip c)
  | .uloop c => .loop (strip c)
  | .loop c => .loop (strip c)
  | c => c

def CleanSl (sl : Slots) : Prop := ∀ p ∈ sl, p.2.ch = []

section
variable {P : Program} {U : Nat → Prop} {N : Nat}

theorem ops_sound_then [Dfr] {ops : Array Oper} {Q : Exit → Act → World → Prop} {rest : List Nat} : ∀ (l : List Oper) (inss : List Ins) (k : Nat) (G : List Nat) (σ : Sg) (st : St) (act : Act) (w : World), (∀ j, j < l.length → l[j]? = ops[k + j]?) → resList P ops N l = some inss → regOK G inss = true →
    RelSt U N σ st act w → GIn st.sl G → ∀ {KF : St → Prop}, opsK P inss st KF →
    (∀ σ' st' act' w', KF st' → RelSt U N σ' st' act' w' → Grow σ st.so w st.nx σ' st'.so w' st'.nx → wpOps P ops Q rest act' w') → wpOps P ops Q (List.range' k l.length ++ rest) act w := by
  intro l
  induction l with
  | nil =>
    intro inss k G σ st act w _ hr _ hrel _ KF hK hQ
    simp only [resList, Option.some.injEq] at hr
    subst hr
    exact hQ σ st act w hK hrel (Grow.refl _ _ _ _)
  | cons o r ih =>
    intro inss k G σ st act w hl hr hok hrel hG KF hK hQ
    simp only [resList] at hr
    split at hr
    · rename_i i g d inss' h1 h2 h3 h4
      obtain rfl := Option.some.inj hr
      have ho : ops[k]? = some o := by simpa using (hl 0 (by simp)).symm
      simp only [opsK] at hK
      split at hK
      · rename_i ch gc hgu
        simp only [regOK, Bool.and_eq_true] at hok
        obtain ⟨hok1, hok2⟩ := hok
        rw [List.length_cons, List.range'_succ, List.cons_append, wpOps_cons]
        unfold wpOp
        simp only [ho]
        -- the guards' slots of this operation
        obtain ⟨G', hGG, hchG, hdG, hok'⟩ : ∃ G', (∀ x ∈ G, x ∈ G') ∧ (∀ x ∈ ch, x.1 ∈ G') ∧ (∀ d', d = some d' → d' ∉ G') ∧ regOK G' inss' = true := by
          have hd0 : ∀ d', d = some d' → d' ∉ G := fun d' hd' => by
            subst hd'
            simpa using hok1
          cases hg : g with
          | none =>
            subst hg
            simp only [guardOf, Option.some.injEq, Prod.mk.injEq] at hgu
            obtain ⟨rfl, rfl⟩ := hgu
            exact ⟨G, fun x h => h, by simp, hd0, hok2⟩
          | some gb =>
            obtain ⟨gd, b⟩ := gb
            subst hg
            simp only [Bool.and_eq_true, bne_iff_ne, ne_eq] at hok2
            refine ⟨gd :: G, fun x h => List.mem_cons_of_mem _ h, fun x hx => ?_, fun d' hd' hm => ?_, hok2.2⟩
            · simp only [guardOf] at hgu
              split at hgu
              · rename_i s hs
                split at hgu
                · simp only [Option.some.injEq, Prod.mk.injEq] at hgu
                  obtain ⟨rfl, -⟩ := hgu
                  rcases List.mem_cons.1 hx with rfl | hx
                  · simp
                  · exact List.mem_cons_of_mem _ (hG gd s (getS_mem hs) x hx)
                · split at hgu
                  · simp only [Option.some.injEq, Prod.mk.injEq] at hgu
                    obtain ⟨rfl, -⟩ := hgu
                    rcases List.mem_cons.1 hx with rfl | hx
                    · simp
                    · exact List.mem_cons_of_mem _ (hG gd s (getS_mem hs) x hx)
                  · cases hgu
                · cases hgu
              · cases hgu
            · rcases List.mem_cons.1 hm with rfl | hm
              · exact hok2.1 hd'
              · exact hd0 d' hd' hm
        have hG' : GIn st.sl G' := fun d s hm g hg => hGG _ (hG d s hm g hg)
        have step := ins_step (P := P) (Q := Q) hrel (Nat.le_refl _) (fun i _ => hrel.rel.fresh _ (by omega)) h1 h2 h3 hgu hG' hdG hchG (KF := fun v S n => opsK P inss' ⟨putS st.sl d ⟨ch, gc, v⟩, S, n⟩ KF) (next := fun act' w' => wpOps P ops Q (List.range' (k + 1) r.length ++ rest) act' w') hK
          (fun σ' v S' n1 cv w' hk hge hr' g hgin _ => by
            rw [Nat.max_eq_right hge] at hr' g
            exact ih inss' (k + 1) G' σ' _ _ w' (fun j hj => by have := hl (j + 1) (by simpa using hj); simpa [Nat.add_assoc, Nat.add_comm 1 j] using this) h4 hok' hr' hgin hk
              fun σ'' st'' act'' w'' hk' hr'' g' => hQ σ'' st'' act'' w'' hk' hr'' (g.trans g'))
        split
        · rename_i hw; rw [if_pos hw] at step; exact .inl step
        · rename_i hw; rw [if_neg hw] at step; exact step
      · cases hK
    · cases hr

theorem ops_sound [Dfr] {ops : Array Oper} {Q : Exit → Act → World → Prop} (l : List Oper) (inss : List Ins) (k : Nat) (G : List Nat) (σ : Sg) (st : St) (act : Act) (w : World) (hl : ∀ j, l[j]? = ops[k + j]?) (hr : resList P ops N l = some inss) (hok : regOK G inss = true)
    (hrel : RelSt U N σ st act w) (hG : GIn st.sl G) {KF : St → Prop} (hK : opsK P inss st KF)
    (hQ : ∀ σ' st' act' w', KF st' → RelSt U N σ' st' act' w' → Grow σ st.so w st.nx σ' st'.so w' st'.nx → Q .normal act' w') : wpOps P ops Q (List.range' k l.length) act w := by
  have := ops_sound_then (rest := []) l inss k G σ st act w (fun j _ => hl j) hr hok hrel hG hK (Q := Q) fun σ' st' act' w' h1 h2 h3 => hQ σ' st' act' w' h1 h2 h3
  rwa [List.append_nil] at this

theorem resList_split {ops : Array Oper} : ∀ (a : List Ins) (l : List Oper) (b : List Ins), resList P ops N l = some (a ++ b) → ∃ l1 l2, l = l1 ++ l2 ∧ resList P ops N l1 = some a ∧ resList P ops N l2 = some b
  | [], l, b, h => ⟨[], l, rfl, rfl, h⟩
  | x :: a, [], b, h => by simp [resList] at h
  | x :: a, o :: r, b, h => by
    simp only [resList] at h
    split at h
    · rename_i i g d l' h1 h2 h3 h4
      simp only [List.cons_append, Option.some.injEq, List.cons.injEq] at h
      obtain ⟨hx, h⟩ := h
      subst hx
      obtain ⟨l1, l2, e, e1, e2⟩ := resList_split a r b (h ▸ h4)
      exact ⟨o :: l1, l2, by rw [e]; rfl, by simp only [resList, h1, h2, h3, e1], e2⟩
    · cases h
theorem regOK_mono : ∀ (b : List Ins) (G G' : List Nat), (∀ x ∈ G, x ∈ G') → regOK G' b = true → regOK G b = true
  | [], _, _, _, _ => rfl
  | i :: r, G, G', hG, h => by
    simp only [regOK, Bool.and_eq_true] at h ⊢
    refine ⟨?_, ?_⟩
    · have h1 := h.1
      split at h1
      · rename_i d hd
        simp only [Bool.not_eq_true', List.contains_eq_mem, decide_eq_false_iff_not] at h1 ⊢
        exact fun hm => h1 (hG _ hm)
      · rfl
    · have h2 := h.2
      split at h2
      · simp only [Bool.and_eq_true] at h2 ⊢
        exact ⟨h2.1, regOK_mono r _ _ (fun x hx => by
          rcases List.mem_cons.1 hx with rfl | hx
          · exact List.mem_cons_self
          · exact List.mem_cons_of_mem _ (hG x hx)) h2.2⟩
      · exact regOK_mono r _ _ hG h2
theorem regOK_split : ∀ (a b : List Ins) (G : List Nat), regOK G (a ++ b) = true → regOK G a = true ∧ regOK [] b = true
  | [], b, G, h => ⟨rfl, regOK_mono b [] G (fun x hx => by cases hx) h⟩
  | i :: r, b, G, h => by
    simp only [List.cons_append, regOK, Bool.and_eq_true] at h ⊢
    have h2 := h.2
    split at h2
    · simp only [Bool.and_eq_true] at h2
      obtain ⟨k1, k2⟩ := regOK_split r b _ h2.2
      exact ⟨⟨h.1, by simp only [Bool.and_eq_true]; exact ⟨h2.1, k1⟩⟩, k2⟩
    · obtain ⟨k1, k2⟩ := regOK_split r b _ h2
      exact ⟨⟨h.1, k1⟩, k2⟩

theorem RelSt.clean [Dfr] {σ : Sg} {st : St} {act : Act} {w : World} (h : RelSt U N σ st act w) (kill : List Nat) : RelSt U N σ ⟨Sk.clean kill st.sl, st.so, st.nx⟩ act w :=
  ⟨h.rel, h.sz, h.df, fun d s hm => h.sl d s (mem_clean hm).1⟩

theorem vwSlots_mem {sl : Slots} {S : Store} {ids : List (Option Nat)} : ∀ {l : Slots}, vwSlots sl S ids l → ∀ d s, (d, s) ∈ l → s.ch = [] ∧ vw2 S ids (opnd sl [] (.t d)) s.v
  | [], _, _, _, h => by simp at h
  | (j, q) :: r, hv, d, s, h => by
    obtain ⟨h1, h2, h3⟩ := hv
    rcases List.mem_cons.1 h with h | h
    · obtain ⟨rfl, rfl⟩ := Prod.mk.inj h; exact ⟨h1, h2⟩
    · exact vwSlots_mem h3 d s h

theorem opnd_slot [Dfr] {σ : Sg} {st : St} {act : Act} {w : World} (h : RelSt U N σ st act w) (d : Nat) : VR (Own U σ st.so) w σ (opnd st.sl [] (.t d)) (act.tmps.getD d undef) :=
  resA_eval (x := .tmp d) h (ch := []) (fun g hg => by cases hg) rfl

theorem View.rel [Dfr] {n0 : Nat} {st st' : St} (hv : View n0 st st') {σ : Sg} {act : Act} {w : World} (h : RelSt U N σ st act w) {σ0 : Sg} {O0 : Nat → Prop} {w0 : World} (hz : ∀ k, n0 ≤ k → σ0 k = none) (hg : GrowB O0 σ0 w0 n0 σ st.so w st.nx) :
    ∃ σ', RelSt U N σ' st' act w ∧ CleanSl st'.sl ∧ GrowB O0 σ0 w0 n0 σ' st'.so w st'.nx := by
  obtain ⟨ids, obs, h1, h2, h3, h4', h5', h6', h7⟩ := hv
  have h4 := nodupB_S h4'
  have h5 : ∀ j, j < n0 → ids[j]? = some (some j) := fun j hj => by have := firstOK_get n0 0 ids h5' j hj; rwa [Nat.zero_add] at this
  have h6 := Nat.le_of_ble_eq_true h6'
  refine ⟨sgV σ ids obs, ⟨by rw [h1, h2]; exact h.rel.view h3 h4, h.sz, h.df, fun d s hm => ?_⟩, fun p hp => (vwSlots_mem h7 p.1 p.2 hp).1, ⟨hg.keep, fun b hb hO => ?_, fun k hk => ?_, by rw [h2]; exact h6⟩⟩
  · obtain ⟨hc, hvw⟩ := vwSlots_mem h7 d s hm
    unfold SVR
    rw [hc, h1]
    exact vw2_VR h.rel h3 hvw (opnd_slot h d)
  · rw [h1] at hO
    obtain ⟨j, k, p, es, cap, -, e2, e3⟩ := own_view h3 hO
    exact hg.own b hb ⟨k, p, es, cap, e2, e3⟩
  · rw [← hg.sg k hk]
    simp [sgV, h5 k (Nat.lt_of_not_le fun hle => hk (hz k hle))]

theorem resC_spec {c : Code} {rc : RC} (h : resC P N c = some rc) : match rc with
    | .skip => c = .skip
    | .reg l _ => ∃ id ops, c = .region id ops false ∧ resList P ops N ops.toList = some l ∧ regOK [] l = true
    | .dreg b0 n l _ an ms => ∃ id ops, c = .region id ops true ∧ resList P ops N ops.toList = some l ∧ P.follows .mixedOrders = true ∧ anOK an ops.toList an 0 = true ∧ b0 + 16 * ops.size = n ∧ ms = basesOf b0 ops.size
    | .seq a b => ∃ x y, c = .seq x y ∧ resC P N x = some a ∧ resC P N y = some b
    | .cut _ _ => True
    | .regc _ _ _ => True
    | .regv _ _ _ _ => True
    | .cond cc a b => ∃ z x y, c = .cond z x y ∧ resA z = some cc ∧ resC P N x = some a ∧ resC P N y = some b
    | .block id b => ∃ x, c = .block id x ∧ resC P N x = some b
    | .loop b => ∃ x, c = .loop x ∧ resC P N x = some b
    | .uloop _ => True
    | .exit id => c = .exit id
    | .ret => c = .ret
    | .bad => True := by
  cases c with
  | skip => simp only [resC, Option.some.injEq] at h; subst h; rfl
  | region id ops draw =>
    cases draw with
    | true =>
      simp only [resC] at h
      split at h
      · rename_i l hl
        split at h
        · rename_i hok
          obtain rfl := Option.some.inj h
          exact ⟨id, ops, rfl, hl, hok.1, hok.2, rfl, rfl⟩
        · cases h
      · cases h; trivial
    | false =>
      simp only [resC] at h
      split at h
      · rename_i l hl
        split at h
        · rename_i hok
          obtain rfl := Option.some.inj h
          exact ⟨id, ops, rfl, hl, hok⟩
        · cases h
      · cases h; trivial
  | seq x y =>
    simp only [resC] at h
    split at h
    · rename_i h1 h2; obtain rfl := Option.some.inj h; exact ⟨x, y, rfl, h1, h2⟩
    · cases h
  | cond z x y =>
    simp only [resC] at h
    split at h
    · rename_i h0 h1 h2; obtain rfl := Option.some.inj h; exact ⟨z, x, y, rfl, h0, h1, h2⟩
    · cases h
  | block id x =>
    simp only [resC, Option.map_eq_some_iff] at h
    obtain ⟨b, h1, rfl⟩ := h
    exact ⟨x, rfl, h1⟩
  | loop x =>
    simp only [resC, Option.map_eq_some_iff] at h
    obtain ⟨b, h1, rfl⟩ := h
    exact ⟨x, rfl, h1⟩
  | exit id => simp only [resC, Option.some.injEq] at h; subst h; rfl
  | ret => simp only [resC, Option.some.injEq] at h; subst h; rfl
  | _ => simp only [resC, Option.some.injEq] at h; subst h; trivial

theorem rev_sound [Dfr] {σ : Sg} {st : St} {act : Act} {w : World} (h : RelSt U N σ st act w) {d : Nat} {K : St → Prop} (hK : revK st d K) : ∃ st', K st' ∧ RelSt U N σ st' act w ∧ st'.so = st.so ∧ st'.nx = st.nx := by
  unfold revK at hK
  split at hK
  · rename_i gc k off len hg
    split at hK
    case h_2 => exact hK.elim
    rename_i es0 xs0 hso
    have hob := h.rel.obj k _ hso
    have hv := h.sl d _ (getS_mem hg)
    unfold SVR at hv
    simp only at hv
    have key : ∃ c, len ≤ c ∧ c ≤ 9223372036854775807 ∧ VR (Own U σ st.so) w σ (.slk k off len c) (act.tmps.getD d undef) := by
      generalize act.tmps.getD d undef = v at hv
      cases hv with
      | @sl _ _ _ _ b es cap a hs hle ha =>
        rw [hs] at hob
        obtain ⟨-, -, hcap, -⟩ := hob
        exact ⟨cap - off, by omega, by omega, .slk hs hle ha rfl⟩
      | sl0 hs => exact ⟨0, Nat.le_refl _, by omega, .slk0 hs⟩
    obtain ⟨c, hc, hc2, hv'⟩ := key
    refine ⟨_, hK c hc hc2, ⟨h.rel, h.sz, h.df, fun t q hq => ?_⟩, rfl, rfl⟩
    rcases mem_setS hq with hq | ⟨-, hm⟩
    · obtain ⟨rfl, rfl⟩ := Prod.mk.inj hq
      exact hv'
    · exact h.sl t q hm
  · exact hK.elim

theorem code_sound [Dfr] {n0 : Nat} {σ0 : Sg} {O0 : Nat → Prop} {w0 : World} (hz : ∀ k, n0 ≤ k → σ0 k = none) : ∀ (rc : RC) (c : Code) (st : St) (K : Ex → St → Prop) (σ : Sg) (act : Act) (w : World) (Q : Exit → Act → World → Prop), resC P N c = some (strip rc) →
    RelSt U N σ st act w → CleanSl st.sl → GrowB O0 σ0 w0 n0 σ st.so w st.nx → codeK P n0 rc st K →
    (∀ e st' σ' act' w', K e st' → RelSt U N σ' st' act' w' → CleanSl st'.sl → GrowB O0 σ0 w0 n0 σ' st'.so w' st'.nx → Q (exOf e) act' w') → c.wp P Q act w := by
  intro rc
  induction rc with
  | skip =>
    intro c st K σ act w Q hres hrel hcl hg hK hQ
    have h1 := resC_spec hres
    simp only [strip] at h1
    subst h1
    exact wp_skip (hQ .normal st σ act w hK hrel hcl hg)
  | reg l kill =>
    intro c st K σ act w Q hres hrel hcl hg hK hQ
    obtain ⟨id, ops, rfl, hl, hok⟩ := resC_spec hres
    refine wp_region ?_
    simp only [codeK] at hK
    rw [List.range_eq_range', ← Array.length_toList]
    exact ops_sound ops.toList l 0 [] σ st act w (by simp) hl hok hrel (fun d s hm g hg => by rw [hcl _ hm] at hg; cases hg) hK fun σ' st' act' w' hk hr' g =>
      hQ .normal _ σ' act' w' hk (hr'.clean kill) (fun p hp => (mem_clean hp).2) (hg.trans g)
  | dreg b0 n l kill an ms =>
    intro c st K σ act w Q hres hrel hcl hg hK hQ
    obtain ⟨id, ops, rfl, hl, hm, han, hn, rfl⟩ := resC_spec hres
    simp only [codeK] at hK
    split at hK
    · rename_i hb
      exact drawn_sound hm hl han hn hrel hcl (Nat.le_of_ble_eq_true hb) (K := fun st' => K .normal ⟨clean kill st'.sl, st'.so, st'.nx⟩) hK fun σ' st' act' w' hk hr' g =>
        hQ .normal _ σ' act' w' hk (hr'.clean kill) (fun p hp => (mem_clean hp).2) (hg.trans g)
    · rw [shM_bases] at hK
      exact drawn_sound (b0 := b0 + st.nx) hm hl han (by omega) hrel hcl (Nat.le_add_left _ _) (K := fun st' => K .normal ⟨clean kill st'.sl, st'.so, st'.nx⟩) hK fun σ' st' act' w' hk hr' g =>
        hQ .normal _ σ' act' w' hk (hr'.clean kill) (fun p hp => (mem_clean hp).2) (hg.trans g)
  | seq a b iha ihb =>
    intro c st K σ act w Q hres hrel hcl hg hK hQ
    obtain ⟨x, y, rfl, h1, h2⟩ := resC_spec hres
    refine wp_seq (iha x st _ σ act w _ h1 hrel hcl hg hK fun e st' σ' act' w' hk hr' hc' g' => ?_)
    cases e with
    | normal => exact ihb y st' K σ' act' w' Q h2 hr' hc' g' hk hQ
    | exit id => exact hQ _ _ _ _ _ hk hr' hc' g'
    | ret => exact hQ _ _ _ _ _ hk hr' hc' g'
  | regc a b kill =>
    intro c st K σ act w Q hres hrel hcl hg hK hQ
    obtain ⟨id, ops, rfl, hl, hok⟩ := resC_spec (rc := .reg (a ++ b) []) hres
    obtain ⟨α, I, F, hA, hB⟩ := hK
    refine wp_region ?_
    obtain ⟨l1, l2, e, e1, e2⟩ := resList_split a _ b hl
    obtain ⟨ok1, ok2⟩ := regOK_split a b _ hok
    rw [List.range_eq_range', ← Array.length_toList, e, List.length_append, ← List.range'_append_1, Nat.zero_add]
    have hget : ∀ j : Nat, (l1 ++ l2)[j]? = ops[j]? := fun j => by rw [← e]; simp
    have h1 : l1.length ≤ ops.toList.length := by rw [e]; simp
    refine ops_sound_then (P := P) l1 a 0 [] σ st act w (fun j hj => by rw [Nat.zero_add, ← hget, List.getElem?_append_left hj]) e1 ok1 hrel (fun d s hm g hg => by rw [hcl _ hm] at hg; cases hg) hA fun σ' st' act' w' hk hr' g => ?_
    · obtain ⟨u, hu, hv⟩ := hk
      obtain ⟨σ2, r2, c2, g2⟩ := hv.rel hr' hz (hg.trans g)
      exact ops_sound l2 b l1.length [] σ2 (F u) act' w' (fun j => by rw [← hget, List.getElem?_append_right (by omega)]; simp) e2 ok2 r2 (fun d s hm g hg => by rw [c2 _ hm] at hg; cases hg) (hB u hu) fun σ3 st3 act3 w3 hk3 hr3 g3 =>
        hQ .normal _ σ3 act3 w3 hk3 (hr3.clean kill) (fun p hp => (mem_clean hp).2) (g2.trans g3)
  | regv a d b kill =>
    intro c st K σ act w Q hres hrel hcl hg hK hQ
    obtain ⟨id, ops, rfl, hl, hok⟩ := resC_spec (rc := .reg (a ++ b) []) hres
    obtain ⟨α, I, F, hA, hB⟩ := hK
    refine wp_region ?_
    obtain ⟨l1, l2, e, e1, e2⟩ := resList_split a _ b hl
    obtain ⟨ok1, ok2⟩ := regOK_split a b _ hok
    rw [List.range_eq_range', ← Array.length_toList, e, List.length_append, ← List.range'_append_1, Nat.zero_add]
    have hget : ∀ j : Nat, (l1 ++ l2)[j]? = ops[j]? := fun j => by rw [← e]; simp
    have h1 : l1.length ≤ ops.toList.length := by rw [e]; simp
    refine ops_sound_then (P := P) l1 a 0 [] σ st act w (fun j hj => by rw [Nat.zero_add, ← hget, List.getElem?_append_left hj]) e1 ok1 hrel (fun d s hm g hg => by rw [hcl _ hm] at hg; cases hg) hA fun σ' st' act' w' hk hr' g => ?_
    · obtain ⟨st2, hk2, hr2, es, en⟩ := rev_sound hr' hk
      obtain ⟨u, hu, hv⟩ := hk2
      obtain ⟨σ2, r2, c2, g2⟩ := hv.rel hr2 hz (by rw [es, en]; exact hg.trans g)
      exact ops_sound l2 b l1.length [] σ2 (F u) act' w' (fun j => by rw [← hget, List.getElem?_append_right (by omega)]; simp) e2 ok2 r2 (fun d s hm g hg => by rw [c2 _ hm] at hg; cases hg) (hB u hu) fun σ3 st3 act3 w3 hk3 hr3 g3 =>
        hQ .normal _ σ3 act3 w3 hk3 (hr3.clean kill) (fun p hp => (mem_clean hp).2) (g2.trans g3)
  | cut a b iha ihb =>
    intro c st K σ act w Q hres hrel hcl hg hK hQ
    obtain ⟨x, y, rfl, h1, h2⟩ := resC_spec (rc := .seq (strip a) (strip b)) hres
    obtain ⟨α, I, F, hA, hB⟩ := hK
    refine wp_seq (iha x st _ σ act w _ h1 hrel hcl hg hA fun e st' σ' act' w' hk hr' hc' g' => ?_)
    cases e with
    | normal =>
      obtain ⟨u, hu, hv⟩ := hk
      obtain ⟨σ2, r2, c2, g2⟩ := hv.rel hr' hz g'
      exact ihb y (F u) K σ2 act' w' Q h2 r2 c2 g2 (hB u hu) hQ
    | exit id => exact hQ _ _ _ _ _ hk hr' hc' g'
    | ret => exact hQ _ _ _ _ _ hk hr' hc' g'
  | cond cc a b iha ihb =>
    intro c st K σ act w Q hres hrel hcl hg hK hQ
    obtain ⟨cx, x, y, rfl, h0, h1, h2⟩ := resC_spec hres
    simp only [codeK] at hK
    split at hK
    · rename_i t ht
      have hv := resA_eval hrel (ch := []) (fun g hg => by cases hg) h0
      rw [ht] at hv
      generalize he : act.eval cx = v at hv
      cases hv
      exact wp_cond_split he (fun h => iha x st K σ act w Q h1 hrel hcl hg (hK.1 h) hQ) (fun h => ihb y st K σ act w Q h2 hrel hcl hg (hK.2 h) hQ)
    · cases hK
  | block id b ih =>
    intro c st K σ act w Q hres hrel hcl hg hK hQ
    obtain ⟨x, rfl, h1⟩ := resC_spec hres
    refine wp_block (ih x st _ σ act w _ h1 hrel hcl hg hK fun e st' σ' act' w' hk hr' hc' g' => ?_)
    cases e with
    | normal => exact hQ _ _ _ _ _ hk hr' hc' g'
    | ret => exact hQ _ _ _ _ _ hk hr' hc' g'
    | exit j =>
      simp only [exOf, Exit.inBlock]
      simp only at hk
      split
      · rename_i h; rw [if_pos h] at hk; exact hQ .normal _ _ _ _ hk hr' hc' g'
      · rename_i h; rw [if_neg h] at hk; exact hQ (.exit j) _ _ _ _ hk hr' hc' g'
  | loop b ih =>
    intro c st K σ act w Q hres hrel hcl hg hK hQ
    obtain ⟨x, rfl, h1⟩ := resC_spec hres
    obtain ⟨α, I, F, m, ⟨a, ha, hv⟩, hround⟩ := hK
    obtain ⟨σ1, r1, c1, g1⟩ := hv.rel hrel hz hg
    refine wp_loop_ghost (fun n act w => ∃ a σ, m a = n ∧ I a ∧ RelSt U N σ (F a) act w ∧ CleanSl (F a).sl ∧ GrowB O0 σ0 w0 n0 σ (F a).so w (F a).nx) (m a) ⟨a, σ1, rfl, ha, r1, c1, g1⟩ ?_
    rintro n act w ⟨a, σ, rfl, ha, r, cl, g⟩
    refine ih x (F a) _ σ act w _ h1 r cl g (hround a ha) fun e st' σ' act' w' hk hr' hc' g' => ?_
    cases e with
    | normal =>
      obtain ⟨a', ha', hv', hlt⟩ := hk
      obtain ⟨σ2, r2, c2, g2⟩ := hv'.rel hr' hz g'
      exact ⟨m a', hlt, a', σ2, rfl, ha', r2, c2, g2⟩
    | exit id => exact hQ _ _ _ _ _ hk hr' hc' g'
    | ret => exact hQ _ _ _ _ _ hk hr' hc' g'
  | uloop b ih =>
    intro c st K σ act w Q hres hrel hcl hg hK hQ
    obtain ⟨x, rfl, h1⟩ := resC_spec (rc := .loop (strip b)) hres
    obtain ⟨k, hk⟩ := hK
    refine wp_loop_ghost (fun n act w => ∃ st σ, iterK (codeK P n0 b) K n st ∧ RelSt U N σ st act w ∧ CleanSl st.sl ∧ GrowB O0 σ0 w0 n0 σ st.so w st.nx) k ⟨st, σ, hk, hrel, hcl, hg⟩ ?_
    rintro n act w ⟨st, σ, hk, r, cl, g⟩
    cases n with
    | zero => exact hk.elim
    | succ n =>
      refine ih x st _ σ act w _ h1 r cl g hk fun e st' σ' act' w' hk hr' hc' g' => ?_
      cases e with
      | normal => exact ⟨n, Nat.lt_succ_self n, st', σ', hk, hr', hc', g'⟩
      | exit id => exact hQ _ _ _ _ _ hk hr' hc' g'
      | ret => exact hQ _ _ _ _ _ hk hr' hc' g'
  | bad => intro c st K σ act w Q hres hrel hcl hg hK hQ; exact hK.elim
  | exit id =>
    intro c st K σ act w Q hres hrel hcl hg hK hQ
    have h1 := resC_spec hres
    simp only [strip] at h1
    subst h1
    exact wp_exit (hQ (.exit id) st σ act w hK hrel hcl hg)
  | ret =>
    intro c st K σ act w Q hres hrel hcl hg hK hQ
    have h1 := resC_spec hres
    simp only [strip] at h1
    subst h1
    exact wp_ret (hQ .ret st σ act w hK hrel hcl hg)

/-! ### Functions -/

inductive RV where
  | tmp (t : Nat)
  | cell (t : Nat) (agg : Bool) (n : Nat)

def resRV (P : Program) : ResultVar → Option RV
  | .tmp t => some (.tmp t)
  | .cell a t => match tyAgg P t, tySize P t with
    | some agg, some n => if agg = true ∨ n = 1 then some (.cell a agg n) else none
    | _, _ => none

/-- What a function hands back. -/
def rvK (st : St) : RV → (V → Prop) → Prop
  | .tmp t, K => K (opnd st.sl [] (.t t))
  | .cell t agg n, K => rdK st.so (.ld agg n (.t t)) (opnd st.sl []) true K

def rvsK (st : St) : List RV → (List V → Prop) → Prop
  | [], K => K []
  | r :: rs, K => rvK st r fun v => rvsK st rs fun vs => K (v :: vs)

def oneTup : List V → V
  | [v] => v
  | vs => .tup vs

/-- The end of a function: the value and the objects are seen as promised. -/
def FinK (n0 : Nat) (rvs : List RV) (res : V) (ob1 : List Obj) (st : St) : Prop :=
  rvsK st rvs fun vs => ∃ ids, vwObs st.so ids ids ob1 ∧ nodupB ids = true ∧ firstOK 0 n0 ids ∧ Nat.ble n0 ob1.length = true ∧ vw3 st.so ids (oneTup vs) res

/-- The state in which a function begins. -/
def initSl : Nat → List V → Slots
  | _, [] => []
  | k, v :: r => (k, ⟨[], true, v⟩) :: initSl (k + 1) r

theorem mem_initSl : ∀ {vs : List V} {k : Nat} {p : Nat × SV}, p ∈ initSl k vs → ∃ i v, vs[i]? = some v ∧ p = (k + i, ⟨[], true, v⟩)
  | [], _, _, h => by simp [initSl] at h
  | v :: r, k, p, h => by
    simp only [initSl, List.mem_cons] at h
    rcases h with rfl | h
    · exact ⟨0, v, rfl, rfl⟩
    · obtain ⟨i, u, h1, rfl⟩ := mem_initSl h
      exact ⟨i + 1, u, h1, by rw [Nat.add_assoc, Nat.add_comm 1 i]⟩

def retOnly (P : Program) (n0 : Nat) (rvs : List RV) (res : V) (ob1 : List Obj) : Ex → St → Prop
  | .normal, st => FinK n0 rvs res ob1 st
  | .ret, st => FinK n0 rvs res ob1 st
  | .exit _, _ => False

def rvSem (tmps : Array Value) : ResultVar → Sem Value
  | .tmp t => pure (tmps.getD t undef)
  | .cell a t => do loadVar t (← asAddr (tmps.getD a undef))

theorem rv_sound [Dfr] {σ : Sg} {st : St} {act : Act} {w : World} (h : RelSt U N σ st act w) {x : ResultVar} {r : RV} (hr : resRV P x = some r) {K : V → Prop} (hK : rvK st r K) :
    ∃ v cv, K v ∧ VR (Own U σ st.so) w σ v cv ∧ (rvSem act.tmps x).run P w = .ok cv w := by
  cases x with
  | tmp t =>
    simp only [resRV, Option.some.injEq] at hr
    subst hr
    exact ⟨_, _, hK, opnd_slot h t, rfl⟩
  | cell a t =>
    simp only [resRV] at hr
    split at hr
    · rename_i agg n h1 h2
      split at hr
      · rename_i h3
        obtain rfl := Option.some.inj hr
        obtain ⟨v, cv, hk, hv, hrun⟩ := rd_load (P := P) (ρ := act.eval) (t := t) (a := .tmp a) (x := .t a) h1 h2 h3 h.rel (opnd_slot h a) hK
        refine ⟨v, cv, hk, hv, ?_⟩
        have := hrun w { (default : Oper) with op := .load t (.tmp a) } rfl (Same.refl w)
        simp only [execOp, Instr.loadAt, Act.eval] at this
        generalize hp : act.tmps.getD a undef = pv at this
        cases pv <;> try (simp [Instr.sureAddr] at this; done)
        rename_i ad
        cases ad with
        | none => simp [Instr.sureAddr] at this
        | some ad =>
          simp only [Instr.sureAddr, pure_bind, Sem.run_bind, Sem.run_pure, Result.andThen_ok] at this
          have hg : rvSem act.tmps (.cell a t) = loadVar t ad := by unfold rvSem; simp only [hp]; rfl
          show (rvSem act.tmps (.cell a t)).run P w = .ok cv w
          rw [hg]
          cases hl : (loadVar t ad).run P w with
          | ok x w' => rw [hl] at this; simp only [Result.andThen_ok, Result.ok.injEq, Next.value.injEq] at this; obtain ⟨rfl, rfl⟩ := this; rfl
          | halt x w' => rw [hl] at this; simp at this
      · cases hr
    · cases hr

theorem rvs_sound [Dfr] {σ : Sg} {st : St} {act : Act} {w : World} (h : RelSt U N σ st act w) : ∀ (xs : List ResultVar) (rs : List RV) (_ : xs.mapM (resRV P) = some rs) (K : List V → Prop), rvsK st rs K →
    ∃ vs cvs, K vs ∧ vs.length = cvs.length ∧ (∀ (i : Nat) v cv, vs[i]? = some v → cvs[i]? = some cv → VR (Own U σ st.so) w σ v cv) ∧
      (xs.mapM (rvSem act.tmps)).run P w = .ok cvs w
  | [], rs, hr, K, hK => by
    rw [List.mapM_nil] at hr
    obtain rfl := Option.some.inj hr
    exact ⟨[], [], hK, rfl, by simp, rfl⟩
  | x :: xs, rs, hr, K, hK => by
    rw [List.mapM_cons] at hr
    cases h1 : resRV P x with
    | none => rw [h1] at hr; cases hr
    | some r =>
      rw [h1] at hr
      cases h2 : xs.mapM (resRV P) with
      | none => rw [h2] at hr; cases hr
      | some rs' =>
        rw [h2] at hr
        obtain rfl := Option.some.inj hr
        obtain ⟨v, cv, hk, hv, hrun⟩ := rv_sound h h1 hK
        obtain ⟨vs, cvs, hk', hl, hvs, hruns⟩ := rvs_sound h xs rs' h2 _ hk
        refine ⟨v :: vs, cv :: cvs, hk', by simp [hl], fun i u c hu hc => ?_, ?_⟩
        · cases i with
          | zero => simp only [List.getElem?_cons_zero, Option.some.injEq] at hu hc; subst hu hc; exact hv
          | succ i => exact hvs i u c (by simpa using hu) (by simpa using hc)
        · rw [List.mapM_cons]
          simp only [Sem.run_bind, hrun, Result.andThen_ok, hruns, Sem.run_pure]

/-- A FUNCTION KEEPS ITS CONTRACT. -/
theorem fn_ok {f : FuncId} {fn : Func} {rc : RC} {rvs : List RV} {ob0 ob1 : List Obj} {args : List V} {res : V} (hf : P.funcs[f]? = some fn) (hb0 : fn.body.isSome = true) (hres0 : resC P fn.ntmps (fn.body.getD .skip) = some (strip rc))
    (hrv : fn.results.toList.mapM (resRV P) = some rvs) (hn : args.length ≤ fn.ntmps)
    (hK : codeK P ob0.length rc ⟨initSl 0 args, mkFrom 0 ob0, ob0.length⟩ (retOnly P ob0.length rvs res ob1)) : FnC P f ob0 args res ob1 := by
  letI : Dfr := ⟨[]⟩
  intro U σ w cargs hR hl ha
  obtain ⟨c, hb⟩ := Option.isSome_iff_exists.1 hb0
  have hres : resC P fn.ntmps c = some (strip rc) := by rw [hb] at hres0; exact hres0
  refine calls_of_wp hf hb ?_
  have hrel : RelSt U fn.ntmps σ ⟨initSl 0 args, mkFrom 0 ob0, ob0.length⟩ { tmps := cargs ++ Array.replicate (fn.ntmps - cargs.size) undef, defers := [] } w := by
    refine ⟨hR, by simp; omega, rfl, fun d s hm => ?_⟩
    obtain ⟨i, v, hv, he⟩ := mem_initSl hm
    obtain ⟨rfl, rfl⟩ := Prod.mk.inj he
    obtain ⟨hi, -⟩ := List.getElem?_eq_some_iff.1 hv
    have hc := Array.getElem?_eq_getElem (xs := cargs) (i := i) (by omega)
    unfold SVR
    simp only [Nat.zero_add]
    have : (cargs ++ Array.replicate (fn.ntmps - cargs.size) undef).getD i undef = cargs[i] := by
      rw [Array.getD_eq_getD_getElem?, Array.getElem?_append_left (by omega), hc]; rfl
    rw [this]
    exact ha i v _ hv hc
  refine code_sound (fun k hk => (hR.fresh k hk).2) rc c _ _ σ _ w _ hres hrel (fun p hp => by obtain ⟨i, v, -, rfl⟩ := mem_initSl hp; rfl) (Grow.refl _ _ _ _).toB hK fun e st' σ' act' w' hk hr' hc' g' => ?_
  have fin : FinK ob0.length rvs res ob1 st' → act'.defers = [] ∧ ∃ v, (results fn act'.tmps).run P w' = .ok v w' ∧ (∃ cv σ'', Ending.returned v = .returned cv ∧ RelS U σ'' (mkFrom 0 ob1) w' ob1.length ∧ VR (Own U σ'' (mkFrom 0 ob1)) w' σ'' res cv ∧ Grow σ (mkFrom 0 ob0) w ob0.length σ'' (mkFrom 0 ob1) w' ob1.length) := by
    intro hfin
    obtain ⟨vs, cvs, ⟨ids, q1, q2', q3', q4', q5⟩, hlen, hvs, hrun⟩ := rvs_sound hr' _ rvs hrv _ hfin
    have q2 := nodupB_S q2'
    have q3 : ∀ j, j < ob0.length → ids[j]? = some (some j) := fun j hj => by have := firstOK_get _ 0 ids q3' j hj; rwa [Nat.zero_add] at this
    have q4 := Nat.le_of_ble_eq_true q4'
    refine ⟨hr'.df, (if h : cvs.toArray.size = 1 then cvs.toArray[0] else .tuple cvs.toArray), ?_, _, sgV σ' ids ob1, rfl, hr'.rel.view q1 q2, ?_, ⟨g'.keep, fun b hb hO => ?_, fun k hk => ?_, q4⟩⟩
    · have he : results fn act'.tmps = (do let vs ← fn.results.mapM (rvSem act'.tmps); pure (if h : vs.size = 1 then vs[0] else .tuple vs)) := by
        unfold results
        congr 1
      rw [he, Sem.run_bind, Array.mapM_eq_mapM_toList]
      simp only [Sem.run_map, hrun, Result.andThen_ok, Sem.run_pure]
    · refine vw3_VR hr'.rel q1 q5 ?_
      match vs, cvs, hlen, hvs with
      | [v], [cv], _, hvs => exact hvs 0 v cv rfl rfl
      | [], [], _, _ => exact .tup rfl (by simp)
      | v1 :: v2 :: vs, c1 :: c2 :: cvs, hlen, hvs =>
        have : ¬ ((c1 :: c2 :: cvs).toArray.size = 1) := by simp
        rw [dif_neg this]
        exact .tup (by simpa using hlen.symm) fun i v c hv hc => hvs i v c hv (by simpa using hc)
    · obtain ⟨j, k, p, es, cap, -, e2, e3⟩ := own_view q1 hO
      exact g'.own b hb ⟨k, p, es, cap, e2, e3⟩
    · rw [← g'.sg k hk]
      simp [sgV, q3 k (Nat.lt_of_not_le fun hle => hk ((hR.fresh k hle).2))]
  cases e with
  | normal => exact fin hk
  | ret => exact fin hk
  | exit id => exact hk.elim

/-- The same, of one that is given its objects for good. -/
theorem fn_okM {f : FuncId} {fn : Func} {rc : RC} {rvs : List RV} {ob0 ob1 : List Obj} {args : List V} {res : V} (hf : P.funcs[f]? = some fn) (hb0 : fn.body.isSome = true) (hres0 : resC P fn.ntmps (fn.body.getD .skip) = some (strip rc))
    (hrv : fn.results.toList.mapM (resRV P) = some rvs) (hn : args.length ≤ fn.ntmps)
    (hK : codeK P 0 rc ⟨initSl 0 args, mkFrom 0 ob0, ob0.length⟩ (retOnly P 0 rvs res ob1)) : FnM P f ob0 args res ob1 := by
  letI : Dfr := ⟨[]⟩
  intro U σ w cargs hR hl ha
  obtain ⟨c, hb⟩ := Option.isSome_iff_exists.1 hb0
  have hres : resC P fn.ntmps c = some (strip rc) := by rw [hb] at hres0; exact hres0
  refine calls_of_wp hf hb ?_
  have hrel : RelSt U fn.ntmps σ ⟨initSl 0 args, mkFrom 0 ob0, ob0.length⟩ { tmps := cargs ++ Array.replicate (fn.ntmps - cargs.size) undef, defers := [] } w := by
    refine ⟨hR, by simp; omega, rfl, fun d s hm => ?_⟩
    obtain ⟨i, v, hv, he⟩ := mem_initSl hm
    obtain ⟨rfl, rfl⟩ := Prod.mk.inj he
    obtain ⟨hi, -⟩ := List.getElem?_eq_some_iff.1 hv
    have hc := Array.getElem?_eq_getElem (xs := cargs) (i := i) (by omega)
    unfold SVR
    simp only [Nat.zero_add]
    have : (cargs ++ Array.replicate (fn.ntmps - cargs.size) undef).getD i undef = cargs[i] := by
      rw [Array.getD_eq_getD_getElem?, Array.getElem?_append_left (by omega), hc]; rfl
    rw [this]
    exact ha i v _ hv hc
  refine code_sound (n0 := 0) (σ0 := fun _ => none) (O0 := OwnE σ (mkFrom 0 ob0)) (w0 := w) (fun k hk => rfl) rc c _ _ σ _ w _ hres hrel (fun p hp => by obtain ⟨i, v, -, rfl⟩ := mem_initSl hp; rfl)
    ⟨Keep.refl _ _, fun _ _ h => h, fun k hk => absurd rfl hk, Nat.zero_le _⟩ hK fun e st' σ' act' w' hk hr' hc' g' => ?_
  have fin : FinK 0 rvs res ob1 st' → act'.defers = [] ∧ ∃ v, (results fn act'.tmps).run P w' = .ok v w' ∧ (∃ cv σ'', Ending.returned v = .returned cv ∧ RelS U σ'' (mkFrom 0 ob1) w' ob1.length ∧ VR (Own U σ'' (mkFrom 0 ob1)) w' σ'' res cv ∧ GrowB (OwnE σ (mkFrom 0 ob0)) (fun _ => none) w 0 σ'' (mkFrom 0 ob1) w' ob1.length) := by
    intro hfin
    obtain ⟨vs, cvs, ⟨ids, q1, q2', q3', q4', q5⟩, hlen, hvs, hrun⟩ := rvs_sound hr' _ rvs hrv _ hfin
    have q2 := nodupB_S q2'
    refine ⟨hr'.df, (if h : cvs.toArray.size = 1 then cvs.toArray[0] else .tuple cvs.toArray), ?_, _, sgV σ' ids ob1, rfl, hr'.rel.view q1 q2, ?_, ⟨g'.keep, fun b hb hO => ?_, fun k hk => absurd rfl hk, Nat.zero_le _⟩⟩
    · have he : results fn act'.tmps = (do let vs ← fn.results.mapM (rvSem act'.tmps); pure (if h : vs.size = 1 then vs[0] else .tuple vs)) := by
        unfold results
        congr 1
      rw [he, Sem.run_bind, Array.mapM_eq_mapM_toList]
      simp only [Sem.run_map, hrun, Result.andThen_ok, Sem.run_pure]
    · refine vw3_VR hr'.rel q1 q5 ?_
      match vs, cvs, hlen, hvs with
      | [v], [cv], _, hvs => exact hvs 0 v cv rfl rfl
      | [], [], _, _ => exact .tup rfl (by simp)
      | v1 :: v2 :: vs, c1 :: c2 :: cvs, hlen, hvs =>
        have : ¬ ((c1 :: c2 :: cvs).toArray.size = 1) := by simp
        rw [dif_neg this]
        exact .tup (by simpa using hlen.symm) fun i v c hv hc => hvs i v c hv (by simpa using hc)
    · obtain ⟨j, k, p, es, cap, -, e2, e3⟩ := own_view q1 hO
      exact g'.own b hb ⟨k, p, es, cap, e2, e3⟩
  cases e with
  | normal => exact fin hk
  | ret => exact fin hk
  | exit id => exact hk.elim
end
end Go.Sk
