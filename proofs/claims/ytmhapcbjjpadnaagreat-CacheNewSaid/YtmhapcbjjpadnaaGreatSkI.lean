/- Sk, part I: states; one region; whole code. -/
import Derived.Test.YtmhapcbjjpadnaaGreatSkM
import Derived.Deep.LoopGhost
set_option linter.unusedSimpArgs false
set_option linter.unusedVariables false
set_option linter.unusedSectionVars false
namespace Go.Sk
open Go Go.RowKit
variable [Tab]
/-- The calls that are deferred meanwhile. -/
class Dfr where
  ds : List Deferred

/-- What is known of a slot: under which guards it was written, whether they hold, the value if so. -/
structure SV where
  ch : List (Nat × Bool)
  gc : Bool
  v : V

abbrev Slots := List (Nat × SV)
def getS : Slots → Nat → Option SV
  | [], _ => none
  | (j, s) :: r, d => if d = j then some s else getS r d
def delS : Slots → Nat → Slots
  | [], _ => []
  | (j, s) :: r, d => if d = j then delS r d else (j, s) :: delS r d
def setS : Slots → Nat → SV → Slots
  | [], d, s => [(d, s)]
  | (j, q) :: r, d, s => if d = j then (d, s) :: delS r d else (j, q) :: setS r d s
def putS (l : Slots) : Option Nat → SV → Slots
  | some d, s => setS l d s
  | none, _ => l

theorem getS_mem : ∀ {l : Slots} {d : Nat} {s : SV}, getS l d = some s → (d, s) ∈ l
  | [], _, _, h => by simp [getS] at h
  | (j, q) :: r, d, s, h => by
    simp only [getS] at h
    split at h
    · rename_i hd; obtain rfl := Option.some.inj h; subst hd; simp
    · exact List.mem_cons_of_mem _ (getS_mem h)
theorem mem_delS : ∀ {l : Slots} {d : Nat} {p : Nat × SV}, p ∈ delS l d → p.1 ≠ d ∧ p ∈ l
  | [], _, _, h => by simp [delS] at h
  | (j, q) :: r, d, p, h => by
    simp only [delS] at h
    split at h
    · have := mem_delS h; exact ⟨this.1, List.mem_cons_of_mem _ this.2⟩
    · rename_i hd
      rcases List.mem_cons.1 h with rfl | h
      · exact ⟨Ne.symm hd, by simp⟩
      · have := mem_delS h; exact ⟨this.1, List.mem_cons_of_mem _ this.2⟩
theorem mem_setS : ∀ {l : Slots} {d : Nat} {s : SV} {p : Nat × SV}, p ∈ setS l d s → p = (d, s) ∨ (p.1 ≠ d ∧ p ∈ l)
  | [], d, s, p, h => by simp only [setS, List.mem_singleton] at h; exact .inl h
  | (j, q) :: r, d, s, p, h => by
    simp only [setS] at h
    split at h
    · rcases List.mem_cons.1 h with rfl | h
      · exact .inl rfl
      · have := mem_delS h; exact .inr ⟨this.1, List.mem_cons_of_mem _ this.2⟩
    · rename_i hd
      rcases List.mem_cons.1 h with rfl | h
      · exact .inr ⟨Ne.symm hd, by simp⟩
      · rcases mem_setS h with h | h
        · exact .inl h
        · exact .inr ⟨h.1, List.mem_cons_of_mem _ h.2⟩

structure St where
  sl : Slots
  so : Store
  nx : Nat

def hasG (g : Nat × Bool) : List (Nat × Bool) → Bool
  | [] => false
  | h :: t => (g.1 == h.1 && g.2 == h.2) || hasG g t
theorem hasG_mem {g : Nat × Bool} : ∀ {l : List (Nat × Bool)}, hasG g l = true → g ∈ l
  | [], h => by simp [hasG] at h
  | a :: t, h => by
    simp only [hasG, Bool.or_eq_true, Bool.and_eq_true, beq_iff_eq] at h
    rcases h with ⟨h1, h2⟩ | h
    · have : g = a := Prod.ext h1 h2
      simp [this]
    · exact List.mem_cons_of_mem _ (hasG_mem h)

/-- An operand's value, where these guards hold. -/
def opnd (sl : Slots) (ch : List (Nat × Bool)) : A → V
  | .c v => v
  | .t n => match getS sl n with
    | some s => match s.ch with
      | [] => s.v
      | g :: _ => if hasG g ch then s.v else .any
    | none => .any

/-- The guards of an operation, and whether they hold. -/
def guardOf (sl : Slots) : Option (Nat × Bool) → Option (List (Nat × Bool) × Bool)
  | none => some ([], true)
  | some (gd, b) => match getS sl gd with
    | some s => match s.v with
      | .bool x => some ((gd, b) :: s.ch, match s.ch with
        | [] => (if b then x else !x)
        | _ :: _ => s.gc && (if b then x else !x))
      | .any => match s.ch, s.gc with
        | _ :: _, false => some ((gd, b) :: s.ch, false)
        | _, _ => none
      | _ => none
    | none => none

structure Ins where
  d : Option Nat
  g : Option (Nat × Bool)
  i : I

/-- A call that is lent nothing. -/
def pcallK (P : Program) (f : FuncId) (args : List V) (S : Store) (gc : Bool) (K : V → Prop) : Prop :=
  ∃ res, (gc = true → (∀ v ∈ args, purOK S v) ∧ FnC P f [] (args.map (pur S)) res []) ∧ (args.all noBor = true ∨ solidV res = true) ∧ K res

/-- How a call may be taken: lent nothing; lent objects; handed objects for good. -/
inductive CallAlt (A B C D : Prop) : Prop where
  | inl (h : A)
  | inr (h : B)
  | frz (h : C)
  | mov (h : D)

/-- A function that has a body. -/
def Callable (P : Program) (f : FuncId) : Prop := ∃ fn, P.funcs[f]? = some fn ∧ fn.body.isSome = true ∧ (fn.name == "runtime.NumGoroutine") = false

/-- An operation that makes memory or writes it: under guards only where they hold. -/
def wrGK (ssl : Slots) (sso : Store) (snx : Nat) (ch : List (Nat × Bool)) (gc : Bool) (i : I) (K : V → Store → Nat → Prop) : Prop :=
  match ch with
  | [] => wrK sso snx i (opnd ssl []) K
  | g :: r => (gc = true → wrK sso snx i (opnd ssl (g :: r)) K) ∧ (gc = false → K .any sso snx)

def insK' (P : Program) (ssl : Slots) (sso : Store) (snx : Nat) (ch : List (Nat × Bool)) (gc : Bool) (i : I) (K : V → Store → Nat → Prop) : Prop :=
  match i with
  | .pick (.t tc) a b => match opnd ssl ch (.t tc) with
    | .bool x => match opnd ssl ((tc, true) :: ch) a, opnd ssl ((tc, false) :: ch) b with
      | .bool p, .bool q => K (.bool (bif x then p else q)) sso snx
      | u, v => match x with
        | true => K u sso snx
        | false => K v sso snx
    | _ => gc = false ∧ K .any sso snx
  | .build z ps => match fillV z (ps.map fun p => (p.1, p.2.1, opnd ssl ch p.2.2)) with
    | some cs => z.all oneV = true ∧ K (.agg cs) sso snx
    | none => False
  | .call f xs => CallAlt (pcallK P f (xs.map (opnd ssl ch)) sso gc fun v => K v sso snx) ((gc = true → ucallK P f (xs.map (opnd ssl ch)) sso snx K) ∧ (gc = false → K .any sso snx)) ((gc = true → fcallK P f (xs.map (opnd ssl ch)) sso snx K) ∧ (gc = false → K .any sso snx)) ((gc = true → mcallK P f (xs.map (opnd ssl ch)) sso snx K) ∧ (gc = false → K .any sso snx))
  | .vcall x xs => match opnd ssl ch x with
    | .fn f caps => Callable P f ∧ CallAlt (pcallK P f (xs.map (opnd ssl ch) ++ caps) sso gc fun v => K v sso snx) ((gc = true → ucallK P f (xs.map (opnd ssl ch) ++ caps) sso snx K) ∧ (gc = false → K .any sso snx)) ((gc = true → fcallK P f (xs.map (opnd ssl ch) ++ caps) sso snx K) ∧ (gc = false → K .any sso snx)) ((gc = true → mcallK P f (xs.map (opnd ssl ch) ++ caps) sso snx K) ∧ (gc = false → K .any sso snx))
    | _ => gc = false ∧ K .any sso snx
  | .clr es z x => wrGK ssl sso snx ch gc (.clr es z x) K
  | .alloc z => wrGK ssl sso snx ch gc (.alloc z) K
  | .box x => wrGK ssl sso snx ch gc (.box x) K
  | .st m x y => wrGK ssl sso snx ch gc (.st m x y) K
  | .mkmap ks => wrGK ssl sso snx ch gc (.mkmap ks) K
  | .s2b x => wrGK ssl sso snx ch gc (.s2b x) K
  | .aslc n x h => wrGK ssl sso snx ch gc (.aslc n x h) K
  | .cpys x y => wrGK ssl sso snx ch gc (.cpys x y) K
  | .mput x i y => wrGK ssl sso snx ch gc (.mput x i y) K
  | .mputp x i y => wrGK ssl sso snx ch gc (.mputp x i y) K
  | .bslice es z m ps => wrGK ssl sso snx ch gc (.bslice es z m ps) K
  | .mk es by_ z l c => wrGK ssl sso snx ch gc (.mk es by_ z l c) K
  | .app es by_ x y => wrGK ssl sso snx ch gc (.app es by_ x y) K
  | .cpy es x y => wrGK ssl sso snx ch gc (.cpy es x y) K
  | i => rdK sso i (opnd ssl ch) gc fun v => K v sso snx

def insK (P : Program) (st : St) (ch : List (Nat × Bool)) (gc : Bool) (i : I) (K : V → Store → Nat → Prop) : Prop := insK' P st.sl st.so st.nx ch gc i K

def opsK (P : Program) : List Ins → St → (St → Prop) → Prop
  | [], st, K => K st
  | ⟨d, g, i⟩ :: r, st, K => match guardOf st.sl g with
    | some (ch, gc) => insK P st ch gc i fun v S n => opsK P r ⟨putS st.sl d ⟨ch, gc, v⟩, S, n⟩ K
    | none => False

/-- Resolving. -/
def resCall (P : Program) : Op → Option I
  | .call { callee := .value (.func f), args, .. } => match P.funcs[f]? with
    | some fn => if fn.body.isSome = true ∧ (fn.name == "runtime.NumGoroutine") = false then (args.toList.mapM resA).map (.call f) else none
    | none => none
  | .call { callee := .value (.tmp t), args, .. } => (args.toList.mapM resA).map (.vcall (.t t))
  | _ => none
/-- What is not known is resolved as what never may run. -/
def resCallB (P : Program) (o : Op) : Option I :=
  match resCall P o with
  | some i => some i
  | none => some .bad
def resI (P : Program) (o : Op) : Option I :=
  match resOp' P o with
  | some i => some i
  | none => match resB P o with
    | some (z, ps) => some (.build z ps)
    | none => match resW P o with
      | some i => some i
      | none => resCallB P o
def resG (ops : Array Oper) (N : Nat) : Option (Nat × Bool) → Option (Option (Nat × Bool))
  | none => some none
  | some (j, b) => match (ops[j]?).bind (·.dst) with
    | some d => if d < N then some (some (d, b)) else none
    | none => none
def resD (N : Nat) : Option Nat → Option (Option Nat)
  | none => some none
  | some d => if d < N then some (some d) else none
def resList (P : Program) (ops : Array Oper) (N : Nat) : List Oper → Option (List Ins)
  | [] => some []
  | o :: r => match resI P o.op, resG ops N o.guard, resD N o.dst, resList P ops N r with
    | some i, some g, some d, some l => some (⟨d, g, i⟩ :: l)
    | _, _, _, _ => none

/-- No slot that guards is written again. -/
def regOK : List Nat → List Ins → Bool
  | _, [] => true
  | G, i :: r => (match i.d with | some d => !G.contains d | none => true) && (match i.g with | some (gd, _) => (i.d != some gd) && regOK (gd :: G) r | none => regOK G r)

def holds (tmps : Array Value) (g : Nat × Bool) : Prop := tmps.getD g.1 undef = .bool g.2

def SVR (O : Nat → Prop) (w : World) (σ : Sg) (tmps : Array Value) (s : SV) (cv : Value) : Prop :=
  match s.ch with
  | [] => VR O w σ s.v cv
  | g :: r => (holds tmps g → s.gc = true) ∧ (s.gc = true → (∀ h ∈ g :: r, holds tmps h) ∧ VR O w σ s.v cv) ∧ (s.gc = false → cv = undef)

structure RelSt [Dfr] (U : Nat → Prop) (N : Nat) (σ : Sg) (st : St) (act : Act) (w : World) : Prop where
  rel : RelS U σ st.so w st.nx
  sz : act.tmps.size = N
  df : act.defers = Dfr.ds
  sl : ∀ d s, (d, s) ∈ st.sl → SVR (Own U σ st.so) w σ act.tmps s (act.tmps.getD d undef)

def GIn (sl : Slots) (G : List Nat) : Prop := ∀ d s, (d, s) ∈ sl → ∀ g ∈ s.ch, g.1 ∈ G

section
variable {P : Program} {U : Nat → Prop} {N : Nat} {σ : Sg} {st : St} {act : Act} {w : World}

theorem resA_eval [Dfr] (h : RelSt U N σ st act w) {ch : List (Nat × Bool)} (hch : ∀ g ∈ ch, holds act.tmps g) {x : Operand} {a : A} (hx : resA x = some a) : VR (Own U σ st.so) w σ (opnd st.sl ch a) (act.eval x) := by
  cases x with
  | tmp t =>
    simp only [resA, Option.some.injEq] at hx
    subst hx
    simp only [opnd, Act.eval]
    split
    · rename_i s hs
      have := h.sl t s (getS_mem hs)
      unfold SVR at this
      split
      · rename_i hc; rw [hc] at this; exact this
      · rename_i g r hc
        rw [hc] at this
        split
        · rename_i hg
          exact (this.2.1 (this.1 (hch g (hasG_mem hg)))).2
        · exact .any _
    · exact .any _
  | const v =>
    simp only [resA, Option.map_eq_some_iff] at hx
    obtain ⟨y, hy, rfl⟩ := hx
    exact vOf_VR hy _ _ _
  | func f =>
    simp only [resA, Option.some.injEq] at hx
    subst hx
    exact .fn rfl (by simp)
  | global g =>
    simp only [resA, Option.map_eq_some_iff] at hx
    obtain ⟨cs, hg, rfl⟩ := hx
    exact (h.rel.gl g cs hg).lift σ

theorem binK_some {op : BinOp} {k : IntKind} {a b : Int} {gc : Bool} {K : V → Prop} (h : binK op k a b gc K) : ∃ v, K v := by
  cases op <;> simp only [binK] at h <;> first | exact ⟨_, h⟩ | exact ⟨_, h.2⟩

theorem rdK_some {S : Store} {i : I} {e : A → V} {gc : Bool} {K : V → Prop} (h : rdK S i e gc K) : ∃ v, K v := by
  unfold rdK at h
  repeat' (first | split at h)
  all_goals first
    | exact h.elim
    | exact binK_some h.2
    | (obtain ⟨r, h1, -⟩ := eqsK_det h; exact ⟨_, h1⟩)
    | exact ⟨_, h⟩
    | exact ⟨_, h.2⟩
    | exact ⟨_, h.2.2⟩

theorem put_getD {a : Act} {d t : Nat} {v : Value} (hd : d < a.tmps.size) : (a.put (some d) v).tmps.getD t undef = if t = d then v else a.tmps.getD t undef := by
  simp only [Act.put, Array.getD_eq_getD_getElem?]
  by_cases h : t = d
  · subst h; rw [if_pos rfl, Array.getElem?_setIfInBounds_self_of_lt hd]; rfl
  · rw [if_neg h, Array.getElem?_setIfInBounds_ne (Ne.symm h)]

/-- The state behind an operation. -/
theorem RelSt.put [Dfr] (h : RelSt U N σ st act w) {G : List Nat} (hG : GIn st.sl G) {σ' : Sg} {S' : Store} {w' : World} {n' : Nat} (g : Grow σ st.so w st.nx σ' S' w' n') (hR' : RelS U σ' S' w' n')
    {d : Option Nat} (hd : ∀ d', d = some d' → d' < N ∧ d' ∉ G) {s : SV} {cv : Value} (hs : ∀ tmps', (∀ g, g.1 ∈ G → (holds tmps' g ↔ holds act.tmps g)) → SVR (Own U σ' S') w' σ' tmps' s cv) :
    RelSt U N σ' ⟨putS st.sl d s, S', n'⟩ (act.put d cv) w' where
  rel := hR'
  sz := by cases d <;> simp [Act.put, h.sz]
  df := by cases d <;> simp [Act.put, h.df]
  sl := fun t q hq => by
    have hkeep : ∀ g : Nat × Bool, g.1 ∈ G → (holds (act.put d cv).tmps g ↔ holds act.tmps g) := fun g hg => by
      cases d with
      | none => exact Iff.rfl
      | some d =>
        obtain ⟨h1, h2⟩ := hd d rfl
        unfold holds
        rw [put_getD (by rw [h.sz]; exact h1), if_neg (fun (e : g.1 = d) => h2 (e ▸ hg))]
    have old : (t, q) ∈ st.sl → (∀ d', d = some d' → t ≠ d') → SVR (Own U σ' S') w' σ' (act.put d cv).tmps q ((act.put d cv).tmps.getD t undef) := fun hm hne => by
      have hold := h.sl t q hm
      have hval : (act.put d cv).tmps.getD t undef = act.tmps.getD t undef := by
        cases d with
        | none => rfl
        | some d => rw [put_getD (by rw [h.sz]; exact (hd d rfl).1), if_neg (hne d rfl)]
      rw [hval]
      unfold SVR at hold ⊢
      have hgq := hG t q hm
      split
      · rename_i hc; rw [hc] at hold; exact hold.grow g
      · rename_i gg r hc
        rw [hc] at hold hgq
        refine ⟨fun hh => hold.1 ((hkeep gg (hgq gg (by simp))).1 hh), fun hh => ⟨fun x hx => (hkeep x (hgq x hx)).2 ((hold.2.1 hh).1 x hx), (hold.2.1 hh).2.grow g⟩, hold.2.2⟩
    cases d with
    | none => exact old hq fun d' hd' => by cases hd'
    | some d =>
      rcases mem_setS hq with hq | ⟨hne, hm⟩
      · obtain ⟨rfl, rfl⟩ := Prod.mk.inj hq
        rw [put_getD (by rw [h.sz]; exact (hd _ rfl).1), if_pos rfl]
        exact hs _ hkeep
      · exact old hm fun d' hd' => by obtain rfl := Option.some.inj hd'; exact hne

theorem GIn.put {sl : Slots} {G : List Nat} (hG : GIn sl G) {d : Option Nat} {s : SV} (hs : ∀ g ∈ s.ch, g.1 ∈ G) : GIn (putS sl d s) G := by
  intro t q hq
  cases d with
  | none => exact hG t q hq
  | some d =>
    rcases mem_setS hq with hq | ⟨-, hm⟩
    · obtain ⟨rfl, rfl⟩ := Prod.mk.inj hq; exact hs
    · exact hG t q hm

theorem wanted_iff {ops : Array Oper} {o : Oper} {g : Option (Nat × Bool)} (hg : resG ops N o.guard = some g) (hsz : act.tmps.size = N) :
    Region.wanted o (yielded ops act.tmps) = true ↔ ∀ x, g = some x → holds act.tmps x := by
  unfold Region.wanted
  cases ho : o.guard with
  | none => rw [ho] at hg; simp only [resG, Option.some.injEq] at hg; subst hg; simp
  | some jb =>
    obtain ⟨j, b⟩ := jb
    rw [ho] at hg
    simp only [resG] at hg
    split at hg
    · rename_i d hd
      split at hg
      · rename_i hlt
        simp only [Option.some.injEq] at hg
        subst hg
        have hd' : d < act.tmps.size := by rw [hsz]; exact hlt
        have hget : act.tmps[d]? = some (act.tmps.getD d undef) := by
          rw [Array.getD_eq_getD_getElem?, Array.getElem?_eq_getElem hd']; rfl
        simp only [yielded, hd, Option.bind_some, hget, holds, Option.some.injEq, forall_eq']
        constructor
        · intro h
          split at h
          · rename_i b' hb
            obtain rfl : b' = b := by simpa using h
            exact Option.some.inj hb
          · simp at h
        · intro h
          rw [h]; simp
      · cases hg
    · cases hg

theorem guardOf_spec [Dfr] (h : RelSt U N σ st act w) {g : Option (Nat × Bool)} {ch : List (Nat × Bool)} {gc : Bool} (hg : guardOf st.sl g = some (ch, gc)) :
    (ch = [] → gc = true ∧ g = none) ∧ ((∀ x, g = some x → holds act.tmps x) → gc = true) ∧ (gc = true → ∀ x ∈ ch, holds act.tmps x) ∧ (∀ x, g = some x → ∃ r, ch = x :: r) := by
  cases g with
  | none =>
    simp only [guardOf, Option.some.injEq, Prod.mk.injEq] at hg
    obtain ⟨rfl, rfl⟩ := hg
    simp
  | some gb =>
    obtain ⟨gd, b⟩ := gb
    simp only [guardOf] at hg
    split at hg
    · rename_i s hs
      have hsl := h.sl gd s (getS_mem hs)
      unfold SVR at hsl
      split at hg
      · rename_i x hx
        simp only [Option.some.injEq, Prod.mk.injEq] at hg
        obtain ⟨rfl, rfl⟩ := hg
        rw [hx] at hsl
        refine ⟨by simp, fun hh => ?_, fun hh y hy => ?_, fun y hy => ⟨s.ch, by rw [← Option.some.inj hy]⟩⟩
        · have h1 : act.tmps.getD gd undef = .bool b := hh _ rfl
          split
          · rename_i hc
            rw [hc] at hsl
            simp only at hsl
            rw [h1] at hsl
            cases hsl
            cases b <;> rfl
          · rename_i q r hc
            rw [hc] at hsl
            simp only at hsl
            cases hgc : s.gc with
            | false => have := hsl.2.2 hgc; rw [h1] at this; cases this
            | true =>
              have := (hsl.2.1 hgc).2
              rw [h1] at this
              cases this
              cases b <;> rfl
        · split at hh
          · rename_i hc
            rw [hc] at hsl hy
            simp only at hsl
            simp only [List.mem_singleton] at hy
            subst hy
            generalize hv : act.tmps.getD gd undef = v at hsl
            cases hsl
            unfold holds
            rw [hv]
            cases b <;> cases x <;> simp_all
          · rename_i q r hc
            rw [hc] at hsl hy
            simp only at hsl
            simp only [Bool.and_eq_true] at hh
            obtain ⟨k1, k2⟩ := hsl.2.1 hh.1
            rcases List.mem_cons.1 hy with rfl | hy
            · generalize hv : act.tmps.getD gd undef = v at k2
              cases k2
              unfold holds
              rw [hv]
              have := hh.2
              cases b <;> cases x <;> simp_all
            · exact k1 y hy
      · split at hg
        · rename_i q r hc hgc
          simp only [Option.some.injEq, Prod.mk.injEq] at hg
          obtain ⟨rfl, rfl⟩ := hg
          rw [hc] at hsl
          simp only at hsl
          refine ⟨by simp, fun hh => ?_, (fun hh => by cases hh), fun y hy => ⟨s.ch, by rw [← Option.some.inj hy]⟩⟩
          have h1 : act.tmps.getD gd undef = .bool b := hh _ rfl
          have := hsl.2.2 hgc
          rw [h1] at this
          cases this
        · cases hg
      · cases hg
    · cases hg

theorem run_callE {ρ : Operand → Value} {f : FuncId} {fn : Func} {args : Array Operand} {ts : Array TypeId} (hf : P.funcs[f]? = some fn) (hb : fn.body.isSome = true) (hn : (fn.name == "runtime.NumGoroutine") = false)
    (o : Oper) (ho : o.op = .call { callee := .value (.func f), args, argTypes := ts }) (hρ : ρ (.func f) = .func (.func f) #[] #[]) : (execOp ρ o).run P w = .ok (.enter f (args.map ρ)) w := by
  have hb' : ¬ fn.body = none := fun h => by rw [h] at hb; simp at hb
  have hn' : ¬ fn.name = "runtime.NumGoroutine" := fun h => by rw [h] at hn; simp at hn
  simp [execOp, ho, resolve, hρ, Deferred.ofValue, invoke, callFunc, hf, hn', hb']

theorem run_callV {ρ : Operand → Value} {f : FuncId} {t : Nat} {caps : Array Value} (hc : Callable P f) {args : Array Operand} {ts : Array TypeId}
    (o : Oper) (ho : o.op = .call { callee := .value (.tmp t), args, argTypes := ts }) (hρ : ρ (.tmp t) = .func (.func f) #[] caps) : (execOp ρ o).run P w = .ok (.enter f (args.map ρ ++ caps)) w := by
  obtain ⟨fn, hf, hb, hn⟩ := hc
  have hb' : ¬ fn.body = none := fun h => by rw [h] at hb; simp at hb
  have hn' : ¬ fn.name = "runtime.NumGoroutine" := fun h => by rw [h] at hn; simp at hn
  simp [execOp, ho, resolve, hρ, Deferred.ofValue, invoke, callFunc, hf, hn', hb']

theorem mapM_resA {l : List Operand} {xs : List A} (h : l.mapM resA = some xs) : xs.length = l.length ∧ ∀ (i : Nat) x a, l[i]? = some x → xs[i]? = some a → resA x = some a := by
  induction l generalizing xs with
  | nil => simp only [List.mapM_nil] at h; obtain rfl := Option.some.inj h; simp
  | cons y r ih =>
    rw [List.mapM_cons] at h
    cases hy : resA y with
    | none => rw [hy] at h; cases h
    | some a =>
      rw [hy] at h
      cases hr : r.mapM resA with
      | none => rw [hr] at h; cases h
      | some as =>
        rw [hr] at h
        obtain rfl := Option.some.inj h
        obtain ⟨h1, h2⟩ := ih hr
        refine ⟨by simp [h1], fun i x b hx hb => ?_⟩
        cases i with
        | zero => simp only [List.getElem?_cons_zero, Option.some.injEq] at hx hb; subst hx hb; exact hy
        | succ i => exact h2 i x b (by simpa using hx) (by simpa using hb)

/-- Where an operation's guard does not hold. -/
theorem insK_some {ch : List (Nat × Bool)} {gc : Bool} {i : I} {K : V → Store → Nat → Prop} (h : insK P st ch gc i K) (hc : ch ≠ []) (hgf : gc = false) : ∃ v, K v st.so st.nx := by
  unfold insK insK' at h
  split at h
  · split at h
    · split at h
      · exact ⟨_, h⟩
      · split at h
        · exact ⟨_, h⟩
        · exact ⟨_, h⟩
    · exact ⟨_, h.2⟩
  · split at h
    · exact ⟨_, h.2⟩
    · cases h
  · rcases h with ⟨res, -, -, h⟩ | h | h | h
    · exact ⟨_, h⟩
    · exact ⟨_, h.2 hgf⟩
    · exact ⟨_, h.2 hgf⟩
    · exact ⟨_, h.2 hgf⟩
  · split at h
    · rcases h.2 with ⟨res, -, -, h⟩ | h | h | h
      · exact ⟨_, h⟩
      · exact ⟨_, h.2 hgf⟩
      · exact ⟨_, h.2 hgf⟩
      · exact ⟨_, h.2 hgf⟩
    · exact ⟨_, h.2⟩
  all_goals first
    | (revert h; unfold wrGK; cases ch with
       | nil => exact absurd rfl hc
       | cons g r => intro h; exact ⟨_, h.2 hgf⟩)
    | exact rdK_some h

def isRd : I → Bool
  | .mv _ => true | .un _ _ => true | .bin _ _ _ => true | .conv _ _ => true | .nilck _ => true | .faddr _ _ => true | .fget _ _ _ _ => true | .ld _ _ _ => true
  | .iaddr _ _ _ => true | .iarr _ _ _ _ => true | .aidx _ _ _ => true | .slc3 _ _ _ _ _ => true | .isnil _ _ => true | .mkfn _ _ => true | .slc _ _ _ _ => true | .len _ => true | .eqb _ _ _ => true | .eqs _ _ _ _ => true | .mx _ _ => true | .mn _ _ => true | .extr _ _ => true | .mget _ _ _ _ => true | .mgetp _ _ _ _ => true
  | .slen _ => true | .sidx _ _ => true | .ssl _ _ _ => true | .scat _ _ => true | .sqs _ _ _ => true | .b2s _ => true
  | _ => false
def isWr : I → Bool
  | .alloc _ => true | .box _ => true | .st _ _ _ => true | .bslice _ _ _ _ => true | .mk _ _ _ _ _ => true | .mkmap _ => true | .mputp _ _ _ => true | .mput _ _ _ => true | .app _ _ _ _ => true | .cpy _ _ _ => true | .clr _ _ _ => true | .s2b _ => true | .aslc _ _ _ => true | .cpys _ _ => true
  | _ => false

theorem insK_rd {ch : List (Nat × Bool)} {gc : Bool} {i : I} (h : isRd i = true) (K : V → Store → Nat → Prop) : insK P st ch gc i K = rdK st.so i (opnd st.sl ch) gc fun v => K v st.so st.nx := by
  cases i <;> first | rfl | (simp [isRd] at h)
theorem insK_wr {ch : List (Nat × Bool)} {gc : Bool} {i : I} (h : isWr i = true) (K : V → Store → Nat → Prop) : insK P st ch gc i K = wrGK st.sl st.so st.nx ch gc i K := by
  cases i <;> first | rfl | (simp [isWr] at h)

theorem resOp_kind {o : Op} {i : I} (h : resOp P o = some i) : isRd i = true ∨ ∃ c a b c' a' b', o = .pick c a b ∧ i = .pick c' a' b' ∧ resA c = some c' ∧ resA a = some a' ∧ resA b = some b' := by
  unfold resOp at h
  split at h
  case h_3 =>
    split at h
    · rename_i h1 h2 h3
      obtain rfl := Option.some.inj h
      exact .inr ⟨_, _, _, _, _, _, rfl, rfl, h1, h2, h3⟩
    · cases h
  all_goals
    left
    first
      | (simp only [Option.map_eq_some_iff] at h; obtain ⟨a, h1, rfl⟩ := h; rfl)
      | skip
  all_goals
    repeat' (first | (cases h; done) | (obtain rfl := Option.some.inj h; rfl) | (simp only [Option.map_eq_some_iff] at h; obtain ⟨a, h1, rfl⟩ := h; rfl) | split at h)

theorem resOp'_kind {o : Op} {i : I} (h : resOp' P o = some i) : isRd i = true ∨ ∃ c a b c' a' b', o = .pick c a b ∧ i = .pick c' a' b' ∧ resA c = some c' ∧ resA a = some a' ∧ resA b = some b' := by
  unfold resOp' at h
  split at h
  · rename_i h1; obtain rfl := Option.some.inj h; exact resOp_kind h1
  · left
    unfold resS at h
    split at h
    all_goals
      repeat' (first | (cases h; done) | (obtain rfl := Option.some.inj h; rfl) | (simp only [Option.map_eq_some_iff] at h; obtain ⟨a, h1, rfl⟩ := h; rfl) | split at h)

theorem resW_kind {o : Op} {i : I} (h : resW P o = some i) : isWr i = true := by
  unfold resW at h
  split at h
  all_goals
    repeat' (first | (cases h; done) | (obtain rfl := Option.some.inj h; rfl) | (simp only [Option.map_eq_some_iff] at h; obtain ⟨a, h1, rfl⟩ := h; rfl) | split at h)

theorem wrK_ge {S : Store} {n : Nat} {i : I} {e : A → V} {K : V → Store → Nat → Prop} (h : wrK S n i e K) : wrK S n i e fun v S' n' => n ≤ n' ∧ K v S' n' := by
  revert h
  unfold wrK
  repeat' split
  all_goals intro h
  all_goals first
    | exact h.elim
    | exact ⟨by omega, h⟩
    | exact ⟨h.1, by omega, h.2⟩
    | exact ⟨h.1, h.2.1, by omega, h.2.2⟩
    | exact ⟨h.1, h.2.1, h.2.2.1, by omega, h.2.2.2⟩
    | exact ⟨h.1, h.2.1, h.2.2.1, h.2.2.2.1, by omega, h.2.2.2.2⟩
    | exact ⟨h.1, h.2.1, h.2.2.1, h.2.2.2.1, h.2.2.2.2.1, by omega, h.2.2.2.2.2⟩
    | exact ⟨h.1, h.2.1, h.2.2.1, h.2.2.2.1, h.2.2.2.2.1, h.2.2.2.2.2.1, by omega, h.2.2.2.2.2.2⟩
    | (obtain ⟨h1, h2, h3⟩ := h
       refine ⟨h1, h2, ?_⟩
       revert h3
       repeat' split
       all_goals intro h
       all_goals first
         | exact h.elim
         | exact ⟨h.1, h.2.1, by omega, h.2.2⟩
         | exact ⟨h.1, h.2.1, h.2.2.1, h.2.2.2.1, h.2.2.2.2.1, by omega, h.2.2.2.2.2⟩)

/-- ONE OPERATION. -/
theorem ins_step [Dfr] (h : RelSt U N σ st act w) {m : Nat} (hmn : m ≤ st.nx) (hfree : ∀ i, i < 16 → st.so.get (m + i) = none ∧ σ (m + i) = none) {ops : Array Oper} {o : Oper} {i : I} {g : Option (Nat × Bool)} {d : Option Nat} (hi : resI P o.op = some i) (hg : resG ops N o.guard = some g) (hd : resD N o.dst = some d)
    {ch : List (Nat × Bool)} {gc : Bool} (hgu : guardOf st.sl g = some (ch, gc)) {G : List Nat} (hG : GIn st.sl G) (hdG : ∀ d', d = some d' → d' ∉ G) (hchG : ∀ x ∈ ch, x.1 ∈ G)
    {KF : V → Store → Nat → Prop} (hK : insK P ⟨st.sl, st.so, m⟩ ch gc i KF) {next : Act → World → Prop} {Q : Exit → Act → World → Prop}
    (hnext : ∀ σ' v S' n1 cv w', KF v S' n1 → m ≤ n1 → RelSt U N σ' ⟨putS st.sl d ⟨ch, gc, v⟩, S', max st.nx n1⟩ (act.put d cv) w' → Grow σ st.so w st.nx σ' S' w' (max st.nx n1) → GIn (putS st.sl d ⟨ch, gc, v⟩) G → (∀ k, ¬ (m ≤ k ∧ k < m + 16) → σ' k = σ k) → next (act.put d cv) w') :
    if Region.wanted o (yielded ops act.tmps) then o.wp P act w next Q else next (act.put o.dst undef) w := by
  obtain ⟨c1, c2, c3, c4⟩ := guardOf_spec h hgu
  have hdd : o.dst = d ∧ ∀ d', d = some d' → d' < N := by
    unfold resD at hd
    split at hd
    · rename_i h0; obtain rfl := Option.some.inj hd; exact ⟨h0, fun _ h => by cases h⟩
    · rename_i d0 h0
      split at hd
      · rename_i hlt; obtain rfl := Option.some.inj hd; exact ⟨h0, fun d' hd' => by obtain rfl := Option.some.inj hd'; exact hlt⟩
      · cases hd
  obtain ⟨hdst, hdN⟩ := hdd
  have hdNG : ∀ d', d = some d' → d' < N ∧ d' ∉ G := fun d' h => ⟨hdN d' h, hdG d' h⟩
  have hch' : ∀ (s : SV), s.ch = ch → ∀ g ∈ s.ch, g.1 ∈ G := fun s hs g hg => hchG g (hs ▸ hg)
  rw [hdst]
  by_cases hw : Region.wanted o (yielded ops act.tmps) = true
  · rw [if_pos hw]
    have hgc : gc = true := c2 ((wanted_iff hg h.sz).1 hw)
    subst hgc
    have hold := c3 rfl
    have hall : ∀ x a, resA x = some a → VR (Own U σ st.so) w σ (opnd st.sl ch a) (act.eval x) := fun x a hx => resA_eval h hold hx
    have fin : ∀ (v : V) (cv : Value) (σ' : Sg) (S' : Store) (w' : World) (n' : Nat), KF v S' n' → m ≤ n' → (∀ k, ¬ (m ≤ k ∧ k < m + 16) → σ' k = σ k) → VR (Own U σ' S') w' σ' v cv → RelS U σ' S' w' (max st.nx n') → Grow σ st.so w st.nx σ' S' w' (max st.nx n') → next (act.put d cv) w' := by
      intro v cv σ' S' w' n' hK hmn' hσ hv hR' g
      refine hnext σ' v S' n' cv w' hK hmn' (h.put hG g hR' hdNG fun tmps' ht => ?_) g (hG.put (hch' _ rfl)) hσ
      unfold SVR
      split
      · exact hv
      · rename_i gg r hc
        refine ⟨fun _ => rfl, fun _ => ⟨fun x hx => ?_, hv⟩, fun h => by cases h⟩
        have hc' : ch = gg :: r := hc
        exact (ht x (hchG x (hc' ▸ hx))).2 (hold x (hc' ▸ hx))
    have hmx : max st.nx m = st.nx := by omega
    have rd : RdOk P U σ st.so w act.eval o.op (fun v => KF v st.so m) → o.wp P act w next Q := by
      rintro ⟨v, cv, hk, hv, hrun⟩
      unfold Oper.wp
      rw [hrun w o rfl (Same.refl w), Oper.upon_value, hdst]
      exact fin v cv σ st.so w m hk (Nat.le_refl _) (fun _ _ => rfl) hv (by rw [hmx]; exact h.rel) (by rw [hmx]; exact Grow.refl _ _ _ _)
    have wr : WrOk P U σ st.so w st.nx m act.eval o.op (fun v S n => m ≤ n ∧ KF v S n) → o.wp P act w next Q := by
      rintro ⟨v, S', n', ⟨hge, hk⟩, hrun⟩
      obtain ⟨nx, cv, w', σ', h1, h2, hσ, h3, h4, h5⟩ := hrun o rfl
      have hσ' : ∀ k, ¬ (m ≤ k ∧ k < m + 16) → σ' k = σ k := fun k hk => hσ k (by omega)
      unfold Oper.wp
      rw [h1]
      rcases h2 with rfl | ⟨rfl, rfl⟩
      · rw [Oper.upon_value, hdst]; exact fin v cv σ' S' w' n' hk hge hσ' h5 h4 h3
      · rw [Oper.upon_skip, hdst]; exact fin v _ σ' S' w' n' hk hge hσ' h5 h4 h3
    unfold resI at hi
    split at hi
    · rename_i i' hi'
      obtain rfl := Option.some.inj hi
      rcases resOp'_kind hi' with hrd | ⟨c, a, b, c', a', b', ho, rfl, e1, e2, e3⟩
      · rw [insK_rd hrd] at hK
        exact rd (rd_sound' hi' (fun _ => rfl) h.rel hall hK)
      · refine rd ?_
        simp only [insK, insK'] at hK
        split at hK
        · rename_i tc a'' b'' heq
          obtain ⟨rfl, rfl, rfl⟩ := I.pick.inj heq
          split at hK
          · rename_i x hx
            obtain ⟨t, rfl⟩ : ∃ t, c = .tmp t := by
              cases c with
              | tmp t => exact ⟨t, rfl⟩
              | const v => simp only [resA, Option.map_eq_some_iff] at e1; obtain ⟨_, _, h⟩ := e1; cases h
              | func f => simp [resA] at e1
              | global g => simp only [resA, Option.map_eq_some_iff] at e1; obtain ⟨_, _, h⟩ := e1; cases h
            obtain rfl : t = tc := by simpa [resA] using e1
            have hcv := hall _ _ e1
            rw [hx] at hcv
            generalize hvc : act.eval (.tmp t) = vc at hcv
            cases hcv
            have hgx : holds act.tmps (t, x) := hvc
            have run : ∀ (w' : World) (o' : Oper), o'.op = o.op → (execOp act.eval o').run P w' = .ok (.value (if x = true then act.eval a else act.eval b)) w' := by
              intro w' o' ho'
              simp [execOp, ho', ho, hvc, asBool]
            have ha : x = true → VR (Own U σ st.so) w σ (opnd st.sl ((t, true) :: ch) a') (act.eval a) := fun hx => resA_eval h (ch := (t, true) :: ch) (fun g hg => by rcases List.mem_cons.1 hg with rfl | hg; exact hx ▸ hgx; exact hold g hg) e2
            have hb : x = false → VR (Own U σ st.so) w σ (opnd st.sl ((t, false) :: ch) b') (act.eval b) := fun hx => resA_eval h (ch := (t, false) :: ch) (fun g hg => by rcases List.mem_cons.1 hg with rfl | hg; exact hx ▸ hgx; exact hold g hg) e3
            split at hK
            · rename_i p q hp hq
              cases x with
              | true =>
                have := ha rfl
                rw [hp] at this
                exact ⟨_, act.eval a, hK, this, fun w' o' ho' _ => by rw [run w' o' ho']; rfl⟩
              | false =>
                have := hb rfl
                rw [hq] at this
                exact ⟨_, act.eval b, hK, this, fun w' o' ho' _ => by rw [run w' o' ho']; rfl⟩
            · split at hK
              · exact ⟨_, act.eval a, hK, ha rfl, fun w' o' ho' _ => by rw [run w' o' ho']; rfl⟩
              · exact ⟨_, act.eval b, hK, hb rfl, fun w' o' ho' _ => by rw [run w' o' ho']; rfl⟩
          · exact absurd hK.1 (by simp)
        all_goals first
          | (rename_i heq; cases heq; done)
          | exact (show False from hK).elim
    · split at hi
      · rename_i z ps hb
        obtain rfl := Option.some.inj hi
        simp only [insK, insK'] at hK
        split at hK
        · rename_i cs hcs
          obtain ⟨hz, hK⟩ := hK
          obtain ⟨cv, hv, hrun⟩ := build_sound (P := P) hb hz hall hcs
          exact rd ⟨_, cv, hK, hv, fun w' o' ho' _ => hrun w' o' ho'⟩
        · cases hK
      · split at hi
        · rename_i i' hi'
          obtain rfl := Option.some.inj hi
          rw [insK_wr (resW_kind hi')] at hK
          unfold wrGK at hK
          have hK : wrK st.so m i' (opnd st.sl ch) KF := by
            cases ch with
            | nil => exact hK
            | cons g r => exact hK.1 rfl
          exact wr (wr_sound hi' h.rel (hfree 0 (by omega)) hmn (fun x a hx => resA_eval h hold hx) (wrK_ge hK))
        · unfold resCallB at hi
          split at hi
          case h_2 => obtain rfl := Option.some.inj hi; exact hK.elim
          rename_i _ ic hic
          obtain rfl := Option.some.inj hi
          clear hi
          have hi := hic
          unfold resCall at hi
          split at hi
          · rename_i f args ts hop
            split at hi
            · rename_i fn hfn
              split at hi
              · rename_i hb
                simp only [Option.map_eq_some_iff] at hi
                obtain ⟨xs, hxs, rfl⟩ := hi
                simp only [insK, insK'] at hK
                obtain ⟨hlen, hget⟩ := mapM_resA hxs
                have hargs : ∀ (i : Nat) v c, (xs.map (opnd st.sl ch))[i]? = some v → (args.map act.eval)[i]? = some c → VR (Own U σ st.so) w σ v c := fun i v c hv hc => by
                  rw [List.getElem?_map, Option.map_eq_some_iff] at hv
                  obtain ⟨a, ha, rfl⟩ := hv
                  rw [Array.getElem?_map, Option.map_eq_some_iff] at hc
                  obtain ⟨x, hx, rfl⟩ := hc
                  exact hall x a (hget i x a (by simpa using hx) ha)
                unfold Oper.wp
                rw [run_callE hfn hb.1 hb.2 o hop rfl, Oper.upon_enter]
                rcases hK with ⟨res, hf, hbor, hK⟩ | ⟨hK, -⟩ | ⟨hK, -⟩ | ⟨hK, -⟩
                · obtain ⟨hok, hfc⟩ := hf rfl
                  refine (pcall_sound h.rel (args := xs.map (opnd st.sl ch)) (by simp [hlen]) hargs hok hfc hbor).mono fun e w' ⟨cv, he, hv, hkp⟩ => ?_
                  subst he
                  rw [hdst]
                  exact fin res cv σ st.so w' m hK (Nat.le_refl _) (fun _ _ => rfl) hv (by rw [hmx]; exact h.rel.of_keep hkp) (by rw [hmx]; exact Grow.of_keep hkp)
                · obtain ⟨L, ob0, ob1, res, hfc, hlent, hnd, hle, hle2, hK⟩ := hK trivial
                  refine (ucall_sound h.rel hfree (args := xs.map (opnd st.sl ch)) (by simp [hlen]) hargs hfc hlent hnd (Nat.le_of_ble_eq_true hle) (Nat.le_of_ble_eq_true hle2)).mono fun e w' ⟨cv, σ', he, hσ, g, r, hv⟩ => ?_
                  subst he
                  rw [hdst]
                  exact fin _ cv σ' _ w' _ hK (by omega) hσ hv r g
                · obtain ⟨Fz, res, hfc, hok, hK⟩ := hK trivial
                  refine (fcall_sound h.rel (args := xs.map (opnd st.sl ch)) (by simp [hlen]) hargs hok hfc).mono fun e w' ⟨cv, he, hv, hkp⟩ => ?_
                  subst he
                  rw [hdst]
                  have hR1 := (h.rel.frz Fz).of_keep hkp
                  have hG1 : Grow σ st.so w st.nx σ (delL st.so Fz) w' st.nx := (Grow.frz Fz).trans (Grow.of_keep hkp)
                  exact fin res cv σ _ w' _ hK (by omega) (fun _ _ => rfl) hv ⟨hR1.obj, hR1.inj, fun k hk => hR1.fresh k (by omega), hR1.disj, hR1.ulim, hR1.gl⟩ ⟨hG1.keep, hG1.own, hG1.sg, by omega⟩
                · obtain ⟨L, ob0, ob1, res, hfc, hlent, hnd, hle2, hK⟩ := hK trivial
                  refine (mcall_sound h.rel hfree (args := xs.map (opnd st.sl ch)) (by simp [hlen]) hargs hfc hlent hnd (Nat.le_of_ble_eq_true hle2)).mono fun e w' ⟨cv, σ', he, hσ, g, r, hv⟩ => ?_
                  subst he
                  rw [hdst]
                  exact fin _ cv σ' _ w' _ hK (by omega) hσ hv r g
              · cases hi
            · cases hi
          · rename_i t args ts hop
            simp only [Option.map_eq_some_iff] at hi
            obtain ⟨xs, hxs, rfl⟩ := hi
            simp only [insK, insK'] at hK
            have hfv := hall (.tmp t) (.t t) rfl
            split at hK
            · rename_i f caps hcl0
              obtain ⟨hcal, hK⟩ := hK
              rw [hcl0] at hfv
              generalize hva : act.eval (.tmp t) = va at hfv
              cases hfv with
              | @fn _ _ _ arr hn0 hcaps =>
              obtain ⟨hlen, hget⟩ := mapM_resA hxs
              have hargs : ∀ (i : Nat) v c, (xs.map (opnd st.sl ch) ++ caps)[i]? = some v → (args.map act.eval ++ arr)[i]? = some c → VR (Own U σ st.so) w σ v c := fun i v c hv hc => by
                rw [List.getElem?_append, List.length_map] at hv
                rw [Array.getElem?_append, Array.size_map] at hc
                have hsz : xs.length = args.size := by simpa using hlen
                split at hv
                · rename_i hlt
                  rw [if_pos (by omega)] at hc
                  rw [List.getElem?_map, Option.map_eq_some_iff] at hv
                  obtain ⟨a, ha, rfl⟩ := hv
                  rw [Array.getElem?_map, Option.map_eq_some_iff] at hc
                  obtain ⟨x, hx, rfl⟩ := hc
                  exact hall x a (hget i x a (by simpa using hx) ha)
                · rename_i hlt
                  rw [if_neg (by omega), ← hsz] at hc
                  exact hcaps _ v c hv hc
              have hsz2 : (args.map act.eval ++ arr).size = (xs.map (opnd st.sl ch) ++ caps).length := by
                have hsz : xs.length = args.size := by simpa using hlen
                simp [hsz, hn0]
              unfold Oper.wp
              rw [run_callV hcal o hop hva, Oper.upon_enter]
              rcases hK with ⟨res, hf, hbor, hK⟩ | ⟨hK, -⟩ | ⟨hK, -⟩ | ⟨hK, -⟩
              · obtain ⟨hok, hfc⟩ := hf rfl
                refine (pcall_sound h.rel (args := xs.map (opnd st.sl ch) ++ caps) hsz2 hargs hok hfc hbor).mono fun e w' ⟨cv, he, hv, hkp⟩ => ?_
                subst he
                rw [hdst]
                exact fin res cv σ st.so w' m hK (Nat.le_refl _) (fun _ _ => rfl) hv (by rw [hmx]; exact h.rel.of_keep hkp) (by rw [hmx]; exact Grow.of_keep hkp)
              · obtain ⟨L, ob0, ob1, res, hfc, hlent, hnd, hle, hle2, hK⟩ := hK trivial
                refine (ucall_sound h.rel hfree (args := xs.map (opnd st.sl ch) ++ caps) hsz2 hargs hfc hlent hnd (Nat.le_of_ble_eq_true hle) (Nat.le_of_ble_eq_true hle2)).mono fun e w' ⟨cv, σ', he, hσ, g, r, hv⟩ => ?_
                subst he
                rw [hdst]
                exact fin _ cv σ' _ w' _ hK (by omega) hσ hv r g
              · obtain ⟨Fz, res, hfc, hok, hK⟩ := hK trivial
                refine (fcall_sound h.rel (args := xs.map (opnd st.sl ch) ++ caps) hsz2 hargs hok hfc).mono fun e w' ⟨cv, he, hv, hkp⟩ => ?_
                subst he
                rw [hdst]
                have hR1 := (h.rel.frz Fz).of_keep hkp
                have hG1 : Grow σ st.so w st.nx σ (delL st.so Fz) w' st.nx := (Grow.frz Fz).trans (Grow.of_keep hkp)
                exact fin res cv σ _ w' _ hK (by omega) (fun _ _ => rfl) hv ⟨hR1.obj, hR1.inj, fun k hk => hR1.fresh k (by omega), hR1.disj, hR1.ulim, hR1.gl⟩ ⟨hG1.keep, hG1.own, hG1.sg, by omega⟩
              · obtain ⟨L, ob0, ob1, res, hfc, hlent, hnd, hle2, hK⟩ := hK trivial
                refine (mcall_sound h.rel hfree (args := xs.map (opnd st.sl ch) ++ caps) hsz2 hargs hfc hlent hnd (Nat.le_of_ble_eq_true hle2)).mono fun e w' ⟨cv, σ', he, hσ, g, r, hv⟩ => ?_
                subst he
                rw [hdst]
                exact fin _ cv σ' _ w' _ hK (by omega) hσ hv r g
            · exact absurd hK.1 (by simp)
          · cases hi
  · rw [if_neg hw]
    have hne : ch ≠ [] := fun h0 => hw ((wanted_iff hg h.sz).2 fun x hx => by rw [(c1 h0).2] at hx; cases hx)
    have hgf : gc = false := by
      cases hgc : gc with
      | false => rfl
      | true =>
        refine absurd ((wanted_iff hg h.sz).2 fun x hx => ?_) hw
        obtain ⟨r, hr⟩ := c4 x hx
        exact c3 hgc x (by rw [hr]; simp)
    obtain ⟨v, hv⟩ := insK_some hK hne hgf
    have hmx : max st.nx m = st.nx := by omega
    refine hnext σ v _ _ undef w hv (Nat.le_refl _) (h.put hG (by rw [hmx]; exact Grow.refl _ _ _ _) (by rw [hmx]; exact h.rel) hdNG fun tmps' ht => ?_) (by rw [hmx]; exact Grow.refl _ _ _ _) (hG.put (hch' _ rfl)) (fun _ _ => rfl)
    unfold SVR
    split
    · rename_i hc; exact absurd hc hne
    · rename_i gg r hc
      refine ⟨fun hh => ?_, ⟨fun hg' => absurd (show gc = true from hg') (by simp [hgf]), fun _ => rfl⟩⟩
      have hc' : ch = gg :: r := hc
      have := (ht gg (hchG gg (by rw [hc']; simp))).1 hh
      cases hgg : g with
      | none =>
        rw [hgg] at hgu
        simp only [guardOf, Option.some.injEq, Prod.mk.injEq] at hgu
        rw [← hgu.1] at hne; exact absurd rfl hne
      | some x =>
        obtain ⟨r', hr'⟩ := c4 x hgg
        rw [hc'] at hr'
        obtain ⟨rfl, -⟩ := List.cons.inj hr'
        exact c2 fun y hy => by rw [hgg] at hy; obtain rfl := Option.some.inj hy; exact this
end
end Go.Sk
