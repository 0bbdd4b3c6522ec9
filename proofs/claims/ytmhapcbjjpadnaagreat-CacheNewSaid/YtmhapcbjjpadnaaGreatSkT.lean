/- Sk, part T: resolved code that nobody spells out: computed, written out by unification, its dead slots and cuts computed too. -/
import Derived.Test.YtmhapcbjjpadnaaGreatSkS
set_option linter.unusedSimpArgs false
set_option linter.unusedVariables false
set_option linter.unusedSectionVars false
set_option linter.constructorNameAsVariable false
namespace Go.Sk
open Go Go.RowKit
variable [Tab]

/-! Forced copies. -/
def natL : List Nat → Nat → Option Nat
  | [], n => some n
  | k :: r, n => match Nat.beq n k with
    | true => some k
    | false => natL r n
theorem natL_eq : ∀ {l : List Nat} {n m : Nat}, natL l n = some m → m = n
  | [], n, m, h => (Option.some.inj h).symm
  | k :: r, n, m, h => by
    simp only [natL] at h
    split at h
    · rename_i e; rw [Nat.eq_of_beq_eq_true e]; exact (Option.some.inj h).symm
    · exact natL_eq h
def natN (n : Nat) : Option Nat := natL [0, 1, 2, 3, 4, 5, 6, 7, 8, 9, 10, 11, 12, 13, 14, 15, 16, 17, 18, 19, 20, 21, 22, 23, 24, 25, 26, 27, 28, 29, 30, 31, 32, 33, 34, 35, 36, 37, 38, 39, 40, 48, 56, 64, 72, 80, 88, 96, 104, 112, 120, 128, 136, 144, 152, 160, 168, 176, 184, 192, 200, 208, 216, 224, 232, 240, 248, 256, 264, 272, 280, 288, 296, 304, 312, 320, 328, 336, 344, 352, 360, 368, 376, 384, 392, 400, 408, 416, 424, 432, 440, 448, 456, 464, 472, 480] n
theorem natN_eq {n m : Nat} (h : natN n = some m) : m = n := natL_eq h

def nList {α : Type} (f : α → Option α) : List α → Option (List α)
  | [] => some []
  | a :: r => match f a, nList f r with
    | some a, some r => some (a :: r)
    | _, _ => none
theorem nList_eq {α : Type} {f : α → Option α} (hf : ∀ a b, f a = some b → b = a) : ∀ {l m : List α}, nList f l = some m → m = l
  | [], m, h => (Option.some.inj h).symm
  | a :: r, m, h => by
    simp only [nList] at h
    split at h
    · rename_i a' r' h1 h2
      obtain rfl := Option.some.inj h
      rw [hf _ _ h1, nList_eq hf h2]
    · cases h

def nV : V → Option V
  | .rp es cs c => match natN es, nList (fun v => some v) cs with
    | some es, some cs => some (.rp es cs c)
    | _, _ => none
  | .fn f cs => some (.fn f cs)
  | v => some v
theorem nV_eq {v u : V} (h : nV v = some u) : u = v := by
  unfold nV at h
  split at h
  · split at h
    · rename_i h1 h2
      obtain rfl := Option.some.inj h
      rw [natN_eq h1, nList_eq (fun _ _ h => (Option.some.inj h).symm) h2]
    · cases h
  · exact (Option.some.inj h).symm
  · exact (Option.some.inj h).symm
def nA : A → Option A
  | .t n => some (.t n)
  | .c v => match nV v with
    | some v => some (.c v)
    | none => none
theorem nA_eq {a b : A} (h : nA a = some b) : b = a := by
  cases a with
  | t n => exact (Option.some.inj h).symm
  | c v =>
    simp only [nA] at h
    split at h
    · rename_i h1; rw [← nV_eq h1]; exact (Option.some.inj h).symm
    · cases h
def nO : Option A → Option (Option A)
  | none => some none
  | some a => match nA a with
    | some a => some (some a)
    | none => none
theorem nO_eq {a b : Option A} (h : nO a = some b) : b = a := by
  cases a with
  | none => exact (Option.some.inj h).symm
  | some v =>
    simp only [nO] at h
    split at h
    · rename_i h1; rw [← nA_eq h1]; exact (Option.some.inj h).symm
    · cases h
def nPB : Nat × Kd → Option (Nat × Kd)
  | (n, b) => match natN n, b with
    | some n, .i => some (n, .i)
    | some n, .b => some (n, .b)
    | some n, .s => some (n, .s)
    | none, _ => none
theorem nPB_eq {p q : Nat × Kd} (h : nPB p = some q) : q = p := by
  obtain ⟨n, b⟩ := p
  simp only [nPB] at h
  split at h
  all_goals first
    | (cases h; done)
    | (rename_i h1; rw [← natN_eq h1]; exact (Option.some.inj h).symm)
def nPA : Nat × A → Option (Nat × A)
  | (n, a) => match natN n, nA a with
    | some n, some a => some (n, a)
    | _, _ => none
theorem nPA_eq {p q : Nat × A} (h : nPA p = some q) : q = p := by
  obtain ⟨n, a⟩ := p
  simp only [nPA] at h
  split at h
  · rename_i h1 h2; rw [← natN_eq h1, ← nA_eq h2]; exact (Option.some.inj h).symm
  · cases h
def nPNA : Nat × Nat × A → Option (Nat × Nat × A)
  | (n, m, a) => match natN n, natN m, nA a with
    | some n, some m, some a => some (n, m, a)
    | _, _, _ => none
theorem nPNA_eq {p q : Nat × Nat × A} (h : nPNA p = some q) : q = p := by
  obtain ⟨n, m, a⟩ := p
  simp only [nPNA] at h
  split at h
  · rename_i h1 h2 h3; rw [← natN_eq h1, ← natN_eq h2, ← nA_eq h3]; exact (Option.some.inj h).symm
  · cases h

def nI : I → Option I
  | .mv x0 => match nA x0 with
    | some x0 => some (.mv x0)
    | _ => none
  | .pick x0 x1 x2 => match nA x0, nA x1, nA x2 with
    | some x0, some x1, some x2 => some (.pick x0 x1 x2)
    | _, _, _ => none
  | .un x0 x1 => match nA x1 with
    | some x1 => some (.un x0 x1)
    | _ => none
  | .bin x0 x1 x2 => match nA x1, nA x2 with
    | some x1, some x2 => some (.bin x0 x1 x2)
    | _, _ => none
  | .conv x0 x1 => match nA x1 with
    | some x1 => some (.conv x0 x1)
    | _ => none
  | .nilck x0 => match nA x0 with
    | some x0 => some (.nilck x0)
    | _ => none
  | .faddr x0 x1 => match natN x0, nA x1 with
    | some x0, some x1 => some (.faddr x0 x1)
    | _, _ => none
  | .fget x0 x1 x2 x3 => match natN x1, natN x2, nA x3 with
    | some x1, some x2, some x3 => some (.fget x0 x1 x2 x3)
    | _, _, _ => none
  | .ld x0 x1 x2 => match natN x1, nA x2 with
    | some x1, some x2 => some (.ld x0 x1 x2)
    | _, _ => none
  | .st x0 x1 x2 => match natN x0, nA x1, nA x2 with
    | some x0, some x1, some x2 => some (.st x0 x1 x2)
    | _, _, _ => none
  | .iaddr x0 x1 x2 => match natN x0, nA x1, nA x2 with
    | some x0, some x1, some x2 => some (.iaddr x0 x1 x2)
    | _, _, _ => none
  | .iarr x0 x1 x2 x3 => match natN x0, natN x1, nA x2, nA x3 with
    | some x0, some x1, some x2, some x3 => some (.iarr x0 x1 x2 x3)
    | _, _, _, _ => none
  | .aidx x0 x1 x2 => match natN x0, nA x1, nA x2 with
    | some x0, some x1, some x2 => some (.aidx x0 x1 x2)
    | _, _, _ => none
  | .slc x0 x1 x2 x3 => match natN x0, nA x1, nO x2, nO x3 with
    | some x0, some x1, some x2, some x3 => some (.slc x0 x1 x2 x3)
    | _, _, _, _ => none
  | .slc3 x0 x1 x2 x3 x4 => match natN x0, nA x1, nO x2, nA x3, nA x4 with
    | some x0, some x1, some x2, some x3, some x4 => some (.slc3 x0 x1 x2 x3 x4)
    | _, _, _, _, _ => none
  | .isnil x0 x1 => match nA x1 with
    | some x1 => some (.isnil x0 x1)
    | _ => none
  | .mkfn x0 x1 => match nList nA x1 with
    | some x1 => some (.mkfn x0 x1)
    | _ => none
  | .len x0 => match nA x0 with
    | some x0 => some (.len x0)
    | _ => none
  | .mx x0 x1 => match nA x0, nA x1 with
    | some x0, some x1 => some (.mx x0 x1)
    | _, _ => none
  | .mn x0 x1 => match nA x0, nA x1 with
    | some x0, some x1 => some (.mn x0 x1)
    | _, _ => none
  | .extr x0 x1 => match nA x1 with
    | some x1 => some (.extr x0 x1)
    | _ => none
  | .eqb x0 x1 x2 => match nA x1, nA x2 with
    | some x1, some x2 => some (.eqb x0 x1 x2)
    | _, _ => none
  | .eqs x0 x1 x2 x3 => match nList nPB x1, nA x2, nA x3 with
    | some x1, some x2, some x3 => some (.eqs x0 x1 x2 x3)
    | _, _, _ => none
  | .slen x0 => match nA x0 with
    | some x0 => some (.slen x0)
    | _ => none
  | .sidx x0 x1 => match nA x0, nA x1 with
    | some x0, some x1 => some (.sidx x0 x1)
    | _, _ => none
  | .ssl x0 x1 x2 => match nA x0, nO x1, nO x2 with
    | some x0, some x1, some x2 => some (.ssl x0 x1 x2)
    | _, _, _ => none
  | .scat x0 x1 => match nA x0, nA x1 with
    | some x0, some x1 => some (.scat x0 x1)
    | _, _ => none
  | .sqs x0 x1 x2 => match nA x1, nA x2 with
    | some x1, some x2 => some (.sqs x0 x1 x2)
    | _, _ => none
  | .b2s x0 => match nA x0 with
    | some x0 => some (.b2s x0)
    | _ => none
  | .s2b x0 => match nA x0 with
    | some x0 => some (.s2b x0)
    | _ => none
  | .aslc x0 x1 x2 => match natN x0, nA x1, nO x2 with
    | some x0, some x1, some x2 => some (.aslc x0 x1 x2)
    | _, _, _ => none
  | .cpys x0 x1 => match nA x0, nA x1 with
    | some x0, some x1 => some (.cpys x0 x1)
    | _, _ => none
  | .build x0 x1 => match nList (fun v => some v) x0, nList nPNA x1 with
    | some x0, some x1 => some (.build x0 x1)
    | _, _ => none
  | .alloc x0 => match nList (fun v => some v) x0 with
    | some x0 => some (.alloc x0)
    | _ => none
  | .box x0 => match nA x0 with
    | some x0 => some (.box x0)
    | _ => none
  | .bslice x0 x1 x2 x3 => match natN x0, nList (fun v => some v) x1, nList nPA x3 with
    | some x0, some x1, some x3 => some (.bslice x0 x1 x2 x3)
    | _, _, _ => none
  | .mk x0 x1 x2 x3 x4 => match natN x0, natN x1, nList (fun v => some v) x2, nA x3, nA x4 with
    | some x0, some x1, some x2, some x3, some x4 => some (.mk x0 x1 x2 x3 x4)
    | _, _, _, _, _ => none
  | .app x0 x1 x2 x3 => match natN x0, natN x1, nA x2, nA x3 with
    | some x0, some x1, some x2, some x3 => some (.app x0 x1 x2 x3)
    | _, _, _, _ => none
  | .cpy x0 x1 x2 => match natN x0, nA x1, nA x2 with
    | some x0, some x1, some x2 => some (.cpy x0 x1 x2)
    | _, _, _ => none
  | .mkmap ks => match natN ks with
    | some ks => some (.mkmap ks)
    | none => none
  | .mget x0 x1 x2 x3 => match nA x2, nA x3 with
    | some x2, some x3 => some (.mget x0 x1 x2 x3)
    | _, _ => none
  | .mput x0 x1 x2 => match nA x0, nA x1, nA x2 with
    | some x0, some x1, some x2 => some (.mput x0 x1 x2)
    | _, _, _ => none
  | .mgetp x0 x1 x2 x3 => match nA x2, nA x3 with
    | some x2, some x3 => some (.mgetp x0 x1 x2 x3)
    | _, _ => none
  | .mputp x0 x1 x2 => match nA x0, nA x1, nA x2 with
    | some x0, some x1, some x2 => some (.mputp x0 x1 x2)
    | _, _, _ => none
  | .clr x0 x1 x2 => match natN x0, nList (fun v => some v) x1, nA x2 with
    | some x0, some x1, some x2 => some (.clr x0 x1 x2)
    | _, _, _ => none
  | .bad => some .bad
  | .call x0 x1 => match nList nA x1 with
    | some x1 => some (.call x0 x1)
    | _ => none
  | .vcall x0 x1 => match nA x0, nList nA x1 with
    | some x0, some x1 => some (.vcall x0 x1)
    | _, _ => none
theorem nI_eq {i j : I} (h : nI i = some j) : j = i := by
  cases i
  · simp only [nI] at h
    split at h
    · rename_i h0
      obtain rfl := Option.some.inj h
      rw [nA_eq h0]
    · cases h
  · simp only [nI] at h
    split at h
    · rename_i h0 h1 h2
      obtain rfl := Option.some.inj h
      rw [nA_eq h0, nA_eq h1, nA_eq h2]
    · cases h
  · simp only [nI] at h
    split at h
    · rename_i h0
      obtain rfl := Option.some.inj h
      rw [nA_eq h0]
    · cases h
  · simp only [nI] at h
    split at h
    · rename_i h0 h1
      obtain rfl := Option.some.inj h
      rw [nA_eq h0, nA_eq h1]
    · cases h
  · simp only [nI] at h
    split at h
    · rename_i h0
      obtain rfl := Option.some.inj h
      rw [nA_eq h0]
    · cases h
  · simp only [nI] at h
    split at h
    · rename_i h0
      obtain rfl := Option.some.inj h
      rw [nA_eq h0]
    · cases h
  · simp only [nI] at h
    split at h
    · rename_i h0 h1
      obtain rfl := Option.some.inj h
      rw [natN_eq h0, nA_eq h1]
    · cases h
  · simp only [nI] at h
    split at h
    · rename_i h0 h1 h2
      obtain rfl := Option.some.inj h
      rw [natN_eq h0, natN_eq h1, nA_eq h2]
    · cases h
  · simp only [nI] at h
    split at h
    · rename_i h0 h1
      obtain rfl := Option.some.inj h
      rw [natN_eq h0, nA_eq h1]
    · cases h
  · simp only [nI] at h
    split at h
    · rename_i h0 h1 h2
      obtain rfl := Option.some.inj h
      rw [natN_eq h0, nA_eq h1, nA_eq h2]
    · cases h
  · simp only [nI] at h
    split at h
    · rename_i h0 h1 h2
      obtain rfl := Option.some.inj h
      rw [natN_eq h0, nA_eq h1, nA_eq h2]
    · cases h
  · simp only [nI] at h
    split at h
    · rename_i h0 h1 h2 h3
      obtain rfl := Option.some.inj h
      rw [natN_eq h0, natN_eq h1, nA_eq h2, nA_eq h3]
    · cases h
  · simp only [nI] at h
    split at h
    · rename_i h0 h1 h2
      obtain rfl := Option.some.inj h
      rw [natN_eq h0, nA_eq h1, nA_eq h2]
    · cases h
  · simp only [nI] at h
    split at h
    · rename_i h0 h1 h2 h3
      obtain rfl := Option.some.inj h
      rw [natN_eq h0, nA_eq h1, nO_eq h2, nO_eq h3]
    · cases h
  · simp only [nI] at h
    split at h
    · rename_i h0 h1 h2 h3 h4
      obtain rfl := Option.some.inj h
      rw [natN_eq h0, nA_eq h1, nO_eq h2, nA_eq h3, nA_eq h4]
    · cases h
  · simp only [nI] at h
    split at h
    · rename_i h0
      obtain rfl := Option.some.inj h
      rw [nA_eq h0]
    · cases h
  · simp only [nI] at h
    split at h
    · rename_i h0
      obtain rfl := Option.some.inj h
      rw [(nList_eq (fun _ _ h => nA_eq h) h0)]
    · cases h
  · simp only [nI] at h
    split at h
    · rename_i h0
      obtain rfl := Option.some.inj h
      rw [nA_eq h0]
    · cases h
  · simp only [nI] at h
    split at h
    · rename_i h0 h1
      obtain rfl := Option.some.inj h
      rw [nA_eq h0, nA_eq h1]
    · cases h
  · simp only [nI] at h
    split at h
    · rename_i h0 h1
      obtain rfl := Option.some.inj h
      rw [nA_eq h0, nA_eq h1]
    · cases h
  · simp only [nI] at h
    split at h
    · rename_i h0
      obtain rfl := Option.some.inj h
      rw [nA_eq h0]
    · cases h
  · simp only [nI] at h
    split at h
    · rename_i h0 h1
      obtain rfl := Option.some.inj h
      rw [nA_eq h0, nA_eq h1]
    · cases h
  · simp only [nI] at h
    split at h
    · rename_i h0 h1 h2
      obtain rfl := Option.some.inj h
      rw [(nList_eq (fun _ _ h => nPB_eq h) h0), nA_eq h1, nA_eq h2]
    · cases h
  · simp only [nI] at h
    split at h
    · rename_i h0
      obtain rfl := Option.some.inj h
      rw [nA_eq h0]
    · cases h
  · simp only [nI] at h
    split at h
    · rename_i h0 h1
      obtain rfl := Option.some.inj h
      rw [nA_eq h0, nA_eq h1]
    · cases h
  · simp only [nI] at h
    split at h
    · rename_i h0 h1 h2
      obtain rfl := Option.some.inj h
      rw [nA_eq h0, nO_eq h1, nO_eq h2]
    · cases h
  · simp only [nI] at h
    split at h
    · rename_i h0 h1
      obtain rfl := Option.some.inj h
      rw [nA_eq h0, nA_eq h1]
    · cases h
  · simp only [nI] at h
    split at h
    · rename_i h0 h1
      obtain rfl := Option.some.inj h
      rw [nA_eq h0, nA_eq h1]
    · cases h
  · simp only [nI] at h
    split at h
    · rename_i h0
      obtain rfl := Option.some.inj h
      rw [nA_eq h0]
    · cases h
  · simp only [nI] at h
    split at h
    · rename_i h0
      obtain rfl := Option.some.inj h
      rw [nA_eq h0]
    · cases h
  · simp only [nI] at h
    split at h
    · rename_i h0 h1 h2
      obtain rfl := Option.some.inj h
      rw [natN_eq h0, nA_eq h1, nO_eq h2]
    · cases h
  · simp only [nI] at h
    split at h
    · rename_i h0 h1
      obtain rfl := Option.some.inj h
      rw [nA_eq h0, nA_eq h1]
    · cases h
  · simp only [nI] at h
    split at h
    · rename_i h0 h1
      obtain rfl := Option.some.inj h
      rw [(nList_eq (fun _ _ h => (Option.some.inj h).symm) h0), (nList_eq (fun _ _ h => nPNA_eq h) h1)]
    · cases h
  · simp only [nI] at h
    split at h
    · rename_i h0
      obtain rfl := Option.some.inj h
      rw [(nList_eq (fun _ _ h => (Option.some.inj h).symm) h0)]
    · cases h
  · simp only [nI] at h
    split at h
    · rename_i h0
      obtain rfl := Option.some.inj h
      rw [nA_eq h0]
    · cases h
  · simp only [nI] at h
    split at h
    · rename_i h0 h1 h2
      obtain rfl := Option.some.inj h
      rw [natN_eq h0, (nList_eq (fun _ _ h => (Option.some.inj h).symm) h1), (nList_eq (fun _ _ h => nPA_eq h) h2)]
    · cases h
  · simp only [nI] at h
    split at h
    · rename_i h0 h1 h2 h3 h4
      obtain rfl := Option.some.inj h
      rw [natN_eq h0, natN_eq h1, (nList_eq (fun _ _ h => (Option.some.inj h).symm) h2), nA_eq h3, nA_eq h4]
    · cases h
  · simp only [nI] at h
    split at h
    · rename_i h0 h1 h2 h3
      obtain rfl := Option.some.inj h
      rw [natN_eq h0, natN_eq h1, nA_eq h2, nA_eq h3]
    · cases h
  · simp only [nI] at h
    split at h
    · rename_i h0 h1 h2
      obtain rfl := Option.some.inj h
      rw [natN_eq h0, nA_eq h1, nA_eq h2]
    · cases h
  · simp only [nI] at h
    split at h
    · rename_i h0
      obtain rfl := Option.some.inj h
      rw [natN_eq h0]
    · cases h
  · simp only [nI] at h
    split at h
    · rename_i h0 h1
      obtain rfl := Option.some.inj h
      rw [nA_eq h0, nA_eq h1]
    · cases h
  · simp only [nI] at h
    split at h
    · rename_i h0 h1 h2
      obtain rfl := Option.some.inj h
      rw [nA_eq h0, nA_eq h1, nA_eq h2]
    · cases h
  · simp only [nI] at h
    split at h
    · rename_i h0 h1
      obtain rfl := Option.some.inj h
      rw [nA_eq h0, nA_eq h1]
    · cases h
  · simp only [nI] at h
    split at h
    · rename_i h0 h1 h2
      obtain rfl := Option.some.inj h
      rw [nA_eq h0, nA_eq h1, nA_eq h2]
    · cases h
  · simp only [nI] at h
    split at h
    · rename_i h0 h1 h2
      obtain rfl := Option.some.inj h
      rw [natN_eq h0, (nList_eq (fun _ _ h => (Option.some.inj h).symm) h1), nA_eq h2]
    · cases h
  · simp only [nI] at h
    split at h
    · rename_i h0
      obtain rfl := Option.some.inj h
      rw [(nList_eq (fun _ _ h => nA_eq h) h0)]
    · cases h
  · simp only [nI] at h
    split at h
    · rename_i h0 h1
      obtain rfl := Option.some.inj h
      rw [nA_eq h0, (nList_eq (fun _ _ h => nA_eq h) h1)]
    · cases h
  · exact (Option.some.inj h).symm

/-! The slots that are read. -/
def usA : A → List Nat
  | .t n => [n]
  | .c _ => []
def usO : Option A → List Nat
  | some a => usA a
  | none => []
def usL : List A → List Nat
  | [] => []
  | a :: r => usA a ++ usL r
def usR : List (Nat × A) → List Nat
  | [] => []
  | (_, a) :: r => usA a ++ usR r
def usQ : List (Nat × Nat × A) → List Nat
  | [] => []
  | (_, _, a) :: r => usA a ++ usQ r
def usI : I → List Nat
  | .mv x0 => usA x0
  | .pick x0 x1 x2 => usA x0 ++ usA x1 ++ usA x2
  | .un _ x1 => usA x1
  | .bin _ x1 x2 => usA x1 ++ usA x2
  | .conv _ x1 => usA x1
  | .nilck x0 => usA x0
  | .faddr _ x1 => usA x1
  | .fget _ _ _ x3 => usA x3
  | .ld _ _ x2 => usA x2
  | .st _ x1 x2 => usA x1 ++ usA x2
  | .iaddr _ x1 x2 => usA x1 ++ usA x2
  | .iarr _ _ x2 x3 => usA x2 ++ usA x3
  | .aidx _ x1 x2 => usA x1 ++ usA x2
  | .slc _ x1 x2 x3 => usA x1 ++ usO x2 ++ usO x3
  | .slc3 _ x1 x2 x3 x4 => usA x1 ++ usO x2 ++ usA x3 ++ usA x4
  | .isnil _ x1 => usA x1
  | .mkfn _ x1 => usL x1
  | .len x0 => usA x0
  | .mx x0 x1 => usA x0 ++ usA x1
  | .mn x0 x1 => usA x0 ++ usA x1
  | .extr _ x1 => usA x1
  | .eqb _ x1 x2 => usA x1 ++ usA x2
  | .eqs _ _ x2 x3 => usA x2 ++ usA x3
  | .slen x0 => usA x0
  | .sidx x0 x1 => usA x0 ++ usA x1
  | .ssl x0 x1 x2 => usA x0 ++ usO x1 ++ usO x2
  | .scat x0 x1 => usA x0 ++ usA x1
  | .sqs _ x1 x2 => usA x1 ++ usA x2
  | .b2s x0 => usA x0
  | .s2b x0 => usA x0
  | .aslc _ x1 x2 => usA x1 ++ usO x2
  | .cpys x0 x1 => usA x0 ++ usA x1
  | .build _ x1 => usQ x1
  | .alloc _ => []
  | .box x0 => usA x0
  | .bslice _ _ _ x3 => usR x3
  | .mk _ _ _ x3 x4 => usA x3 ++ usA x4
  | .app _ _ x2 x3 => usA x2 ++ usA x3
  | .cpy _ x1 x2 => usA x1 ++ usA x2
  | .mkmap _ => []
  | .mget _ _ x2 x3 => usA x2 ++ usA x3
  | .mgetp _ _ x2 x3 => usA x2 ++ usA x3
  | .mput x0 x1 x2 => usA x0 ++ usA x1 ++ usA x2
  | .mputp x0 x1 x2 => usA x0 ++ usA x1 ++ usA x2
  | .clr _ _ x2 => usA x2
  | .call _ x1 => usL x1
  | .vcall x0 x1 => usA x0 ++ usL x1
  | .bad => []

/-! Dead slots. -/
def inN (n : Nat) : List Nat → Bool
  | [] => false
  | k :: r => match Nat.beq n k with
    | true => true
    | false => inN n r
/-- The union, without doubles, written out. -/
def unN : List Nat → List Nat → Option (List Nat)
  | [], l => some l
  | n :: r, l => match inN n l with
    | true => unN r l
    | false => unN r (n :: l)
/-- What of the first list is not in the second. -/
def minN : List Nat → List Nat → Option (List Nat)
  | [], _ => some []
  | n :: r, l => match inN n l with
    | true => minN r l
    | false => match minN r l with
      | some q => some (n :: q)
      | none => none

def nG : Option (Nat × Bool) → Option (Option (Nat × Bool))
  | none => some none
  | some (n, true) => some (some (n, true))
  | some (n, false) => some (some (n, false))
theorem nG_eq {g g' : Option (Nat × Bool)} (h : nG g = some g') : g' = g := by
  unfold nG at h
  split at h <;> exact (Option.some.inj h).symm
def nIns : Ins → Option Ins
  | ⟨none, g, i⟩ => match nG g, nI i with
    | some g, some i => some ⟨none, g, i⟩
    | _, _ => none
  | ⟨some d, g, i⟩ => match nG g, nI i with
    | some g, some i => some ⟨some d, g, i⟩
    | _, _ => none
theorem nIns_eq {a b : Ins} (h : nIns a = some b) : b = a := by
  obtain ⟨d, g, i⟩ := a
  cases d with
  | none =>
    simp only [nIns] at h
    split at h
    · rename_i h1 h2; rw [← nG_eq h1, ← nI_eq h2]; exact (Option.some.inj h).symm
    · cases h
  | some d =>
    simp only [nIns] at h
    split at h
    · rename_i h1 h2; rw [← nG_eq h1, ← nI_eq h2]; exact (Option.some.inj h).symm
    · cases h
def usG : Option (Nat × Bool) → List Nat
  | some (n, _) => [n]
  | none => []
def usIns : List Ins → List Nat
  | [] => []
  | ⟨_, g, i⟩ :: r => usG g ++ (usI i ++ usIns r)
def defIns : List Ins → List Nat
  | [] => []
  | ⟨some d, _, _⟩ :: r => d :: defIns r
  | ⟨none, _, _⟩ :: r => defIns r
def usRC : RC → List Nat
  | .skip => []
  | .reg l _ => usIns l
  | .dreg _ _ l _ _ _ => usIns l
  | .seq a b => usRC a ++ usRC b
  | .cut a b => usRC a ++ usRC b
  | .regc a b _ => usIns a ++ usIns b
  | .regv a _ b _ => usIns a ++ usIns b
  | .cond c a b => usA c ++ (usRC a ++ usRC b)
  | .block _ c => usRC c
  | .loop c => usRC c
  | .uloop c => usRC c
  | .exit _ => []
  | .ret => []
  | .bad => []

/-- Resolved code written out, its dead slots noted. live: what is read behind it. -/
def optC : RC → List Nat → Option RC
  | .reg l _, live => match nList nIns l with
    | some l => match unN (defIns l ++ usIns l) [] with
      | some ds => match minN ds live with
        | some k => some (.reg l k)
        | none => none
      | none => none
    | none => none
  | .dreg b n l _ an ms, live => match nList nIns l, natN b, natN n, nList (nList fun v => natN v) an, nList natN ms with
    | some l, some b, some n, some an, some ms => match unN (defIns l ++ usIns l) [] with
      | some ds => match minN ds live with
        | some k => some (.dreg b n l k an ms)
        | none => none
      | none => none
    | _, _, _, _, _ => none
  | .seq a b, live => match unN (usRC b) live with
    | some l => match optC a l, optC b live with
      | some a, some b => some (.seq a b)
      | _, _ => none
    | none => none
  | .cond c a b, live => match nA c, optC a live, optC b live with
    | some c, some a, some b => some (.cond c a b)
    | _, _, _ => none
  | .block id c, live => match optC c live with
    | some c => some (.block id c)
    | none => none
  | .loop c, live => match unN (usRC c) live with
    | some l => match optC c l with
      | some c => some (.loop c)
      | none => none
    | none => none
  | .exit id, _ => some (.exit id)
  | .ret, _ => some .ret
  | .skip, _ => some .skip
  | .bad, _ => some .bad
  | _, _ => none

theorem optC_strip : ∀ {rc : RC} {live : List Nat} {rc' : RC}, optC rc live = some rc' → strip rc' = strip rc := by
  intro rc
  induction rc with
  | skip => intro live rc' h; obtain rfl := Option.some.inj h; rfl
  | exit id => intro live rc' h; obtain rfl := Option.some.inj h; rfl
  | ret => intro live rc' h; obtain rfl := Option.some.inj h; rfl
  | bad => intro live rc' h; obtain rfl := Option.some.inj h; rfl
  | reg l k =>
    intro live rc' h
    simp only [optC] at h
    repeat' split at h
    all_goals first | (cases h; done) | skip
    cases h
    have e := nList_eq (f := nIns) (fun _ _ h => nIns_eq h) ‹nList nIns l = some _›
    rw [e]; rfl
  | dreg b n l k an ms =>
    intro live rc' h
    simp only [optC] at h
    repeat' split at h
    all_goals first | (cases h; done) | skip
    cases h
    have e1 := nList_eq (f := nIns) (fun _ _ h => nIns_eq h) ‹nList nIns l = some _›
    have e2 := natN_eq ‹natN b = some _›
    have e3 := natN_eq ‹natN n = some _›
    have e4 := nList_eq (f := nList fun v => natN v) (fun _ _ h => nList_eq (f := fun v => natN v) (fun _ _ h => natN_eq h) h) ‹nList (nList fun v => natN v) an = some _›
    have e5 := nList_eq (f := natN) (fun _ _ h => natN_eq h) ‹nList natN ms = some _›
    rw [e1, e2, e3, e4, e5]; rfl
  | seq a b iha ihb =>
    intro live rc' h
    simp only [optC] at h
    repeat' split at h
    all_goals first | (cases h; done) | skip
    cases h
    simp only [strip, iha ‹optC a _ = some _›, ihb ‹optC b _ = some _›]
  | cond c a b iha ihb =>
    intro live rc' h
    simp only [optC] at h
    repeat' split at h
    all_goals first | (cases h; done) | skip
    cases h
    simp only [strip, nA_eq ‹nA c = some _›, iha ‹optC a _ = some _›, ihb ‹optC b _ = some _›]
  | block id c ih =>
    intro live rc' h
    simp only [optC] at h
    split at h
    · cases h; simp only [strip, ih ‹optC c _ = some _›]
    · cases h
  | loop c ih =>
    intro live rc' h
    simp only [optC] at h
    repeat' split at h
    all_goals first | (cases h; done) | skip
    cases h
    simp only [strip, ih ‹optC c _ = some _›]
  | _ => intro live rc' h; cases h

theorem strip_resC {P : Program} {N : Nat} : ∀ (c : Code) {rc : RC}, resC P N c = some rc → strip rc = rc
  | .skip, rc, h => by simp only [resC] at h; cases h; rfl
  | .region id ops false, rc, h => by
    simp only [resC] at h
    repeat' split at h
    all_goals first | (cases h; rfl) | cases h
  | .region id ops true, rc, h => by
    simp only [resC] at h
    repeat' split at h
    all_goals first | (cases h; rfl) | cases h
  | .seq a b, rc, h => by
    simp only [resC] at h
    split at h
    · rename_i h1 h2; cases h; simp only [strip, strip_resC a h1, strip_resC b h2]
    · cases h
  | .cond c a b, rc, h => by
    simp only [resC] at h
    split at h
    · rename_i h0 h1 h2; cases h; simp only [strip, strip_resC a h1, strip_resC b h2]
    · cases h
  | .block id c, rc, h => by
    simp only [resC, Option.map_eq_some_iff] at h
    obtain ⟨b, h1, rfl⟩ := h
    simp only [strip, strip_resC c h1]
  | .loop c, rc, h => by
    simp only [resC, Option.map_eq_some_iff] at h
    obtain ⟨b, h1, rfl⟩ := h
    simp only [strip, strip_resC c h1]
  | .exit id, rc, h => by simp only [resC] at h; cases h; rfl
  | .ret, rc, h => by simp only [resC] at h; cases h; rfl
  | .rangeFunc .., rc, h => by simp only [resC] at h; cases h; rfl
  | .scope _, rc, h => by simp only [resC] at h; cases h; rfl
  | .label _, rc, h => by simp only [resC] at h; cases h; rfl
  | .goto _, rc, h => by simp only [resC] at h; cases h; rfl
  | .refuse _, rc, h => by simp only [resC] at h; cases h; rfl

/-! Cuts. -/
inductive Ct where
  | c (n : Nat)
  | r (n : Nat)
  | s (n : Nat)
  | v (n : Nat)
  /-- The loop whose code writes slot n is unrolled. -/
  | u (n : Nat)
  /-- As r, one sequence further out. -/
  | p (n : Nat)

def wrIns (n : Nat) : List Ins → Bool
  | [] => false
  | ⟨some d, _, _⟩ :: r => match Nat.beq d n with
    | true => true
    | false => wrIns n r
  | ⟨none, _, _⟩ :: r => wrIns n r
/-- The branch on slot n, or the region that writes it, is in this code. -/
def hasM : Ct → RC → Bool
  | .c n, .cond (.t m) a b => match Nat.beq m n with
    | true => true
    | false => hasM (.c n) a || hasM (.c n) b
  | k, .cond _ a b => hasM k a || hasM k b
  | .r n, .reg l _ => wrIns n l
  | .r n, .dreg _ _ l _ _ _ => wrIns n l
  | k, .seq a b => hasM k a || hasM k b
  | k, .cut a b => hasM k a || hasM k b
  | k, .block _ a => hasM k a
  | k, .loop a => hasM k a
  | k, .uloop a => hasM k a
  | _, _ => false
/-- A sequence within has the mark in its first part. -/
def inM (k : Ct) : RC → Bool
  | .seq a b => hasM k a || inM k b
  | .cut a b => hasM k a || inM k b
  | .cond _ a b => inM k a || inM k b
  | .block _ a => inM k a
  | .loop a => inM k a
  | .uloop a => inM k a
  | _ => false
def splitIns (n : Nat) : List Ins → Option (List Ins × List Ins)
  | [] => none
  | ⟨some d, g, i⟩ :: r => match Nat.beq d n with
    | true => some ([⟨some d, g, i⟩], r)
    | false => match splitIns n r with
      | some (a, b) => some (⟨some d, g, i⟩ :: a, b)
      | none => none
  | ⟨none, g, i⟩ :: r => match splitIns n r with
    | some (a, b) => some (⟨none, g, i⟩ :: a, b)
    | none => none
theorem splitIns_eq {n : Nat} : ∀ {l a b : List Ins}, splitIns n l = some (a, b) → a ++ b = l
  | [], a, b, h => by cases h
  | ⟨some d, g, i⟩ :: r, a, b, h => by
    simp only [splitIns] at h
    repeat' split at h
    all_goals first | (rename_i h1; cases h; simp only [List.cons_append, splitIns_eq h1]) | (cases h; rfl) | cases h
  | ⟨none, g, i⟩ :: r, a, b, h => by
    simp only [splitIns] at h
    repeat' split at h
    all_goals first | (rename_i h1; cases h; simp only [List.cons_append, splitIns_eq h1]) | cases h
/-- A sequence within has the region that writes slot n in its first part, and there too within a first part. -/
def inP (n : Nat) : RC → Bool
  | .seq a b => (hasM (.r n) a && inM (.r n) a) || (inP n a || inP n b)
  | .cut a b => (hasM (.r n) a && inM (.r n) a) || (inP n a || inP n b)
  | .cond _ a b => inP n a || inP n b
  | .block _ a => inP n a
  | .loop a => inP n a
  | .uloop a => inP n a
  | _ => false
def hereM (k : Ct) (a : RC) : Bool :=
  match k with
  | .p n => hasM (.r n) a && (inM (.r n) a && !inP n a)
  | k => hasM k a && !inM k a
/-- A loop within writes slot n. -/
def loopM (n : Nat) : RC → Bool
  | .seq a b => loopM n a || loopM n b
  | .cut a b => loopM n a || loopM n b
  | .cond _ a b => loopM n a || loopM n b
  | .block _ a => loopM n a
  | .loop a => hasM (.r n) a
  | .uloop a => hasM (.r n) a
  | _ => false
def cutC (k : Ct) : RC → Option RC
  | .reg l kill => match k with
    | .s n => match splitIns n l with
      | some (a, b) => some (.regc a b kill)
      | none => some (.reg l kill)
    | .v n => match splitIns n l with
      | some (a, b) => some (.regv a n b kill)
      | none => some (.reg l kill)
    | _ => some (.reg l kill)
  | .seq a b => match hereM k a with
    | true => some (.cut a b)
    | false => match cutC k a, cutC k b with
      | some a, some b => some (.seq a b)
      | _, _ => none
  | .cut a b => match cutC k a, cutC k b with
    | some a, some b => some (.cut a b)
    | _, _ => none
  | .cond c a b => match cutC k a, cutC k b with
    | some a, some b => some (.cond c a b)
    | _, _ => none
  | .block id a => match cutC k a with
    | some a => some (.block id a)
    | none => none
  | .loop a => match k, cutC k a with
    | .u n, some b => match hasM (.r n) a, loopM n a with
      | true, false => some (.uloop b)
      | _, _ => some (.loop b)
    | _, some a => some (.loop a)
    | _, none => none
  | .uloop a => match cutC k a with
    | some a => some (.uloop a)
    | none => none
  | rc => some rc
theorem cutC_strip {k : Ct} : ∀ {rc rc' : RC}, cutC k rc = some rc' → strip rc' = strip rc := by
  intro rc
  induction rc with
  | reg l kill =>
    intro rc' h
    simp only [cutC] at h
    repeat' split at h
    all_goals first | (rename_i h1; cases h; simp only [strip, splitIns_eq h1]; done) | (cases h; rfl) | cases h
  | seq a b iha ihb =>
    intro rc' h
    simp only [cutC] at h
    repeat' split at h
    all_goals first | (cases h; rfl; done) | (rename_i h1 h2; cases h; simp only [strip, iha h1, ihb h2]; done) | cases h
  | cut a b iha ihb =>
    intro rc' h
    simp only [cutC] at h
    repeat' split at h
    all_goals first | (rename_i h1 h2; cases h; simp only [strip, iha h1, ihb h2]; done) | cases h
  | cond c a b iha ihb =>
    intro rc' h
    simp only [cutC] at h
    repeat' split at h
    all_goals first | (rename_i h1 h2; cases h; simp only [strip, iha h1, ihb h2]; done) | cases h
  | block id c ih =>
    intro rc' h
    simp only [cutC] at h
    split at h
    · rename_i h1; cases h; simp only [strip, ih h1]
    · cases h
  | loop c ih =>
    intro rc' h
    simp only [cutC] at h
    repeat' split at h
    all_goals first | (cases h; simp only [strip, ih ‹cutC _ c = some _›]; done) | cases h
  | uloop c ih =>
    intro rc' h
    simp only [cutC] at h
    split at h
    · rename_i h1; cases h; simp only [strip, ih h1]
    · cases h
  | _ => intro rc' h; cases h; rfl
def cutsC : List Ct → RC → Option RC
  | [], rc => some rc
  | k :: r, rc => match cutC k rc with
    | some rc => cutsC r rc
    | none => none
theorem cutsC_strip : ∀ {ks : List Ct} {rc rc' : RC}, cutsC ks rc = some rc' → strip rc' = strip rc
  | [], rc, rc', h => by cases h; rfl
  | k :: r, rc, rc', h => by
    simp only [cutsC] at h
    split at h
    · rename_i h1; rw [cutsC_strip h, cutC_strip h1]
    · cases h

/-- A function's code, resolved, its dead slots noted, cut. -/
def resX (P : Program) (N : Nat) (live : List Nat) (ks : List Ct) (c : Code) : Option RC :=
  match resC P N c with
  | some rc => match optC rc live with
    | some rc => cutsC ks rc
    | none => none
  | none => none
theorem resX_strip {P : Program} {N : Nat} {live : List Nat} {ks : List Ct} {c : Code} {rc : RC} (h : resX P N live ks c = some rc) : resC P N c = some (strip rc) := by
  unfold resX at h
  split at h
  · rename_i rc0 h0
    split at h
    · rename_i rc1 h1
      rw [cutsC_strip h, optC_strip h1, strip_resC c h0, h0]
    · cases h
  · cases h
def rvSlots : List RV → List Nat
  | [] => []
  | .tmp t :: r => t :: rvSlots r
  | .cell t _ _ :: r => t :: rvSlots r

/-- The parameters' slots stay. -/
def parL : List V → Nat → List Nat → List Nat
  | [], _, l => l
  | _ :: r, k, l => k :: parL r (k + 1) l
theorem fn_okX (ks : List Ct) {P : Program} {f : FuncId} {fn : Func} {rc : RC} {rvs : List RV} {ob0 ob1 : List Obj} {args : List V} {res : V} (hf : P.funcs[f]? = some fn) (hb0 : fn.body.isSome = true)
    (hrv : fn.results.toList.mapM (resRV P) = some rvs) (hres : resX P fn.ntmps (parL args 0 (rvSlots rvs)) ks (fn.body.getD .skip) = some rc) (hn : Nat.ble args.length fn.ntmps = true)
    (hK : forceNat 16 0 ob0.length fun n0 => Cd P n0 rc ⟨initSl 0 args, mkFrom 0 ob0, n0⟩ (retOnly P n0 rvs res ob1)) : FnC P f ob0 args res ob1 :=
  fn_okC hf hb0 (resX_strip hres) hrv (Nat.le_of_ble_eq_true hn) hK
theorem fn_okXM (ks : List Ct) {P : Program} {f : FuncId} {fn : Func} {rc : RC} {rvs : List RV} {ob0 ob1 : List Obj} {args : List V} {res : V} (hf : P.funcs[f]? = some fn) (hb0 : fn.body.isSome = true)
    (hrv : fn.results.toList.mapM (resRV P) = some rvs) (hres : resX P fn.ntmps (parL args 0 (rvSlots rvs)) ks (fn.body.getD .skip) = some rc) (hn : Nat.ble args.length fn.ntmps = true)
    (hK : forceNat 16 0 ob0.length fun nx => Cd P 0 rc ⟨initSl 0 args, mkFrom 0 ob0, nx⟩ (retOnly P 0 rvs res ob1)) : FnM P f ob0 args res ob1 :=
  fn_okM hf hb0 (resX_strip hres) hrv (Nat.le_of_ble_eq_true hn) (by rw [forceNat_eq] at hK; rw [← codeF_eq]; exact hK.h)
/-- What the next part of code asks, whatever it is. -/
def CdB (P : Program) (n0 : Nat) : RC → St → (Ex → St → Prop) → Prop
  | .skip, st, K => K .normal st
  | .exit id, st, K => K (.exit id) st
  | .ret, st, K => K .ret st
  | .bad, _, _ => False
  | .reg l kill, st, K => opsF P l st fun | ⟨sl0, so0, nx0⟩ => cleanF kill sl0 fun sl => K .normal ⟨sl, so0, nx0⟩
  | .dreg b0 n l kill an ms, st, K => match Nat.ble st.nx b0 with
    | true => dopsK P l ms ⟨st.sl, st.so, n⟩ fun | recs, ⟨sl0, so0, nx0⟩ => commB recs an 0 = true ∧ cleanF kill (look sl0 (keysS sl0)) fun sl => K .normal ⟨sl, so0, nx0⟩
    | false => dopsK P l (shM st.nx ms) ⟨st.sl, st.so, n + st.nx⟩ fun | recs, ⟨sl0, so0, nx0⟩ => commB recs an 0 = true ∧ cleanF kill (look sl0 (keysS sl0)) fun sl => K .normal ⟨sl, so0, nx0⟩
  | .seq a b, st, K => Cd P n0 a st (SeqK P n0 b K)
  | .cut a b, st, K => ∃ (α : Type) (I : α → Prop) (F : α → St), Cd P n0 a st (CutK n0 I F K) ∧ ∀ x, I x → Cd P n0 b (F x) K
  | .regc a b kill, st, K => codeF P n0 (.regc a b kill) st K
  | .regv a d b kill, st, K => codeF P n0 (.regv a d b kill) st K
  | .cond c a b, st, K => match opnd st.sl [] c with
    | .bool x => cq x (Cd P n0 a st K) (Cd P n0 b st K)
    | _ => False
  | .block id c, st, K => Cd P n0 c st (BlockK id K)
  | .loop c, st, K => ∃ (α : Type) (I : α → Prop) (F : α → St) (m : α → Nat), (∃ a, I a ∧ View n0 st (F a)) ∧ ∀ a, I a → Cd P n0 c (F a) (LoopK n0 I F m a K)
  | .uloop c, st, K => ∃ n, iterK (Cd P n0 c) K n st
theorem Cd.go {P : Program} {n0 : Nat} {rc : RC} {st : St} {K : Ex → St → Prop} (h : CdB P n0 rc st K) : Cd P n0 rc st K := by
  cases rc with
  | skip => exact Cd.skip h
  | exit id => exact Cd.exit h
  | ret => exact Cd.ret h
  | bad => exact h.elim
  | reg l k => exact Cd.reg h
  | dreg b n l k an ms => exact ⟨h⟩
  | seq a b => exact Cd.seq h
  | cut a b => exact Cd.cut h
  | regc a b k => exact ⟨h⟩
  | regv a d b k => exact ⟨h⟩
  | cond c a b => exact Cd.cond h
  | block id c => exact Cd.block h
  | loop c => exact Cd.loop h
  | uloop c => exact Cd.uloop h
end Go.Sk
