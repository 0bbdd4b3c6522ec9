/- Sk, part U: the operations with their conditions as computed tests: closed ones are passed by evaluation. -/
import Derived.Test.YtmhapcbjjpadnaaGreatSkK
set_option linter.unusedSimpArgs false
set_option linter.unusedVariables false
set_option linter.unusedSectionVars false
namespace Go.Sk
open Go Go.RowKit
variable [Tab]
/-- A condition: a closed one is passed by computing. -/
def rq (b : Bool) (K : Prop) : Prop :=
  match b with
  | true => K
  | false => False
/-- What is asked where the guards hold. -/
def gq (gc b : Bool) (K : Prop) : Prop :=
  match gc with
  | true => rq b K
  | false => K
/-- The same; a closed one is passed whatever the guards. -/
def gr (gc b : Bool) (K : Prop) : Prop :=
  match b with
  | true => K
  | false => match gc with
    | true => False
    | false => K
theorem grb_eq {gc b : Bool} {K : Prop} : gr gc b K = ((gc = true → b = true) ∧ K) := by
  cases gc <;> cases b <;> simp [gr]
theorem rqb_eq {b : Bool} {K : Prop} : rq b K = (b = true ∧ K) := by
  cases b <;> simp [rq]
theorem gqb_eq {gc b : Bool} {K : Prop} : gq gc b K = ((gc = true → b = true) ∧ K) := by
  cases gc <;> simp [gq, rqb_eq]
/-- The room that an append, a make may ask. -/
def appB (n bytes : Nat) : Bool := Nat.ble n 9223372036854775807 && Nat.ble (n * bytes) 140737488355328
theorem appB_eq {n bytes : Nat} : (appB n bytes = true) = ((n : Int) ≤ 9223372036854775807 ∧ n * bytes ≤ 140737488355328) := by
  unfold appB
  rw [Bool.and_eq_true, Nat.ble_eq, Nat.ble_eq]
  exact propext ⟨fun h => ⟨by omega, h.2⟩, fun h => ⟨by omega, h.2⟩⟩
def mkB (bytes : Nat) (c : Int) : Bool := Nat.ble (bytes * c.toNat) 281474976710656 && Nat.ble c.toNat 9223372036854775807
theorem mkB_eq {bytes : Nat} {c : Int} (hc : 0 ≤ c) : (mkB bytes c = true) = ((bytes : Int) * c ≤ 281474976710656 ∧ c ≤ 9223372036854775807) := by
  unfold mkB
  rw [Bool.and_eq_true, Nat.ble_eq, Nat.ble_eq]
  obtain ⟨k, rfl⟩ := Int.eq_ofNat_of_zero_le hc
  rw [Int.toNat_natCast]
  have e : (bytes : Int) * (k : Int) = ((bytes * k : Nat) : Int) := by simp
  rw [e]
  exact propext ⟨fun h => ⟨by omega, by omega⟩, fun h => ⟨by omega, by omega⟩⟩
theorem rq_eq {C K : Prop} [Decidable C] : rq (decide C) K = (C ∧ K) := by rw [rqb_eq, decide_eq_true_iff]
theorem rqn_eq {b : Bool} {K : Prop} : rq (!b) K = (b = false ∧ K) := by rw [rqb_eq, Bool.not_eq_true']
theorem gq_eq {gc : Bool} {C K : Prop} [Decidable C] : gq gc (decide C) K = ((gc = true → C) ∧ K) := by
  cases gc <;> simp [gq, rq_eq]
/-- A condition that is to be shown. -/
theorem rq_dec {C K : Prop} [Decidable C] (h : C) (k : K) : rq (decide C) K := by rw [rq_eq]; exact ⟨h, k⟩
theorem rqb (b : Bool) {K : Prop} (h : b = true) (k : K) : rq b K := by rw [rqb_eq]; exact ⟨h, k⟩
theorem rq_app {n bytes : Nat} {K : Prop} (h1 : (n : Int) ≤ 9223372036854775807) (h2 : n * bytes ≤ 140737488355328) (k : K) : rq (appB n bytes) K := by rw [rqb_eq, appB_eq]; exact ⟨⟨h1, h2⟩, k⟩
theorem mk_eq {bytes : Nat} {l c : Int} {K : Prop} : rq (decide (0 ≤ l ∧ l ≤ c)) (rq (mkB bytes c) K) = (0 ≤ l ∧ l ≤ c ∧ (bytes : Int) * c ≤ 281474976710656 ∧ c ≤ 9223372036854775807 ∧ K) := by
  rw [rq_eq, rqb_eq]
  refine propext ⟨fun h => ?_, fun h => ?_⟩
  · have h2 := h.2.1; rw [mkB_eq (by omega)] at h2; exact ⟨h.1.1, h.1.2, h2.1, h2.2, h.2.2⟩
  · refine ⟨⟨h.1, h.2.1⟩, ?_, h.2.2.2.2⟩; rw [mkB_eq (by omega)]; exact ⟨h.2.2.1, h.2.2.2.1⟩
theorem rq_mk {bytes : Nat} {l c : Int} {K : Prop} (h1 : 0 ≤ l) (h2 : l ≤ c) (h3 : (bytes : Int) * c ≤ 281474976710656) (h4 : c ≤ 9223372036854775807) (k : K) : rq (decide (0 ≤ l ∧ l ≤ c)) (rq (mkB bytes c) K) := by rw [mk_eq]; exact ⟨h1, h2, h3, h4, k⟩
theorem gq_dec {gc : Bool} {C K : Prop} [Decidable C] (h : gc = true → C) (k : K) : gq gc (decide C) K := by rw [gq_eq]; exact ⟨h, k⟩

def binF (op : BinOp) (k : IntKind) (a b : Int) (gc : Bool) (K : V → Prop) : Prop :=
  match op with
  | .add => K (.int k (k.wrap (a + b)))
  | .sub => K (.int k (k.wrap (a - b)))
  | .mul => K (.int k (k.wrap (a * b)))
  | .quo => gq gc (decide (b ≠ 0)) (K (.int k (k.wrap (a.tdiv b))))
  | .rem => gq gc (decide (b ≠ 0)) (K (.int k (a.tmod b)))
  | .eql => K (.bool (a == b))
  | .neq => K (.bool (a != b))
  | .lss => K (.bool (decide (a < b)))
  | .leq => K (.bool (decide (a ≤ b)))
  | .gtr => K (.bool (decide (b < a)))
  | .geq => K (.bool (decide (b ≤ a)))
  | .and => K (.int k (bitsI .and k a b))
  | .or => K (.int k (bitsI .or k a b))
  | .xor => K (.int k (bitsI .xor k a b))
  | .andNot => K (.int k (bitsI .andNot k a b))
  | .shl => gq gc (decide (0 ≤ b)) (K (.int k (k.wrap (a * 2 ^ min b.toNat k.bits))))
  | .shr => gq gc (decide (0 ≤ b)) (K (.int k (a.fdiv (2 ^ min b.toNat k.bits))))

theorem binF_eq (op : BinOp) (k : IntKind) (a b : Int) (gc : Bool) (K : V → Prop) : binF op k a b gc K = binK op k a b gc K := by
  cases op <;> simp only [binF, binK, gq_eq]

def eqsF : List (Nat × Kd) → List V → List V → Bool → (Bool → Prop) → Prop
  | [], _, _, acc, K => K acc
  | (o, .i) :: r, xs, ys, acc, K => match xs[o]?, ys[o]? with
    | some (.int k a), some (.int k' b) => rq (decide (k = k')) (eqsF r xs ys (acc && (a == b)) K)
    | _, _ => False
  | (o, .b) :: r, xs, ys, acc, K => match xs[o]?, ys[o]? with
    | some (.bool a), some (.bool b) => eqsF r xs ys (acc && (a == b)) K
    | _, _ => False
  | (o, .s) :: r, xs, ys, acc, K => match xs[o]?, ys[o]? with
    | some (.str a), some (.str b) => eqsF r xs ys (acc && strEq a b) K
    | _, _ => False
theorem eqsF_eq (K : Bool → Prop) (xs ys : List V) : ∀ (offs : List (Nat × Kd)) (acc : Bool), eqsF offs xs ys acc K = eqsK offs xs ys acc K
  | [], _ => rfl
  | (o, .i) :: r, acc => by
    simp only [eqsF, eqsK, rq_eq]
    simp only [eqsF_eq K xs ys r]
    rfl
  | (o, .b) :: r, acc => by
    simp only [eqsF, eqsK, eqsF_eq K xs ys r]
    rfl
  | (o, .s) :: r, acc => by
    simp only [eqsF, eqsK, eqsF_eq K xs ys r]
    rfl

def rdF (S : Store) (i : I) (e : A → V) (gc : Bool) (K : V → Prop) : Prop :=
  match i with
  | .mv x => K (e x)
  | .un .not x => match e x with | .bool b => K (.bool (!b)) | _ => rq (!gc) (K .any)
  | .un .neg x => match e x with | .int k n => K (.int k (k.wrap (0 - n))) | _ => rq (!gc) (K .any)
  | .bin op x y => match e x, e y with
    | .int k a, .int k' b => rq (shk op k k') (binF op k a b gc K)
    | _, _ => rq (!gc) (K .any)
  | .conv k x => match e x with | .int _ n => K (.int k (k.wrap n)) | _ => rq (!gc) (K .any)
  | .nilck x => match e x with
    | .ptr k i c => K (.ptr k i c)
    | .rp es cs c => K (.rp es cs c)
    | _ => rq (!gc) (K .any)
  | .faddr off x => match e x with
    | .ptr k i c => K (.ptr k i (c + off))
    | .rp es cs c => K (.rp es cs (c + off))
    | _ => rq (!gc) (K .any)
  | .ld agg n x => match e x with
    | .ptr k i c => match S.get k with
      | some (.row es xs) => gq gc (decide (i < xs.length)) (rq (decide (c + n ≤ es)) (K (partV agg es (xs.getD i []) c n)))
      | some (.box cs) => gr gc (decide (i = 0 ∧ c + n ≤ cs.length)) (K (partV agg cs.length cs c n))
      | _ => rq (!gc) (K .any)
    | .rp es cs c => gr gc (decide (c + n ≤ es)) (K (partV agg es cs c n))
    | _ => rq (!gc) (K .any)
  | .eqb neg x y => match e x, e y with
    | .bool p, .bool q => (match neg with | true => K (.bool (!(p == q))) | false => K (.bool (p == q)))
    | _, _ => rq (!gc) (K .any)
  | .eqs neg offs x y => match e x, e y with
    | .agg xs, .agg ys => eqsF offs xs ys true fun r => (match neg with | true => K (.bool (!r)) | false => K (.bool r))
    | _, _ => rq (!gc) (K .any)
  | .extr i x => match e x with
    | .tup vs => rq (decide (i < vs.length)) (K (vs.getD i .any))
    | _ => rq (!gc) (K .any)
  | .fget agg off n x => match e x with
    | .agg cs => rq (decide (off + n ≤ cs.length)) (K (partV agg cs.length cs off n))
    | _ => rq (!gc) (K .any)
  | .mkfn f xs => K (.fn f (xs.map e))
  | .isnil neg x => match e x with
    | .lst _ _ (_ :: _) => K (.bool neg)
    | .val (.slice none _ _) => K (.bool (!neg))
    | .val (.slice (some _) _ _) => K (.bool neg)
    | _ => rq (!gc) (K .any)
  | .slc3 es x lo hi mx => match unk (e x) with
    | .sl k off len => match S.get k with
      | some (.row es' _) =>
        match (match lo with | none => V.int .i64 0 | some l => e l), e hi, e mx with
        | .int _ l, .int _ h, .int _ m => rq (decide (es' = es)) (gq gc (decide (0 ≤ l ∧ l ≤ h ∧ h = m ∧ m ≤ (len : Int))) (K (.slx k (off + l.toNat) (h.toNat - l.toNat))))
        | _, _, _ => rq (!gc) (K .any)
      | _ => rq (!gc) (K .any)
    | _ => rq (!gc) (K .any)
  | .iaddr es x i => match unk (e x), e i with
    | .sl k off len, .int _ j => match S.get k with
      | some (.row es' _) => rq (decide (es' = es)) (gq gc (decide (0 ≤ j ∧ j < (len : Int))) (K (.ptr k (off + j.toNat) 0)))
      | _ => rq (!gc) (K .any)
    | .lst es' _ xs, .int _ j => gq gc (decide (es' = es ∧ 0 ≤ j ∧ j < (xs.length : Int))) (K (.rp es (xs.getD j.toNat []) 0))
    | _, _ => rq (!gc) (K .any)
  | .iarr n es x i => match e x, e i with
    | .ptr k i0 c, .int _ j => gq gc (decide (0 ≤ j ∧ j < (n : Int))) (K (.ptr k i0 (c + j.toNat * es)))
    | .rp es' cs c, .int _ j => gq gc (decide (0 ≤ j ∧ j < (n : Int))) (K (.rp es' cs (c + j.toNat * es)))
    | _, _ => rq (!gc) (K .any)
  | .aidx n x i => match e x, e i with
    | .agg cs, .int _ j => rq (decide (cs.length = n)) (gq gc (decide (0 ≤ j ∧ j < (n : Int))) (K (cs.getD j.toNat .any)))
    | _, _ => rq (!gc) (K .any)
  | .slc es x lo hi => match unk (e x) with
    | .sl k off len => match S.get k with
      | some (.row es' _) =>
        match (match lo with | none => V.int .i64 0 | some l => e l), (match hi with | none => V.int .i64 (len : Int) | some h => e h) with
        | .int _ l, .int _ h => rq (decide (es' = es)) (gq gc (decide (0 ≤ l ∧ l ≤ h ∧ h ≤ (len : Int))) (K (.sl k (off + l.toNat) (h.toNat - l.toNat))))
        | _, _ => rq (!gc) (K .any)
      | _ => rq (!gc) (K .any)
    | .lst es' _ xs =>
        match (match lo with | none => V.int .i64 0 | some l => e l), (match hi with | none => V.int .i64 (xs.length : Int) | some h => e h) with
        | .int _ l, .int _ h => gq gc (decide ((es' = es ∨ xs.isEmpty = true) ∧ 0 ≤ l ∧ l ≤ h ∧ h ≤ (xs.length : Int))) (K (.lst es' false ((xs.take h.toNat).drop l.toNat)))
        | _, _ => rq (!gc) (K .any)
    | _ => rq (!gc) (K .any)
  | .len x => match unk (e x) with
    | .sl _ _ len => K (.int .i64 (len : Int))
    | .lst _ _ xs => K (.int .i64 (xs.length : Int))
    | _ => rq (!gc) (K .any)
  | .slen x => match e x with
    | .str s => K (.int .i64 (s.size : Int))
    | _ => rq (!gc) (K .any)
  | .sidx x i => match e x, e i with
    | .str s, .int _ j => gq gc (decide (0 ≤ j ∧ j < (s.size : Int))) (K (.int .u8 ((s.data.toList.getD j.toNat 0).toNat : Int)))
    | _, _ => rq (!gc) (K .any)
  | .ssl x lo hi => match e x with
    | .str s => match (match lo with | none => V.int .i64 0 | some l => e l), (match hi with | none => V.int .i64 (s.size : Int) | some h => e h) with
      | .int _ l, .int _ h => gq gc (decide (0 ≤ l ∧ l ≤ h ∧ h ≤ (s.size : Int))) (K (.str (s.extract l.toNat h.toNat)))
      | _, _ => rq (!gc) (K .any)
    | _ => rq (!gc) (K .any)
  | .scat x y => match e x, e y with
    | .str a, .str b => gq gc (Nat.ble (a.size + b.size) 9223372036854775807) (K (.str (a ++ b)))
    | _, _ => rq (!gc) (K .any)
  | .sqs neg x y => match e x, e y with
    | .str a, .str b => (match neg with | true => K (.bool (!strEq a b)) | false => K (.bool (strEq a b)))
    | _, _ => rq (!gc) (K .any)
  | .b2s x => match unk (e x) with
    | .sl k off len => match S.get k with
      | some (.row 1 xs) => match bytesV ((xs.drop off).take len) with
        | some l => gq gc (decide (off + len ≤ xs.length)) (K (.str ⟨l.toArray⟩))
        | none => rq (!gc) (K .any)
      | _ => rq (!gc) (K .any)
    | .lst 1 _ xs => match bytesV xs with
      | some l => K (.str ⟨l.toArray⟩)
      | none => rq (!gc) (K .any)
    | _ => rq (!gc) (K .any)
  | .mx x y => match e x, e y with
    | .int k a, .int _ b => K (.int k (max a b))
    | _, _ => rq (!gc) (K .any)
  | .mn x y => match e x, e y with
    | .int k a, .int _ b => K (.int k (min a b))
    | _, _ => rq (!gc) (K .any)
  | .mget z ok x i => match e x, e i with
    | .mp k, .int .i64 j => match S.get k with
      | some (.mp (1, xs)) => (match ok with | true => K (.tup [mgetV xs [j] z, .bool (mhasV xs [j])]) | false => K (mgetV xs [j] z))
      | _ => rq (!gc) (K .any)
    | _, _ => rq (!gc) (K .any)
  | .mgetp z ok x i => match e x, e i with
    | .mp k, .agg [.int .i64 a, .int .i64 b] => match S.get k with
      | some (.mp (2, xs)) => (match ok with | true => K (.tup [mgetV xs [a, b] z, .bool (mhasV xs [a, b])]) | false => K (mgetV xs [a, b] z))
      | _ => rq (!gc) (K .any)
    | _, _ => rq (!gc) (K .any)
  | _ => False

theorem rdF_eq (S : Store) (i : I) (e : A → V) (gc : Bool) (K : V → Prop) : rdF S i e gc K = rdK S i e gc K := by
  cases i with
  | un op x => cases op <;> simp only [rdF, rdK, rqn_eq] <;> rfl
  | _ => simp only [rdF, rdK, rqb_eq, gqb_eq, grb_eq, decide_eq_true_iff, Nat.ble_eq, Bool.not_eq_true', binF_eq, eqsF_eq, List.isEmpty_iff] <;> rfl

def wrF (S : Store) (n : Nat) (i : I) (e : A → V) (K : V → Store → Nat → Prop) : Prop :=
  match i with
  | .alloc z => K (.ptr n 0 0) (S.set n (.box z)) (n + 1)
  | .box x => match (e x).cells? with
    | some cs => rq (cs.all oneV) (K (.ptr n 0 0) (S.set n (.box cs)) (n + 1))
    | none => False
  | .st m x y => match e x, (e y).cells? with
    | .ptr k i c, some cs => match S.get k with
      | some (.row es xs) => rq (decide (i < xs.length)) (rq (decide (c + m ≤ es)) (rq (decide (cs.length = m)) (rq (cs.all flatV) (K .any (S.set k (.row es (xs.set i (putCells es (xs.getD i []) c cs)))) n))))
      | some (.box bs) => rq (decide (i = 0)) (rq (decide (c + m ≤ bs.length)) (rq (decide (cs.length = m)) (rq (cs.all oneV) (K .any (S.set k (.box (putCells bs.length bs c cs))) n))))
      | _ => False
    | _, _ => False
  | .s2b x => match e x with
    | .str s => rq (Nat.ble s.size 9223372036854775807) (K (.lst 1 false (rowsB s.data.toList)) S n)
    | _ => False
  | .aslc len x hi => match e x with
    | .ptr k 0 0 => match S.get k with
      | some (.box cs) => match (match hi with | none => V.int .i64 (len : Int) | some h => e h) with
        | .int _ h => rq (decide (cs.length = len ∧ cs.all flatV = true ∧ 0 ≤ h ∧ h ≤ (len : Int))) <| K (.lst 1 false ((cs.take h.toNat).map fun c => [c])) (S.del k) n
        | _ => False
      | _ => False
    | _ => False
  | .cpys x y => match e y, unk (e x) with
    | .str s, .sl k off len => match S.get k with
      | some (.row 1 xs) => rq (decide (off + len ≤ xs.length)) <|
          K (.int .i64 (min s.size len : Nat)) (S.set k (.row 1 (xs.take off ++ (rowsB s.data.toList).take (min s.size len) ++ xs.drop (off + min s.size len)))) n
      | _ => False
    | _, _ => False
  | .mkmap ks => K (.mp n) (S.set n (.mp (ks, []))) (n + 1)
  | .mput x i y => match e x, e i with
    | .mp k, .int .i64 j => match S.get k with
      | some (.mp (1, xs)) => rq (flatV (e y)) (K .any (S.set k (.mp (1, msetV xs [j] (e y)))) n)
      | _ => False
    | _, _ => False
  | .mputp x i y => match e x, e i with
    | .mp k, .agg [.int .i64 a, .int .i64 b] => match S.get k with
      | some (.mp (2, xs)) => rq (flatV (e y)) (K .any (S.set k (.mp (2, msetV xs [a, b] (e y)))) n)
      | _ => False
    | _, _ => False
  | .bslice es z m ps => match rowsSet es (List.replicate m z) (ps.map fun p => (p.1, e p.2)) with
    | some rows => K (.sl n 0 m) (S.set n (.row es rows)) (n + 1)
    | none => False
  | .mk es bytes z l c => match e l, e c with
    | .int _ l, .int _ c => rq (decide (0 ≤ l ∧ l ≤ c)) (rq (mkB bytes c) (K (.slk n 0 l.toNat c.toNat) (S.set n (.row es (List.replicate l.toNat z))) (n + 1)))
    | _, _ => False
  | .app es bytes x y => match srcV S (e y) with
    | some (es', len', ys) => rq (decide ((es' = es ∨ ys.isEmpty = true) ∧ ys.length = len')) <| match unk (e x) with
      | .lst _ true [] => rq (appB ys.length bytes) (K (.sl n 0 ys.length) (S.set n (.row es ys)) (n + 1))
      | .sl k off len => match S.get k with
        | some (.row es2 xs) => rq (decide (es2 = es ∧ off = 0)) (rq (decide (len = xs.length)) (rq (appB (xs.length + ys.length) bytes)
            (K (.sl n 0 (xs.length + ys.length)) ((S.del k).set n (.row es (xs ++ ys))) (n + 1))))
        | _ => False
      | .slx k off len => match S.get k with
        | some (.row es2 xs) => rq (decide (es2 = es ∧ off = 0)) (rq (decide (len ≤ xs.length)) (rq (appB (len + ys.length) bytes)
            (K (.sl n 0 (len + ys.length)) ((S.del k).set n (.row es (xs.take len ++ ys))) (n + 1))))
        | _ => False
      | _ => False
    | none => False
  | .clr es z x => match unk (e x) with
    | .sl k off len => match S.get k with
      | some (.row es2 xs) => rq (decide (es2 = es)) <| rq (decide (off + len ≤ xs.length)) <| K (.tup []) (S.set k (.row es (xs.take off ++ List.replicate len z ++ xs.drop (off + len)))) n
      | _ => False
    | _ => False
  | .cpy es x y => match srcV S (e y), unk (e x) with
    | some (es', len', ys), .sl k off len => match S.get k with
      | some (.row es2 xs) => rq (decide ((es' = es ∨ ys.isEmpty = true) ∧ ys.length = len')) <| rq (decide (es2 = es)) <| rq (decide (off + len ≤ xs.length)) <|
          K (.int .i64 (min ys.length len : Nat)) (S.set k (.row es (xs.take off ++ ys.take (min ys.length len) ++ xs.drop (off + min ys.length len)))) n
      | _ => False
    | _, _ => False
  | _ => False

theorem wrF_eq (S : Store) (n : Nat) (i : I) (e : A → V) (K : V → Store → Nat → Prop) : wrF S n i e K = wrK S n i e K := by
  cases i with
  | mk es bytes z l c => simp only [wrF, wrK, mk_eq] <;> rfl
  | _ => simp only [wrF, wrK, rqb_eq, decide_eq_true_iff, Nat.ble_eq, appB_eq, List.isEmpty_iff, and_assoc] <;> rfl

def wrGF (ssl : Slots) (sso : Store) (snx : Nat) (ch : List (Nat × Bool)) (gc : Bool) (i : I) (K : V → Store → Nat → Prop) : Prop :=
  match ch with
  | [] => wrF sso snx i (opnd ssl []) K
  | g :: r => match gc with
    | true => wrF sso snx i (opnd ssl (g :: r)) K
    | false => K .any sso snx
theorem wrGF_eq (ssl : Slots) (sso : Store) (snx : Nat) (ch : List (Nat × Bool)) (gc : Bool) (i : I) (K : V → Store → Nat → Prop) : wrGF ssl sso snx ch gc i K = wrGK ssl sso snx ch gc i K := by
  cases ch with
  | nil => exact wrF_eq _ _ _ _ _
  | cons g r => cases gc <;> simp [wrGF, wrGK, wrF_eq]

def insF (P : Program) (ssl : Slots) (sso : Store) (snx : Nat) (ch : List (Nat × Bool)) (gc : Bool) (i : I) (K : V → Store → Nat → Prop) : Prop :=
  match i with
  | .pick (.t tc) a b => match opnd ssl ch (.t tc) with
    | .bool x => match opnd ssl ((tc, true) :: ch) a, opnd ssl ((tc, false) :: ch) b with
      | .bool p, .bool q => K (.bool (bif x then p else q)) sso snx
      | u, v => match x with
        | true => K u sso snx
        | false => K v sso snx
    | _ => rq (!gc) (K .any sso snx)
  | .build z ps => match fillV z (ps.map fun p => (p.1, p.2.1, opnd ssl ch p.2.2)) with
    | some cs => rq (z.all oneV) (K (.agg cs) sso snx)
    | none => False
  | .call f xs => CallAlt (pcallK P f (xs.map (opnd ssl ch)) sso gc fun v => K v sso snx) ((gc = true → ucallK P f (xs.map (opnd ssl ch)) sso snx K) ∧ (gc = false → K .any sso snx)) ((gc = true → fcallK P f (xs.map (opnd ssl ch)) sso snx K) ∧ (gc = false → K .any sso snx)) ((gc = true → mcallK P f (xs.map (opnd ssl ch)) sso snx K) ∧ (gc = false → K .any sso snx))
  | .vcall x xs => match opnd ssl ch x with
    | .fn f caps => Callable P f ∧ CallAlt (pcallK P f (xs.map (opnd ssl ch) ++ caps) sso gc fun v => K v sso snx) ((gc = true → ucallK P f (xs.map (opnd ssl ch) ++ caps) sso snx K) ∧ (gc = false → K .any sso snx)) ((gc = true → fcallK P f (xs.map (opnd ssl ch) ++ caps) sso snx K) ∧ (gc = false → K .any sso snx)) ((gc = true → mcallK P f (xs.map (opnd ssl ch) ++ caps) sso snx K) ∧ (gc = false → K .any sso snx))
    | _ => rq (!gc) (K .any sso snx)
  | .clr es z x => wrGF ssl sso snx ch gc (.clr es z x) K
  | .alloc z => wrGF ssl sso snx ch gc (.alloc z) K
  | .box x => wrGF ssl sso snx ch gc (.box x) K
  | .st m x y => wrGF ssl sso snx ch gc (.st m x y) K
  | .mkmap ks => wrGF ssl sso snx ch gc (.mkmap ks) K
  | .s2b x => wrGF ssl sso snx ch gc (.s2b x) K
  | .aslc n x h => wrGF ssl sso snx ch gc (.aslc n x h) K
  | .cpys x y => wrGF ssl sso snx ch gc (.cpys x y) K
  | .mput x i y => wrGF ssl sso snx ch gc (.mput x i y) K
  | .mputp x i y => wrGF ssl sso snx ch gc (.mputp x i y) K
  | .bslice es z m ps => wrGF ssl sso snx ch gc (.bslice es z m ps) K
  | .mk es by_ z l c => wrGF ssl sso snx ch gc (.mk es by_ z l c) K
  | .app es by_ x y => wrGF ssl sso snx ch gc (.app es by_ x y) K
  | .cpy es x y => wrGF ssl sso snx ch gc (.cpy es x y) K
  | i => rdF sso i (opnd ssl ch) gc fun v => K v sso snx

theorem insF_eq (P : Program) (ssl : Slots) (sso : Store) (snx : Nat) (ch : List (Nat × Bool)) (gc : Bool) (i : I) (K : V → Store → Nat → Prop) : insF P ssl sso snx ch gc i K = insK' P ssl sso snx ch gc i K := by
  cases i with
  | pick c a b => cases c <;> simp only [insF, insK', rqn_eq, rdF_eq] <;> rfl
  | _ => simp only [insF, insK', rqb_eq, Bool.not_eq_true', rdF_eq, wrGF_eq] <;> rfl

end Go.Sk
