/- Part 1 of a proof by parts: contracts of functions that the statement reaches, by the text that each is of. Conditions: as each states them. -/
import Derived.WalkKit
import Derived.Laws.Cover3
import Derived.Deep.LoopGhost
import Derived.Deep.Quiet
import Derived.OrdersHeld
import Derived.Deep.RegionHeld3
import Derived.Below
import Derived.Maps.AppendAt
import Derived.KernelRfl
import Init
import Derived.Test.YtcofknlcdgidpaaGreatDoorProg
import Derived.Ground.NamesProg
import Derived.Shelf.Strings.SlTrimAscii
import Derived.Shelf.Small.Strs
/-! ## V -/
namespace Go.Proofs.YtcofknlcdgidpaaGreatDoor.VC
open Go

/-! ### Small words -/
def someV (q : Option Addr) (K : Addr → Prop) : Prop := match q with | some p => K p | none => False
def boolV (b : Bool) (A B : Prop) : Prop := match b with | true => A | false => B
def nonnegV (i : Int) (A : Prop) : Prop := match i with | .ofNat _ => A | .negSucc _ => False
def nzV (i : Int) (A : Prop) : Prop := match i with | .ofNat 0 => False | _ => A

theorem someV_iff {q : Option Addr} {K : Addr → Prop} : someV q K ↔ ∃ p, q = some p ∧ K p := by
  cases q <;> simp [someV]
theorem boolV_iff {b : Bool} {A B : Prop} : boolV b A B ↔ (b = true → A) ∧ (b = false → B) := by
  cases b <;> simp [boolV]
theorem nonnegV_iff {i : Int} {A : Prop} : nonnegV i A ↔ 0 ≤ i ∧ A := by
  cases i with
  | ofNat n => simp [nonnegV]
  | negSucc n => simp only [nonnegV, false_iff]; intro h; have := h.1; omega
theorem nzV_iff {i : Int} {A : Prop} : nzV i A ↔ i ≠ 0 ∧ A := by
  cases i with
  | ofNat n =>
    cases n with
    | zero => exact ⟨fun h => h.elim, fun h => absurd rfl h.1⟩
    | succ n => simp only [nzV]; exact ⟨fun h => ⟨by simp; omega, h⟩, fun h => h.2⟩
  | negSucc n => simp [nzV]

/-- A value of one cell, of the kind of z. -/
def exCell (z : Value) (K : Value → Prop) : Prop :=
  match z with
  | .bool _ => ∃ b, K (.bool b)
  | .int k _ => ∃ n, K (.int k n)
  | .string _ => ∃ s, K (.string s)
  | .pointer _ => ∃ a, K (.pointer a)
  | .slice _ _ _ => ∃ a n c, K (.slice a n c)
  | .map _ => ∃ r, K (.map r)
  | _ => ∃ v, K v
def exCells : List Value → (List Value → Prop) → Prop
  | [], K => K []
  | z :: zs, K => exCell z (fun v => exCells zs (fun vs => K (v :: vs)))
def exVal (z : Value) (K : Value → Prop) : Prop :=
  match z with
  | .agg cs => exCells cs.toList (fun l => K (.agg l.toArray))
  | z => exCell z K
def exVals : List Value → (List Value → Prop) → Prop
  | [], K => K []
  | z :: zs, K => exVal z (fun v => exVals zs (fun vs => K (v :: vs)))
def exRes (z : Value) (K : Value → Prop) : Prop :=
  match z with
  | .tuple vs => exVals vs.toList (fun l => K (.tuple l.toArray))
  | z => exVal z K

theorem exCell_get {z : Value} {K : Value → Prop} (h : exCell z K) : ∃ v, K v := by
  cases z <;> first
    | (obtain ⟨_, h⟩ := h; exact ⟨_, h⟩)
    | (obtain ⟨_, _, _, h⟩ := h; exact ⟨_, h⟩)
theorem exCells_get : ∀ {zs : List Value} {K : List Value → Prop}, exCells zs K → ∃ l, l.length = zs.length ∧ K l
  | [], _, h => ⟨[], rfl, h⟩
  | z :: zs, K, h => by
    obtain ⟨v, h⟩ := exCell_get h
    obtain ⟨l, hl, h⟩ := exCells_get h
    exact ⟨v :: l, by simp [hl], h⟩
theorem exVal_get {z : Value} {K : Value → Prop} (h : exVal z K) : ∃ v, K v := by
  unfold exVal at h
  split at h
  · obtain ⟨l, _, h⟩ := exCells_get h; exact ⟨_, h⟩
  · exact exCell_get h
theorem exVals_get : ∀ {zs : List Value} {K : List Value → Prop}, exVals zs K → ∃ l, K l
  | [], _, h => ⟨[], h⟩
  | z :: zs, K, h => by
    obtain ⟨v, h⟩ := exVal_get h
    obtain ⟨l, h⟩ := exVals_get h
    exact ⟨v :: l, h⟩
theorem exRes_get {z : Value} {K : Value → Prop} (h : exRes z K) : ∃ v, K v := by
  unfold exRes at h
  split at h
  · obtain ⟨l, h⟩ := exVals_get h; exact ⟨_, h⟩
  · exact exVal_get h

/-! ### The slots -/
def nth : List Value → Nat → Value
  | [], _ => undef
  | v :: _, 0 => v
  | _ :: l, n + 1 => nth l n
def put : List Value → Nat → Value → List Value
  | [], _, _ => []
  | _ :: l, 0, v => v :: l
  | u :: l, n + 1, v => u :: put l n v
theorem nth_eq : ∀ (l : List Value) (n : Nat), nth l n = l.getD n undef
  | [], _ => by simp [nth]
  | _ :: _, 0 => by simp [nth]
  | _ :: l, n + 1 => by simp [nth, nth_eq l n]
theorem put_eq : ∀ (l : List Value) (n : Nat) (v : Value), put l n v = l.set n v
  | [], _, _ => by simp [put]
  | _ :: _, 0, _ => by simp [put]
  | _ :: l, n + 1, v => by simp [put, put_eq l n v]
def act (s : List Value) : Act := { tmps := s.toArray, defers := [] }
def ev (s : List Value) : Operand → Value
  | .tmp t => nth s t
  | .const v => v
  | .global g => .pointer (some ⟨g, 0, none⟩)
  | .func f => .func (.func f) #[] #[]
theorem act_eval (s : List Value) (x : Operand) : (act s).eval x = ev s x := by
  cases x <;> simp [act, Act.eval, ev, nth_eq]
def evs (s : List Value) : List Operand → List Value
  | [] => []
  | x :: l => ev s x :: evs s l
theorem evs_eq (s : List Value) : ∀ l : List Operand, evs s l = l.map (ev s)
  | [] => rfl
  | x :: l => by simp [evs, evs_eq s l]
def putO (s : List Value) (d : Option Nat) (v : Value) : List Value := match d with | some d => put s d v | none => s
theorem act_put (s : List Value) (d : Option Nat) (v : Value) : (act s).put d v = act (putO s d v) := by
  cases d <;> simp [act, Act.put, putO, put_eq]

/-! ### Memory -/
def zeroOf (P : Program) (t : TypeId) : Option Value := match P.info? t with | some i => i.zero | none => none
def aggT (P : Program) (t : TypeId) : Option Bool := match P.underlying t with | some (.struct _) => some true | some (.array _ _) => some true | some _ => some false | none => none
def sizeT (P : Program) (t : TypeId) : Nat := match P.info? t with | some i => i.size | none => 0
def ReadsL (w : World) (p : Addr) : Nat → List Value → Prop
  | _, [] => True
  | i, [v] => w.cell? (p.add i) = some v
  | i, v :: vs => w.cell? (p.add i) = some v ∧ ReadsL w p (i + 1) vs
theorem ReadsL_cons {w : World} {p : Addr} {i : Nat} {v : Value} {vs : List Value} (h : ReadsL w p i (v :: vs)) : w.cell? (p.add i) = some v ∧ ReadsL w p (i + 1) vs := by
  cases vs with
  | nil => exact ⟨h, trivial⟩
  | cons u us => exact h
/-- A load of type t at p. -/
def loadV (P : Program) (t : TypeId) (w : World) (p : Addr) (K : Value → Prop) : Prop :=
  match zeroOf P t with
  | some (.agg cs) => (match aggT P t, Nat.beq cs.size (sizeT P t) with | some true, true => exCells cs.toList (fun l => ReadsL w p 0 l ∧ K (.agg l.toArray)) | _, _ => False)
  | some z => (match aggT P t with | some false => exCell z (fun v => w.cell? p = some v ∧ K v) | _ => False)
  | none => False
def Writable (w : World) (p : Addr) (n : Nat) : Prop := ∀ i, i < n → (∃ v, w.cell? (p.add i) = some v) ∧ w.frozen? (p.add i) = false
def putCells (w : World) (p : Addr) : Nat → List Value → World
  | _, [] => w
  | i, v :: vs => putCells (w.setCell (p.add i) v) p (i + 1) vs
def oneCells : List Value → Bool
  | [] => true
  | v :: vs => match v with | .agg _ => false | .tuple _ => false | _ => oneCells vs
/-- The value is one cell. -/
def monoV (v : Value) (K : Prop) : Prop := match v with | .agg _ => False | .tuple _ => False | _ => K
def monosV : List Value → Prop → Prop
  | [], K => K
  | v :: vs, K => monoV v (monosV vs K)
/-- A store of v at p. -/
def storeV (P : Program) (t : TypeId) (w : World) (p : Addr) (v : Value) (K : World → Prop) : Prop :=
  match P.info? t, aggT P t with
  | some i, some true => (match Nat.beq v.cells.toList.length i.size with
    | true => monosV v.cells.toList (Writable w p v.cells.toList.length ∧ ∀ w', w' = putCells w p 0 v.cells.toList → K w')
    | false => False)
  | some i, some false => (match Nat.beq 1 i.size with
    | true => monoV v (Writable w p 1 ∧ ∀ w', w' = putCells w p 0 [v] → K w')
    | false => False)
  | _, _ => False
def newV (w : World) (t : TypeId) (cs : Array Value) (K : Value → World → Prop) : Prop :=
  ∀ b w', b = w.heap.size → w' = w.alloc (.cells cs t) → K (.pointer (some ⟨b, 0, none⟩)) w'
def runV (P : Program) (s : Sem Value) (w : World) (K : Value → World → Prop) : Prop :=
  match s.run P w with
  | .ok v w' => K v w'
  | .halt _ _ => False
def typedV (P : Program) (t : TypeId) (v : Value) (K : Value → Prop) : Prop :=
  match zeroOf P t with
  | some z => exRes z (fun v' => v = v' ∧ K v')
  | none => False
theorem typedV_get {P : Program} {t : TypeId} {v : Value} {K : Value → Prop} (h : typedV P t v K) : K v := by
  unfold typedV at h
  split at h
  · obtain ⟨v', rfl, hk⟩ := exRes_get h; exact hk
  · exact h.elim
theorem oneCells_mem : ∀ {l : List Value}, oneCells l = true → ∀ v ∈ l, v.oneCell' = true
  | [], _, v, hv => by cases hv
  | u :: us, h, v, hv => by
    cases hv with
    | head => cases u <;> first | rfl | simp [oneCells] at h
    | tail _ hv => exact oneCells_mem (l := us) (by cases u <;> first | exact h | simp [oneCells] at h) v hv

section
variable {P : Program}
theorem zeroOf_info {t : TypeId} {z : Value} (h : zeroOf P t = some z) : ∃ i, P.info? t = some i ∧ i.zero = some z := by
  unfold zeroOf at h
  cases hi : P.info? t with
  | none => simp [hi] at h
  | some i => exact ⟨i, rfl, by simpa [hi] using h⟩
theorem run_isAgg_of {t : TypeId} {b : Bool} (h : aggT P t = some b) (w : World) : (isAgg t).run P w = .ok b w := by
  unfold aggT at h
  cases hd : P.underlying t with
  | none => simp [hd] at h
  | some d =>
    simp only [hd] at h
    simp only [isAgg, Sem.run_bind, run_underlying hd, Result.andThen_ok]
    cases d <;> simp_all
theorem run_sizeOf_of {t : TypeId} {i : TypeInfo} (h : P.info? t = some i) (w : World) : (sizeOf t).run P w = .ok i.size w := by
  simp [sizeOf, typeInfo, h]
theorem run_loadCells_of (w : World) (p : Addr) : ∀ (l : List Value) (i : Nat) (acc : Array Value), ReadsL w p i l → (loadCellsFrom p i l.length acc).run P w = .ok (acc ++ l.toArray) w
  | [], i, acc, _ => by simp [loadCellsFrom]
  | v :: vs, i, acc, h => by
    obtain ⟨h1, h2⟩ := ReadsL_cons h
    simp only [List.length_cons, loadCellsFrom, Sem.run_bind, run_load, h1, Result.andThen_ok]
    rw [run_loadCells_of w p vs (i + 1) _ h2]
    simp
theorem loadV_run {t : TypeId} {w : World} {p : Addr} {K : Value → Prop} (h : loadV P t w p K) : ∃ v, (loadVar t p).run P w = .ok v w ∧ K v := by
  unfold loadV at h
  split at h
  · rename_i cs hz
    obtain ⟨i, hi, hiz⟩ := zeroOf_info hz
    split at h
    · rename_i ha hn
      obtain ⟨l, hl, hr, hk⟩ := exCells_get h
      have hs : cs.size = i.size := by simpa [sizeT, hi] using hn
      have hl' : l.length = i.size := by simp [hl, hs]
      refine ⟨_, ?_, hk⟩
      simp [loadVar, run_isAgg_of ha, run_sizeOf_of hi, loadCells, ← hl', run_loadCells_of w p l 0 #[] hr]
    · exact h.elim
  · rename_i z hz _
    split at h
    · rename_i ha
      obtain ⟨v, hv, hk⟩ := exCell_get h
      exact ⟨v, by simp [loadVar, run_isAgg_of ha, hv], hk⟩
    · exact h.elim
  · exact h.elim
theorem frozen_setCell (w : World) (p q : Addr) (v : Value) : (w.setCell p v).frozen? q = w.frozen? q := by
  simp only [World.frozen?, World.setCell, Array.getElem?_modify]
  by_cases h : p.block = q.block
  · simp only [h, if_true]
    cases hq : w.heap[q.block]? with
    | none => simp
    | some o => cases o <;> simp
  · simp [h]
theorem run_storeCells_of (p : Addr) : ∀ (l : List Value) (i : Nat) (w : World), (∀ j, j < l.length → (∃ v, w.cell? (p.add (i + j)) = some v) ∧ w.frozen? (p.add (i + j)) = false) → (∀ v ∈ l, v.oneCell' = true) →
    (storeCells p l i).run P w = .ok () (putCells w p i l)
  | [], i, w, _, _ => by simp [storeCells, putCells]
  | v :: vs, i, w, h, h1 => by
    obtain ⟨⟨u, hu⟩, hf⟩ := h 0 (by simp)
    simp only [Nat.add_zero] at hu hf
    simp only [storeCells, putCells, Sem.run_bind, run_store P w _ v .plain (h1 v (by simp)), hu, hf, Bool.false_eq_true, if_false, Result.andThen_ok]
    refine run_storeCells_of p vs (i + 1) (w.setCell (p.add i) v) (fun j hj => ?_) (fun v hv => h1 v (by simp [hv]))
    obtain ⟨⟨u', hu'⟩, hf'⟩ := h (j + 1) (by simp; omega)
    have e : i + 1 + j = i + (j + 1) := by omega
    rw [e]
    refine ⟨?_, ?_⟩
    · by_cases e : p.add i = p.add (i + (j + 1))
      · rw [← e] at hu' ⊢; exact ⟨v, World.cell?_setCell_same w _ v hu'⟩
      · exact ⟨u', (World.cell?_setCell_other w _ _ v e).trans hu'⟩
    · exact (frozen_setCell w _ _ _).trans hf'
theorem monoV_get {v : Value} {K : Prop} (h : monoV v K) : K ∧ v.cells = #[v] ∧ v.oneCell' = true := by
  cases v <;> first | exact h.elim | exact ⟨h, rfl, rfl⟩
theorem monosV_get : ∀ {l : List Value} {K : Prop}, monosV l K → K ∧ ∀ v ∈ l, v.oneCell' = true
  | [], _, h => ⟨h, fun _ hv => by cases hv⟩
  | u :: us, K, h => by
    obtain ⟨h1, _, h2⟩ := monoV_get h
    obtain ⟨h3, h4⟩ := monosV_get h1
    refine ⟨h3, fun v hv => ?_⟩
    cases hv with
    | head => exact h2
    | tail _ hv => exact h4 v hv
theorem storeV_run {t : TypeId} {w : World} {p : Addr} {v : Value} {K : World → Prop} (h : storeV P t w p v K) : ∃ w', (storeVar t p v).run P w = .ok () w' ∧ K w' := by
  have main : ∀ i : TypeInfo, P.info? t = some i → v.cells.toList.length = i.size → (∀ u ∈ v.cells.toList, u.oneCell' = true) → Writable w p v.cells.toList.length →
      (∀ w', w' = putCells w p 0 v.cells.toList → K w') → ∃ w', (storeVar t p v).run P w = .ok () w' ∧ K w' := by
    intro i hi hn h1 hw hk
    refine ⟨_, ?_, hk _ rfl⟩
    have hs' : v.cells.size = i.size := by simpa using hn
    have := run_storeCells_of (P := P) p v.cells.toList 0 w (fun j hj => by simpa using hw j hj) h1
    simp [storeVar, run_sizeOf_of hi, hs', this]
  unfold storeV at h
  split at h
  · rename_i i hi _
    split at h
    · rename_i hn
      obtain ⟨⟨hw, hk⟩, h1⟩ := monosV_get h
      exact main i hi (Nat.eq_of_beq_eq_true hn) h1 hw hk
    · exact h.elim
  · rename_i i hi _
    split at h
    · rename_i hn
      obtain ⟨⟨hw, hk⟩, hc, h1⟩ := monoV_get h
      refine main i hi (by rw [hc]; exact Nat.eq_of_beq_eq_true hn) (by rw [hc]; intro u hu; simp at hu; rw [hu]; exact h1) (by rw [hc]; exact hw) (by rw [hc]; exact hk)
    · exact h.elim
  · exact h.elim
end

/-! ### One operation -/
def byteAt (s : ByteArray) (n : Nat) : UInt8 := s.data.getD n 0
/-- The bytes that a row of n cells from a on holds. -/
def BytesAt (w : World) (a : Option Addr) (n : Nat) (bs : ByteArray) : Prop :=
  match a with
  | none => bs.size = 0
  | some p => bs.size = n ∧ ∀ i, i < n → w.cell? (p.add i) = some (.int .u8 (byteAt bs i).toNat)
def intOpV (op : BinOp) (k : IntKind) (a b : Int) (K : Value → Prop) : Prop :=
  match op with
  | .add => K (.int k (k.wrap (a + b)))
  | .sub => K (.int k (k.wrap (a - b)))
  | .mul => K (.int k (k.wrap (a * b)))
  | .quo => nzV b (K (.int k (k.wrap (a.tdiv b))))
  | .rem => nzV b (K (.int k (a.tmod b)))
  | .and => K (.int k (Go.bits .and k a b))
  | .or => K (.int k (Go.bits .or k a b))
  | .xor => K (.int k (Go.bits .xor k a b))
  | .andNot => K (.int k (Go.bits .andNot k a b))
  | .eql => K (.bool (a == b))
  | .neq => K (.bool (a != b))
  | .lss => K (.bool (decide (a < b)))
  | .leq => K (.bool (decide (a ≤ b)))
  | .gtr => K (.bool (decide (a > b)))
  | .geq => K (.bool (decide (a ≥ b)))
  | _ => False
def strOpV (op : BinOp) (x y : ByteArray) (K : Value → Prop) : Prop :=
  match op with
  | .add => x.size + y.size ≤ 9223372036854775807 ∧ K (.string (x ++ y))
  | .eql => K (.bool (x.toList == y.toList))
  | .neq => K (.bool (!(x.toList == y.toList)))
  | .lss => K (.bool (Op.bytesLess x.toList y.toList))
  | .leq => K (.bool (Op.bytesLess x.toList y.toList || x.toList == y.toList))
  | .gtr => K (.bool (!(Op.bytesLess x.toList y.toList || x.toList == y.toList)))
  | .geq => K (.bool (!(Op.bytesLess x.toList y.toList)))
  | _ => False
theorem intOpV_run {P : Program} {op : BinOp} {t : TypeId} {k : IntKind} {a b : Int} {K : Value → Prop} (h : intOpV op k a b K) (hs : op ≠ .shl) (hr : op ≠ .shr) :
    ∃ v, (∀ w, (binOp op t (.int k a) (.int k b)).run P w = .ok v w) ∧ K v := by
  cases op <;> first
    | exact h.elim
    | exact (hs rfl).elim
    | exact (hr rfl).elim
    | (obtain ⟨hb, h⟩ := nzV_iff.1 h; refine ⟨_, fun w => ?_, h⟩; simp [binOp, Op.intDiv, hb]; done)
    | (refine ⟨_, fun w => ?_, h⟩; simp [binOp, Op.intArith, Op.intCmp]; done)
    | (refine ⟨_, fun w => ?_, h⟩; simp [binOp, Op.intBits, Go.bits]; done)
    | (refine ⟨_, fun w => ?_, h⟩; simp [binOp, Op.intBits, Go.bits]; rfl)
theorem strOpV_run {P : Program} {op : BinOp} {t : TypeId} {x y : ByteArray} {K : Value → Prop} (h : strOpV op x y K) :
    ∃ v, (∀ w, (binOp op t (.string x) (.string y)).run P w = .ok v w) ∧ K v := by
  cases op <;> first
    | exact h.elim
    | (obtain ⟨hb, h⟩ := h; refine ⟨_, fun w => ?_, h⟩; have : ¬ (9223372036854775807 : Int) < ((x.size + y.size : Nat) : Int) := by omega
       simp [binOp, Op.stringOp]; omega)
    | exact ⟨_, fun w => by simp [binOp, Op.stringOp], h⟩

def shlI (k : IntKind) (x y : Int) : Int := k.wrap (x * 2 ^ (min y.toNat k.bits))
def shrI (k : IntKind) (x y : Int) : Int := x.fdiv (2 ^ (min y.toNat k.bits))
def sameK : IntKind → IntKind → Bool
  | .i8, .i8 | .i16, .i16 | .i32, .i32 | .i64, .i64 | .u8, .u8 | .u16, .u16 | .u32, .u32 | .u64, .u64 => true
  | _, _ => false
theorem sameK_eq {a b : IntKind} (h : sameK a b = true) : a = b := by cases a <;> cases b <;> first | rfl | cases h
def runK (P : Program) (t : TypeId) (s : Sem Value) (w : World) (K : Value → World → Prop) : Prop :=
  runV P s w (fun v w' => typedV P t v (fun v' => K v' w'))
def binV (P : Program) (op : BinOp) (t : TypeId) (x y : Operand) (ty : TypeId) (a b : Value) (w : World) (K : Value → World → Prop) : Prop :=
  match a, b with
  | .int k m, .int k' n => (match op with
    | .shl => nonnegV n (K (.int k (shlI k m n)) w)
    | .shr => nonnegV n (K (.int k (shrI k m n)) w)
    | op => (match sameK k k' with | true => intOpV op k m n (fun v => K v w) | false => False))
  | .string m, .string n => strOpV op m n (fun v => K v w)
  | a, b => runK P ty (do eqGuard op t x y a b; binOp op t a b) w K
theorem binV_run {P : Program} {op : BinOp} {t : TypeId} {x y : Operand} {ty : TypeId} {a b : Value} {w : World} {K : Value → World → Prop} (h : binV P op t x y ty a b w K) :
    ∃ v w', (do eqGuard op t x y a b; binOp op t a b : Sem Value).run P w = .ok v w' ∧ K v w' := by
  unfold binV at h
  split at h
  · rename_i k m k' n
    rw [eqGuard_at_int]
    split at h
    · obtain ⟨hn, h⟩ := nonnegV_iff.1 h
      refine ⟨_, _, ?_, h⟩
      have : ¬ n < 0 := by omega
      simp [binOp, Op.shift, this, shlI]
    · obtain ⟨hn, h⟩ := nonnegV_iff.1 h
      refine ⟨_, _, ?_, h⟩
      have : ¬ n < 0 := by omega
      simp [binOp, Op.shift, this, shrI]
    · rename_i hl hr
      split at h
      · rename_i hk
        obtain rfl := sameK_eq hk
        obtain ⟨v, hv, hk⟩ := intOpV_run (P := P) (t := t) h hl hr
        exact ⟨v, w, by simpa using hv w, hk⟩
      · exact h.elim
  · rw [eqGuard_at_string]
    obtain ⟨v, hv, hk⟩ := strOpV_run (P := P) (t := t) h
    exact ⟨v, w, by simpa using hv w, hk⟩
  · unfold runK runV at h
    split at h
    · rename_i v w' hr
      exact ⟨v, w', hr, typedV_get h⟩
    · exact h.elim

def nthO : List Value → Nat → Option Value
  | [], _ => none
  | v :: _, 0 => some v
  | _ :: l, n + 1 => nthO l n
theorem nthO_eq : ∀ (l : List Value) (n : Nat), nthO l n = l[n]?
  | [], _ => by simp [nthO]
  | _ :: _, 0 => by simp [nthO]
  | _ :: l, n + 1 => by simp [nthO, nthO_eq l n]
def fieldO : List Field → Nat → Option Field
  | [], _ => none
  | v :: _, 0 => some v
  | _ :: l, n + 1 => fieldO l n
theorem fieldO_eq : ∀ (l : List Field) (n : Nat), fieldO l n = l[n]?
  | [], _ => by simp [fieldO]
  | _ :: _, 0 => by simp [fieldO]
  | _ :: l, n + 1 => by simp [fieldO, fieldO_eq l n]
def fieldsT (P : Program) (t : TypeId) : Option (List Field) := match P.underlying t with | some (.struct fs) => some fs.toList | _ => none
theorem fieldsT_eq {P : Program} {t : TypeId} {fs : List Field} (h : fieldsT P t = some fs) : P.underlying t = some (.struct fs.toArray) := by
  unfold fieldsT at h
  split at h
  · rename_i hd; simp only [Option.some.injEq] at h; rw [hd, ← h]
  · cases h
/-- What a type is, as far as an operation must know. -/
inductive Kind where
  | str | bool | int (k : IntKind) | ptr (e : TypeId) | slice (e : TypeId) | array (n : Nat) (e : TypeId) | map | func | other
def kindT (P : Program) (t : TypeId) : Kind :=
  match P.underlying t with
  | some .string => .str
  | some .bool => .bool
  | some (.int k) => .int k
  | some (.pointer e) => .ptr e
  | some (.slice e) => .slice e
  | some (.array n e) => .array n e
  | some (.map _ _) => .map
  | some (.func _ _ _) => .func
  | _ => .other
section
variable {P : Program} {t : TypeId}
theorem kindT_str (h : kindT P t = .str) : P.underlying t = some .string := by
  unfold kindT at h; split at h <;> first | assumption | cases h
theorem kindT_bool (h : kindT P t = .bool) : P.underlying t = some .bool := by
  unfold kindT at h; split at h <;> first | assumption | cases h
theorem kindT_int {k : IntKind} (h : kindT P t = .int k) : P.underlying t = some (.int k) := by
  unfold kindT at h; split at h <;> first | (cases h; assumption) | cases h
theorem kindT_ptr {e : TypeId} (h : kindT P t = .ptr e) : P.underlying t = some (.pointer e) := by
  unfold kindT at h; split at h <;> first | (cases h; assumption) | cases h
theorem kindT_slice {e : TypeId} (h : kindT P t = .slice e) : P.underlying t = some (.slice e) := by
  unfold kindT at h; split at h <;> first | (cases h; assumption) | cases h
theorem kindT_array {n : Nat} {e : TypeId} (h : kindT P t = .array n e) : P.underlying t = some (.array n e) := by
  unfold kindT at h; split at h <;> first | (cases h; assumption) | cases h
theorem kindT_map (h : kindT P t = .map) : ∃ k e, P.underlying t = some (.map k e) := by
  unfold kindT at h; split at h <;> first | (exact ⟨_, _, by assumption⟩) | cases h
theorem kindT_func (h : kindT P t = .func) : ∃ a b c, P.underlying t = some (.func a b c) := by
  unfold kindT at h; split at h <;> first | (exact ⟨_, _, _, by assumption⟩) | cases h
end
def nilCmp (P : Program) (t : TypeId) (y : Operand) (v : Value) : Option Bool :=
  match y with
  | .const c => (match kindT P t, c, v with
    | .ptr _, .pointer none, .pointer q => some q.isNone
    | .slice _, .slice none 0 0, .slice q _ _ => some q.isNone
    | .map, .map none, .map q => some q.isNone
    | .func, .nilFunc, .nilFunc => some true
    | .func, .nilFunc, .func _ _ _ => some false
    | _, _, _ => none)
  | _ => none
def isTrue : Option Bool → Bool
  | some true => true
  | _ => false
/-- A part of an aggregate. -/
def partV (P : Program) (t : TypeId) (cs : List Value) (off : Nat) (K : Value → Prop) : Prop :=
  match aggT P t with
  | some true => K (.agg ((cs.drop off).take (sizeT P t)).toArray)
  | some false => (match nthO cs off with | some v => K v | none => False)
  | none => False
def evI (s : List Value) (x : Operand) : Option Int := match ev s x with | .int _ i => some i | _ => none
def sliceAddr (a : Option Addr) (m l size : Nat) : Option Addr := if m = l then a else a.map (·.add (l * size))
/-- s[lo:hi] of a string, of a slice. -/
def sliceStrV (str : ByteArray) (lo hi : Option Operand) (s : List Value) (K : Value → Prop) : Prop :=
  match lo, hi with
  | none, none => K (.string (str.extract 0 str.size))
  | some x, none => (match ev s x with | .int _ l => (0 ≤ l ∧ l ≤ str.size) ∧ K (.string (str.extract l.toNat str.size)) | _ => False)
  | none, some y => (match ev s y with | .int _ h => (0 ≤ h ∧ h ≤ str.size) ∧ K (.string (str.extract 0 h.toNat)) | _ => False)
  | some x, some y => (match ev s x, ev s y with | .int _ l, .int _ h => (0 ≤ l ∧ l ≤ h ∧ h ≤ str.size) ∧ K (.string (str.extract l.toNat h.toNat)) | _, _ => False)
def sliceSlV (size : Nat) (a : Option Addr) (len cap : Nat) (lo hi mx : Option Operand) (s : List Value) (K : Value → Prop) : Prop :=
  match lo, hi, mx with
  | none, none, none => K (.slice a len cap)
  | none, some y, none => (match ev s y with | .int _ h => (0 ≤ h ∧ h ≤ cap) ∧ K (.slice a h.toNat cap) | _ => False)
  | none, some y, some z => (match ev s y, ev s z with | .int _ h, .int _ m => (0 ≤ h ∧ h ≤ m ∧ m ≤ cap) ∧ K (.slice a h.toNat m.toNat) | _, _ => False)
  | some x, none, none => (match ev s x with | .int _ l => (0 ≤ l ∧ l ≤ len) ∧ ∀ a', a' = sliceAddr a cap l.toNat size → K (.slice a' (len - l.toNat) (cap - l.toNat)) | _ => False)
  | some x, some y, none => (match ev s x, ev s y with | .int _ l, .int _ h => (0 ≤ l ∧ l ≤ h ∧ h ≤ cap) ∧ ∀ a', a' = sliceAddr a cap l.toNat size → K (.slice a' (h.toNat - l.toNat) (cap - l.toNat)) | _, _ => False)
  | some x, some y, some z => (match ev s x, ev s y, ev s z with | .int _ l, .int _ h, .int _ m => (0 ≤ l ∧ l ≤ h ∧ h ≤ m ∧ m ≤ cap) ∧ ∀ a', a' = sliceAddr a m.toNat l.toNat size → K (.slice a' (h.toNat - l.toNat) (m.toNat - l.toNat)) | _, _, _ => False)
  | _, _, _ => False
theorem run_bound {P : Program} {k : IntKind} {i : Int} {y : Nat} {c : BoundsCode} (h0 : 0 ≤ i) (h1 : i ≤ y) (w : World) : (Instr.sliceBound (.int k i) y c).run P w = .ok i.toNat w := run_sliceBound w k i y c h0 h1
theorem addr_map_zero (a : Option Addr) : a.map (·.add 0) = a := by cases a <;> simp [Addr.add]
theorem sliceStrV_run {P : Program} {t : TypeId} (ht : P.underlying t = some .string) {str : ByteArray} {lo hi : Option Operand} {s : List Value} {K : Value → Prop} (h : sliceStrV str lo hi s K) :
    ∃ v, (∀ w, (Instr.slice t (.string str) (lo.map (ev s)) (hi.map (ev s)) none).run P w = .ok v w) ∧ K v := by
  unfold sliceStrV at h
  split at h
  · exact ⟨_, fun w => by simp [Instr.slice, run_underlying ht, Instr.sliceBounds], h⟩
  · split at h
    · rename_i k l hx
      obtain ⟨⟨h0, h1⟩, h⟩ := h
      exact ⟨_, fun w => by simp [Instr.slice, run_underlying ht, Instr.sliceBounds, hx, run_bound h0 h1], h⟩
    · exact h.elim
  · split at h
    · rename_i k l hx
      obtain ⟨⟨h0, h1⟩, h⟩ := h
      exact ⟨_, fun w => by simp [Instr.slice, run_underlying ht, Instr.sliceBounds, hx, run_bound h0 h1], h⟩
    · exact h.elim
  · split at h
    · rename_i k l k' l' hx hy
      obtain ⟨⟨h0, h1, h2⟩, h⟩ := h
      have h1' : l ≤ (l'.toNat : Int) := by omega
      exact ⟨_, fun w => by simp [Instr.slice, run_underlying ht, Instr.sliceBounds, hx, hy, run_bound (show 0 ≤ l' by omega) h2, run_bound h0 h1'], h⟩
    · exact h.elim
theorem sliceSlV_run {P : Program} {t e : TypeId} (ht : P.underlying t = some (.slice e)) {i : TypeInfo} (hi' : P.info? e = some i) {a : Option Addr} {len cap : Nat} {lo hi mx : Option Operand} {s : List Value} {K : Value → Prop}
    (h : sliceSlV i.size a len cap lo hi mx s K) :
    ∃ v, (∀ w, (Instr.slice t (.slice a len cap) (lo.map (ev s)) (hi.map (ev s)) (mx.map (ev s))).run P w = .ok v w) ∧ K v := by
  unfold sliceSlV at h
  split at h
  · exact ⟨_, fun w => by simp [Instr.slice, run_underlying ht, Instr.sliceBounds, run_sizeOf_of hi', addr_map_zero], h⟩
  · split at h
    · rename_i k l hx
      obtain ⟨⟨h0, h1⟩, h⟩ := h
      exact ⟨_, fun w => by simp [Instr.slice, run_underlying ht, Instr.sliceBounds, hx, run_bound h0 h1, run_sizeOf_of hi', addr_map_zero], h⟩
    · exact h.elim
  · split at h
    · rename_i k l k' l' hx hy
      obtain ⟨⟨h0, h1, h2⟩, h⟩ := h
      have h1' : l ≤ (l'.toNat : Int) := by omega
      exact ⟨_, fun w => by simp [Instr.slice, run_underlying ht, Instr.sliceBounds, hx, hy, run_bound (show 0 ≤ l' by omega) h2, run_bound h0 h1', run_sizeOf_of hi', addr_map_zero], h⟩
    · exact h.elim
  · split at h
    · rename_i k l hx
      obtain ⟨⟨h0, h1⟩, h⟩ := h
      exact ⟨_, fun w => by simp [Instr.slice, run_underlying ht, Instr.sliceBounds, hx, run_bound h0 h1, run_sizeOf_of hi', sliceAddr], h _ rfl⟩
    · exact h.elim
  · split at h
    · rename_i k l k' l' hx hy
      obtain ⟨⟨h0, h1, h2⟩, h⟩ := h
      have h1' : l ≤ (l'.toNat : Int) := by omega
      exact ⟨_, fun w => by simp [Instr.slice, run_underlying ht, Instr.sliceBounds, hx, hy, run_bound (show 0 ≤ l' by omega) h2, run_bound h0 h1', run_sizeOf_of hi', sliceAddr], h _ rfl⟩
    · exact h.elim
  · split at h
    · rename_i k l k' l' k'' l'' hx hy hz
      obtain ⟨⟨h0, h1, h2, h3⟩, h⟩ := h
      have h1' : l ≤ (l'.toNat : Int) := by omega
      have h2' : l' ≤ (l''.toNat : Int) := by omega
      exact ⟨_, fun w => by simp [Instr.slice, run_underlying ht, Instr.sliceBounds, hx, hy, hz, run_bound (show 0 ≤ l'' by omega) h3, run_bound (show 0 ≤ l' by omega) h2', run_bound h0 h1', run_sizeOf_of hi', sliceAddr], h _ rfl⟩
    · exact h.elim
  · exact h.elim

def evParts (s : List Value) : List (Nat × Operand) → List (Nat × Value)
  | [] => []
  | (i, x) :: l => (i, ev s x) :: evParts s l
theorem evParts_eq (s : List Value) : ∀ l : List (Nat × Operand), evParts s l = l.map (fun x => (x.1, ev s x.2))
  | [] => rfl
  | (i, x) :: l => by simp [evParts, evParts_eq s l]
/-- The cells of a slice that is written out. -/
def builtS (z : Array Value) (n size : Nat) (parts : List (Nat × Value)) : Option (Array Value) :=
  Instr.fill (fun i => some (i * size, size)) (if n * size = 0 then #[] else ((List.range (n * size)).map (fun i => z[i % z.size]!)).toArray) parts
def callable (P : Program) (g : FuncId) : Bool :=
  match P.funcs[g]? with
  | some fn => (match fn.body with | some _ => !(fn.name == "runtime.NumGoroutine") | none => false)
  | none => false
def goodCall (P : Program) (g : FuncId) (X : Prop) : Prop := match callable P g with | true => X | false => False
/-- A call of g, whose results are of the kind of type t. -/
def callV (P : Program) (g : FuncId) (t : TypeId) (args : List Value) (w : World) (K : Value → World → Prop) : Prop :=
  match zeroOf P t with
  | some z => goodCall P g (Calls P g args.toArray w (fun e w' => exRes z (fun v => e = .returned v ∧ K v w')))
  | none => False
/-- A function without a body: the model answers at once. -/
def externV (P : Program) (g : FuncId) (args : List Value) (w : World) (K : Value → World → Prop) : Prop :=
  match (callFunc g args.toArray).run P w with
  | .ok (.value v) w' => K v w'
  | _ => False
def funcV (v : Value) (K : FuncId → Array Value → Array Value → Prop) : Prop :=
  match v with
  | .func (.func g) first captured => K g first captured
  | _ => False
theorem funcV_get {v : Value} {K : FuncId → Array Value → Array Value → Prop} (h : funcV v K) : ∃ g a b, v = .func (.func g) a b ∧ K g a b := by
  unfold funcV at h
  split at h
  · exact ⟨_, _, _, rfl, h⟩
  · exact h.elim
def hasBody (P : Program) (g : FuncId) : Bool := match P.funcs[g]? with | some fn => (match fn.body with | some _ => true | none => false) | none => false
def lenMapV (w : World) (r : Option Nat) (K : Nat → Prop) : Prop :=
  match r with
  | none => K 0
  | some m => ∃ es clk, w.heap[m]? = some (.map es clk) ∧ K es.size
def max2I (a b : Int) : Int := if b > a then b else a
def min2I (a b : Int) : Int := if b < a then b else a
def builtinV (P : Program) (b : Builtin) (ats : List TypeId) (t : TypeId) (args : List Value) (w : World) (K : Value → World → Prop) : Prop :=
  match b, args with
  | .len, [.slice _ n _] => (match ats with | ty :: _ => (match kindT P ty with | .slice _ => K (.int .i64 n) w | _ => False) | [] => False)
  | .len, [.string s] => (match ats with | ty :: _ => (match kindT P ty with | .str => K (.int .i64 s.size) w | _ => False) | [] => False)
  | .len, [.map r] => (match ats with | ty :: _ => (match kindT P ty with | .map => lenMapV w r (fun n => K (.int .i64 n) w) | _ => False) | [] => False)
  | .cap, [.slice _ _ c] => (match ats with | ty :: _ => (match kindT P ty with | .slice _ => K (.int .i64 c) w | _ => False) | [] => False)
  | .max, [.int k a, .int _ b] => K (.int k (max2I a b)) w
  | .min, [.int k a, .int _ b] => K (.int k (min2I a b)) w
  | .append, args => runK P t (Builtin.append_ ats.toArray t args.toArray) w K
  | .copy, args => runK P t (Builtin.copy_ ats.toArray t args.toArray) w K
  | .delete, args => runK P t (Builtin.delete_ ats.toArray t args.toArray) w K
  | .clear, args => runK P t (Builtin.clear_ ats.toArray t args.toArray) w K
  | .unsafeString, args => runK P t (Builtin.unsafeString_ ats.toArray t args.toArray) w K
  | .unsafeSliceData, args => runK P t (Builtin.unsafeSliceData_ ats.toArray t args.toArray) w K
  | _, _ => False
def rangeMapV (w : World) (q : Option Nat) (K : Nat → World → Prop) : Prop :=
  match q with
  | none => ∀ b w', b = w.heap.size → w' = w.alloc (.mapIter none 0 #[] 0) → K b w'
  | some m => ∃ es clk, w.heap[m]? = some (.map es clk) ∧ ∀ b w', b = w.heap.size → w' = w.alloc (.mapIter (some m) clk #[] clk) → K b w'
/-- One step of an iterator over a map. -/
def nextMapV (P : Program) (s : Sem Value) (w : World) (K : Value → World → Prop) : Prop :=
  runV P s w (fun v w' => (v = .tuple #[.bool false] ∨ ∃ k e, v = .tuple #[.bool true, k, e]) ∧ (v = .tuple #[.bool false] → K (.tuple #[.bool false]) w') ∧ ∀ k e, v = .tuple #[.bool true, k, e] → K (.tuple #[.bool true, k, e]) w')
def unitV (P : Program) (s : Sem Unit) (w : World) (K : World → Prop) : Prop :=
  match s.run P w with
  | .ok _ w' => K w'
  | .halt _ _ => False
def opV (P : Program) (o : Oper) (s : List Value) (w : World) (K : Value → World → Prop) : Prop :=
  match o.op with
  | .move x => K (ev s x) w
  | .assign x => K (ev s x) w
  | .pick c a b => (match ev s c with | .bool t => boolV t (K (ev s a) w) (K (ev s b) w) | _ => False)
  | .alloc t => (match zeroOf P t with | some z => newV w t z.cells K | none => False)
  | .box t x => newV w t (ev s x).cells K
  | .build t parts => (match P.built t (evParts s parts.toList) with | some cells => K (.agg cells) w | none => False)
  | .buildSlice t n parts => (match kindT P t with
    | .slice e => (match zeroOf P e with
      | some z => (match builtS z.cells n (sizeT P e) (evParts s parts.toList), Nat.ble (n * sizeT P e) 16777216 with
        | some cells, true => ∀ b w', b = w.heap.size → w' = w.alloc (.cells cells e) → K (.slice (some ⟨b, 0, none⟩) n n) w'
        | _, _ => False)
      | none => False)
    | _ => False)
  | .load t x => (match ev s x with | .pointer q => someV q (fun p => loadV P t w p (fun v => K v w)) | _ => False)
  | .store t x y => (match ev s x with | .pointer q => someV q (fun p => storeV P t w p (ev s y) (fun w' => K undef w')) | _ => False)
  | .nilCheck x => (match ev s x with
    | .pointer q => someV q (fun p => K (.pointer (some p)) w)
    | .func (.func f) a b => K (.func (.func f) a b) w
    | _ => False)
  | .binOp op t x y _ => (match op with
    | .eql => (match nilCmp P t y (ev s x) with | some b => K (.bool b) w | none => binV P .eql t x y o.type (ev s x) (ev s y) w K)
    | .neq => (match nilCmp P t y (ev s x) with | some b => K (.bool (!b)) w | none => binV P .neq t x y o.type (ev s x) (ev s y) w K)
    | op => binV P op t x y o.type (ev s x) (ev s y) w K)
  | .unOp op _ x => (match op, ev s x with
    | .neg, .int k n => K (.int k (k.wrap (0 - n))) w
    | .xor, .int k n => K (.int k (Go.bits .xor k (if k.signed then -1 else k.max) n)) w
    | .not, .bool b => K (.bool (!b)) w
    | _, _ => False)
  | .convert src dst x => (match ev s x, kindT P src, kindT P dst with
    | .int _ n, .int _, .int k => K (.int k (k.wrap n)) w
    | .string str, .str, .str => K (.string str) w
    | .slice a n _, .slice e, .str => (match kindT P e with
      | .int .u8 => ∃ bs, BytesAt w a n bs ∧ K (.string bs) w
      | _ => False)
    | x, _, _ => runK P o.type (convert src dst x) w K)
  | .makeInterface t x => (match P.concrete t with | true => K (.iface t (ev s x)) w | false => False)
  | .makeFunc fn first captured => K (.func fn (evs s first.toList).toArray (evs s captured.toList).toArray) w
  | .makeMap _ r => (match r with
    | none => ∀ b w', b = w.heap.size → w' = w.alloc (.map #[] 0) → K (.map (some b)) w'
    | some _ => False)
  | .makeSlice t l c => runK P o.type (Instr.makeSlice t (ev s l) (ev s c)) w K
  | .slice t x lo hi mx => (match kindT P t, ev s x with
    | .str, .string str => (match mx with | none => sliceStrV str lo hi s (fun v => K v w) | some _ => False)
    | .slice e, .slice a len cap => (match P.info? e with | some i => sliceSlV i.size a len cap lo hi mx s (fun v => K v w) | none => False)
    | .array n e, .pointer q => (match lo, hi, mx with | none, none, none => (match P.info? e with | some _ => someV q (fun p => K (.slice (some p) n n) w) | none => False) | _, _, _ => False)
    | _, _ => False)
  | .fieldAddr t x f => (match fieldsT P t with
    | some fs => (match fieldO fs f with
      | some fl => (match P.info? fl.type with
        | some i => (match Nat.beq i.size 0, ev s x with | false, .pointer q => someV q (fun p => K (.pointer (some (p.add fl.offset))) w) | _, _ => False)
        | none => False)
      | none => False)
    | none => False)
  | .field t x f => (match fieldsT P t, ev s x with
    | some fs, .agg cs => (match fieldO fs f with | some fl => (match P.info? fl.type with | some _ => partV P fl.type cs.toList fl.offset (fun v => K v w) | none => False) | none => False)
    | _, _ => False)
  | .indexAddr t x i => (match kindT P t, ev s x, ev s i with
    | .slice e, .slice a len _, .int _ n => (match P.info? e with | some inf => someV a (fun p => (0 ≤ n ∧ n < len) ∧ K (.pointer (some (p.add (n.toNat * inf.size)))) w) | none => False)
    | .array len e, .pointer q, .int _ n => (match P.info? e with | some inf => someV q (fun p => (0 ≤ n ∧ n < len) ∧ K (.pointer (some (p.add (n.toNat * inf.size)))) w) | none => False)
    | _, _, _ => False)
  | .index t x i => (match kindT P t, ev s x, ev s i with
    | .str, .string str, .int _ n => (0 ≤ n ∧ n < str.size) ∧ K (.int .u8 (byteAt str n.toNat).toNat) w
    | _, _, _ => False)
  | .lookup t m k ok => runK P o.type (Instr.lookup t (ev s m) (ev s k) ok) w K
  | .mapUpdate t m k x => unitV P (Instr.mapUpdate t (ev s m) (ev s k) (ev s x)) w (fun w' => K undef w')
  | .insert t m k x => unitV P (Instr.mapUpdate t (ev s m) (ev s k) (ev s x)) w (fun w' => K undef w')
  | .mapEntry t m k => runK P o.type (Instr.mapEntry t (ev s m) (ev s k)) w K
  | .entryStore t m st x => unitV P (Instr.entryStore t (ev s m) (ev s st) (ev s x)) w (fun w' => K undef w')
  | .range t x => (match kindT P t, ev s x with | .map, .map q => rangeMapV w q (fun b w' => K (.pointer (some ⟨b, 0, none⟩)) w') | _, _ => False)
  | .next it isString => nextMapV P (Instr.next (ev s it) isString o.type) w K
  | .entry it => runK P o.type (Instr.entry (ev s it)) w K
  | .typeAssert x t a ok => runK P o.type (Instr.typeAssert (ev s x) t a ok) w K
  | .extract t i => (match ev s t with | .tuple vs => (match nthO vs.toList i with | some v => K v w | none => False) | _ => False)
  | .call c => (match c.callee with
    | .builtin b => builtinV P b c.argTypes.toList o.type (evs s c.args.toList) w K
    | .value f => (match f with
      | .func g => (match hasBody P g with
        | true => callV P g o.type (evs s c.args.toList) w K
        | false => externV P g (evs s c.args.toList) w (fun v w' => typedV P o.type v (fun v' => K v' w')))
      | f => funcV (ev s f) (fun g first captured => callV P g o.type (first.toList ++ evs s c.args.toList ++ captured.toList) w K))
    | .invoke _ _ => False)
  | _ => False

theorem act_eval' (s : List Value) : (act s).eval = ev s := funext (act_eval s)
section
variable {P : Program} {o : Oper} {s : List Value} {w : World} {K : Value → World → Prop} {K' : Act → World → Prop} {Q : Exit → Act → World → Prop}
theorem wp_of_value (hK : ∀ v w', K v w' → K' (act (putO s o.dst v)) w') (h : ∃ v w', (execOp (ev s) o).run P w = .ok (.value v) w' ∧ K v w') : o.wp P (act s) w K' Q := by
  obtain ⟨v, w', hr, hk⟩ := h
  unfold Oper.wp
  rw [act_eval', hr, Oper.upon_value, act_put]
  exact hK _ _ hk
theorem wp_of_skip (hK : ∀ v w', K v w' → K' (act (putO s o.dst v)) w') (h : ∃ w', (execOp (ev s) o).run P w = .ok .skip w' ∧ K undef w') : o.wp P (act s) w K' Q := by
  obtain ⟨w', hr, hk⟩ := h
  unfold Oper.wp
  rw [act_eval', hr, Oper.upon_skip, act_put]
  exact hK _ _ hk
theorem wp_of_call (hK : ∀ v w', K v w' → K' (act (putO s o.dst v)) w') {g : FuncId} {t : TypeId} {args : List Value} (h : callV P g t args w K)
    (he : ∀ fn, P.funcs[g]? = some fn → fn.body.isSome = true → (fn.name == "runtime.NumGoroutine") = false → (execOp (ev s) o).run P w = .ok (.enter g args.toArray) w) : o.wp P (act s) w K' Q := by
  unfold callV at h
  split at h
  · rename_i z hz
    unfold goodCall at h
    split at h
    · rename_i hc
      unfold callable at hc
      split at hc
      · rename_i fn hfn
        split at hc
        · rename_i c hb
          unfold Oper.wp
          rw [act_eval', he fn hfn (by simp [hb]) (by simpa using hc), Oper.upon_enter]
          refine h.mono fun e w' hr => ?_
          obtain ⟨v, rfl, hk⟩ := exRes_get hr
          simp only [act_put]
          exact hK _ _ hk
        · cases hc
      · cases hc
    · exact h.elim
  · exact h.elim
theorem runK_get {t : TypeId} {m : Sem Value} (h : runK P t m w K) : ∃ v w', m.run P w = .ok v w' ∧ K v w' := by
  unfold runK runV at h
  split at h
  · rename_i v w' hr; exact ⟨v, w', hr, typedV_get h⟩
  · exact h.elim
theorem unitV_get {m : Sem Unit} {K : World → Prop} (h : unitV P m w K) : ∃ w', m.run P w = .ok () w' ∧ K w' := by
  unfold unitV at h
  split at h
  · rename_i v w' hr; exact ⟨w', hr, h⟩
  · exact h.elim
theorem nextMapV_get {m : Sem Value} (h : nextMapV P m w K) : ∃ v w', m.run P w = .ok v w' ∧ K v w' := by
  unfold nextMapV runV at h
  split at h
  · rename_i v w' hr
    obtain ⟨h1, h2, h3⟩ := h
    refine ⟨v, w', hr, ?_⟩
    rcases h1 with rfl | ⟨k, e, rfl⟩
    · exact h2 rfl
    · exact h3 k e rfl
  · exact h.elim
theorem partV_run {t : TypeId} {i : TypeInfo} (hi : P.info? t = some i) {cs : Array Value} {off : Nat} {K : Value → Prop} (h : partV P t cs.toList off K) : ∃ v, (∀ w, (part t cs off).run P w = .ok v w) ∧ K v := by
  unfold partV at h
  split at h
  · rename_i ha
    refine ⟨_, fun w => ?_, h⟩
    simp only [part, Sem.run_bind, run_isAgg_of ha, Result.andThen_ok, if_true, run_sizeOf_of hi, sizeT, hi]
    have e : cs.extract off (off + i.size) = ((cs.toList.drop off).take i.size).toArray := by
      apply Array.ext'
      simp
    rw [e]; rfl
  · rename_i ha
    split at h
    · rename_i v hv
      rw [nthO_eq] at hv
      exact ⟨v, fun w => by simp [part, run_isAgg_of ha, ← Array.getElem?_toList, hv], h⟩
    · exact h.elim
  · exact h.elim
theorem builtS_run {t e : TypeId} {n : Nat} {parts : Array (Nat × Value)} {z : Value} {i : TypeInfo} {cells : Array Value} (ht : P.underlying t = some (.slice e)) (hi : P.info? e = some i) (hz : i.zero = some z)
    (hc : builtS z.cells n i.size parts.toList = some cells) (hb : n * i.size ≤ 16777216) :
    (Instr.buildSlice t n parts).run P w = .ok (.slice (some ⟨w.heap.size, 0, none⟩) n n) (w.alloc (.cells cells e)) := by
  unfold builtS at hc
  have h1 : ¬ (n * i.size > 2 ^ 24) := by omega
  by_cases h0 : n * i.size = 0
  · simp only [h0, if_true] at hc
    have er : (Array.map (fun _ : Nat => (default : Value)) (Array.range 0)) = #[] := by apply Array.ext'; simp
    simp [Instr.buildSlice, run_underlying ht, run_sizeOf_of hi, h0, er, hc, newRow, newObj, Sem.run]
  · simp only [h0, if_false] at hc
    have er : Array.map (fun x => z.cells[x % z.cells.size]!) (Array.range (n * i.size)) = (List.map (fun x => z.cells[x % z.cells.size]!) (List.range (n * i.size))).toArray := by
      apply Array.ext'
      simp
    have hzv : (zeroValue e).run P w = .ok z w := by simp [zeroValue, typeInfo, hi, hz]
    simp only [Instr.buildSlice, Sem.run_bind, run_underlying ht, Result.andThen_ok, run_sizeOf_of hi, if_neg h1, if_neg h0, hzv, Sem.run_pure, er, hc]
    simp [newRow, newObj, Sem.run]
end

section
variable {P : Program} {o : Oper} {s : List Value} {w : World} {K : Value → World → Prop} {K' : Act → World → Prop} {Q : Exit → Act → World → Prop}
theorem newV_get {t : TypeId} {v : Value} (h : newV w t v.cells K) : ∃ u w', (newVar t v >>= fun a => pure (Value.pointer (some a)) : Sem Value).run P w = .ok u w' ∧ K u w' :=
  ⟨_, _, by simp [newVar, newRow, newObj, Sem.run], h _ _ rfl rfl⟩
theorem evParts_arr (s : List Value) (parts : Array (Nat × Operand)) : (parts.map fun (i, x) => (i, ev s x)).toList = evParts s parts.toList := by
  simp [evParts_eq]
theorem evs_arr (s : List Value) (args : Array Operand) : args.map (ev s) = (evs s args.toList).toArray := by
  apply Array.ext'; simp [evs_eq]
theorem run_eqIn_func (d : Nat) {t : TypeId} {a b : Array TypeId} {c : Bool} (hu : P.underlying t = some (.func a b c)) : (Op.equalIn (d + 1) t .nilFunc .nilFunc).run P w = .ok true w := by
  simp [Op.equalIn, run_underlying hu]
theorem run_eqIn_func2 (d : Nat) {t : TypeId} {a b : Array TypeId} {c : Bool} {f : Fn} {x y : Array Value} (hu : P.underlying t = some (.func a b c)) : (Op.equalIn (d + 1) t (.func f x y) .nilFunc).run P w = .ok false w := by
  simp [Op.equalIn, run_underlying hu]
theorem run_nilCmp {t : TypeId} {x y : Operand} {b : Bool} (h : nilCmp P t y (ev s x) = some b) :
    (Op.equal t (ev s x) (ev s y)).run P w = .ok b w ∧ (∀ op, eqGuard op t x y (ev s x) (ev s y) = pure ()) ∧
    binOp .eql t (ev s x) (ev s y) = Value.bool <$> Op.equal t (ev s x) (ev s y) ∧ binOp .neq t (ev s x) (ev s y) = (fun a => Value.bool (!a)) <$> Op.equal t (ev s x) (ev s y) := by
  unfold nilCmp at h
  split at h
  · rename_i c
    have he : ev s (.const c) = c := rfl
    rw [he]
    generalize ev s x = v at h ⊢
    split at h
    · rename_i e q hk
      cases h
      have := kindT_ptr hk
      exact ⟨run_equal_pointer_nil (P := P) w t q (by simp [Program.pointee, this]), fun op => eqGuard_at_pointer .., rfl, rfl⟩
    · rename_i e q l c' hk
      cases h
      exact ⟨run_equal_slice_nil (P := P) w t e q l c' (kindT_slice hk), fun op => eqGuard_at_slice .., rfl, rfl⟩
    · rename_i q hk
      cases h
      obtain ⟨k, e, hu⟩ := kindT_map hk
      exact ⟨run_equal_map_nil (P := P) w t k e q hu, fun op => eqGuard_at_map .., rfl, rfl⟩
    · rename_i hk
      cases h
      obtain ⟨k, e, f, hu⟩ := kindT_func hk
      exact ⟨run_eqIn_func 9999 hu, fun op => eqGuard_at_nilFunc .., rfl, rfl⟩
    · rename_i hk
      cases h
      obtain ⟨k, e, f, hu⟩ := kindT_func hk
      exact ⟨run_eqIn_func2 9999 hu, fun op => eqGuard_at_func .., rfl, rfl⟩
    · cases h
  · cases h
theorem builtinV_run {b : Builtin} {ats : List TypeId} {t : TypeId} {consts : Array Bool} {args : List Value} (h : builtinV P b ats t args w K) :
    ∃ v w', (builtin b ats.toArray t consts args.toArray).run P w = .ok (.value v) w' ∧ K v w' := by
  unfold builtinV at h
  split at h
  · split at h
    · split at h
      · rename_i he
        exact ⟨_, _, by simp [builtin, Builtin.len_, run_underlying (kindT_slice he), goInt], h⟩
      · exact h.elim
    · exact h.elim
  · split at h
    · split at h
      · rename_i he
        exact ⟨_, _, by simp [builtin, Builtin.len_, run_underlying (kindT_str he), goInt], h⟩
      · exact h.elim
    · exact h.elim
  · rename_i r
    split at h
    · split at h
      · rename_i he
        obtain ⟨k, e, hu⟩ := kindT_map he
        cases r with
        | none => exact ⟨_, _, by simp [builtin, Builtin.len_, run_underlying hu, goInt], h⟩
        | some m =>
          obtain ⟨es, clk, hm, hh⟩ := h
          exact ⟨_, _, by simp [builtin, Builtin.len_, run_underlying hu, goInt, getObj, Sem.run, hm], hh⟩
      · exact h.elim
    · exact h.elim
  · split at h
    · split at h
      · rename_i he
        exact ⟨_, _, by simp [builtin, Builtin.cap_, run_underlying (kindT_slice he), goInt], h⟩
      · exact h.elim
    · exact h.elim
  · exact ⟨_, _, by simp [builtin, Builtin.max_, Builtin.max2, max2I], h⟩
  · exact ⟨_, _, by simp [builtin, Builtin.min_, Builtin.min2, min2I], h⟩
  · obtain ⟨v, w', hr, hk⟩ := runK_get h
    exact ⟨_, _, by simp [builtin, hr], hk⟩
  · obtain ⟨v, w', hr, hk⟩ := runK_get h
    exact ⟨_, _, by simp [builtin, hr], hk⟩
  · obtain ⟨v, w', hr, hk⟩ := runK_get h
    exact ⟨_, _, by simp [builtin, hr], hk⟩
  · obtain ⟨v, w', hr, hk⟩ := runK_get h
    exact ⟨_, _, by simp [builtin, hr], hk⟩
  · obtain ⟨v, w', hr, hk⟩ := runK_get h
    exact ⟨_, _, by simp [builtin, hr], hk⟩
  · obtain ⟨v, w', hr, hk⟩ := runK_get h
    exact ⟨_, _, by simp [builtin, hr], hk⟩
  · exact h.elim
theorem readsL_of (w : World) (p : Addr) : ∀ (l : List Value) (i : Nat), (∀ j v, l[j]? = some v → w.cell? (p.add (i + j)) = some v) → ReadsL w p i l
  | [], _, _ => trivial
  | [v], i, h => by have := h 0 v rfl; rwa [Nat.add_zero] at this
  | v :: u :: us, i, h => ⟨by simpa using h 0 v rfl, readsL_of w p (u :: us) (i + 1) fun j x hj => by
      have := h (j + 1) x (by simpa using hj)
      rwa [show i + 1 + j = i + (j + 1) by omega]⟩
theorem push_foldl : ∀ (l : List UInt8) (acc : ByteArray), (l.map (fun u => (u.toNat : Int))).foldl (fun r n => r.push (UInt8.ofNat n.toNat)) acc = ⟨acc.data ++ l.toArray⟩
  | [], acc => by simp
  | u :: us, acc => by
    simp only [List.map_cons, List.foldl_cons, Int.toNat_natCast]
    rw [push_foldl us]
    simp [ByteArray.push]
/-- The bytes of a row, read one by one. -/
theorem run_bytes_of {a : Option Addr} {n c : Nat} {bs : ByteArray} (h : BytesAt w a n bs) : (Conv.bytesToString (.slice a n c)).run P w = .ok (.string bs) w := by
  cases a with
  | none =>
    have hb : bs = ByteArray.empty := by
      have h0 : bs.size = 0 := h
      cases bs with | mk d => cases d with | mk l => cases l with
        | nil => rfl
        | cons _ _ => simp [ByteArray.size] at h0
    simp [Conv.bytesToString, hb]
  | some p =>
    obtain ⟨hs, hc⟩ := h
    have hs' : bs.data.size = n := hs
    have hl : (bs.data.toList.map (fun u => Value.int .u8 (u.toNat : Int))).length = n := by rw [List.length_map, Array.length_toList]; exact hs'
    have hr : ReadsL w p 0 (bs.data.toList.map (fun u => Value.int .u8 (u.toNat : Int))) := readsL_of w p _ 0 fun j v hj => by
      have hj' : j < n := by
        have := (List.getElem?_eq_some_iff.1 hj).1
        omega
      have hb : j < bs.data.size := by omega
      rw [Nat.zero_add, hc j hj', ← hj, List.getElem?_map, Array.getElem?_toList, Array.getElem?_eq_getElem hb]
      simp only [byteAt, Array.getD, dif_pos hb, Option.map_some]
      rfl
    have hld : (loadCells p n).run P w = .ok ((bs.data.toList.map (fun u => (u.toNat : Int))).map (Value.int .u8)).toArray w := by
      have := run_loadCells_of (P := P) w p _ 0 #[] hr
      rw [hl] at this
      simpa [loadCells, Function.comp_def] using this
    rw [run_bytesToString w p n c _ hld, push_foldl]
    simp
set_option maxHeartbeats 1000000 in
theorem opV_wp (hK : ∀ v w', K v w' → K' (act (putO s o.dst v)) w') (h : opV P o s w K) : o.wp P (act s) w K' Q := by
  unfold opV at h
  split at h
  case h_1 x hop => exact wp_of_value hK ⟨_, _, by simp [execOp, hop], h⟩
  case h_2 x hop => exact wp_of_value hK ⟨_, _, by simp [execOp, hop], h⟩
  case h_3 c a b hop =>
    split at h
    · rename_i t ht
      obtain ⟨h1, h2⟩ := boolV_iff.1 h
      cases t
      · exact wp_of_value hK ⟨ev s b, w, by simp [execOp, hop, ht, asBool], h2 rfl⟩
      · exact wp_of_value hK ⟨ev s a, w, by simp [execOp, hop, ht, asBool], h1 rfl⟩
    · exact h.elim
  case h_4 t hop =>
    split at h
    · rename_i z hz
      obtain ⟨i, hi, hiz⟩ := zeroOf_info hz
      have hzv : ∀ w, (zeroValue t).run P w = .ok z w := fun w => by simp [zeroValue, typeInfo, hi, hiz]
      exact wp_of_value hK ⟨_, _, by simp [execOp, hop, Instr.alloc, hzv, newVar, newRow, newObj, Sem.run], h _ _ rfl rfl⟩
    · exact h.elim
  case h_5 t x hop => exact wp_of_value hK ⟨_, _, by simp [execOp, hop, Instr.box, newVar, newRow, newObj, Sem.run], h _ _ rfl rfl⟩
  case h_6 t parts hop =>
    split at h
    · rename_i cells hc
      rw [← evParts_arr] at hc
      exact wp_of_value hK ⟨_, _, by simp [execOp, hop, run_build w t _ cells hc], h⟩
    · exact h.elim
  case h_7 t n parts hop =>
    split at h
    · rename_i e he
      split at h
      · rename_i z hz
        obtain ⟨i, hi, hiz⟩ := zeroOf_info hz
        split at h
        · rename_i cells hc hb
          have hsz : sizeT P e = i.size := by simp [sizeT, hi]
          rw [hsz] at hc hb
          rw [← evParts_arr] at hc
          have hb' : n * i.size ≤ 16777216 := Nat.le_of_ble_eq_true hb
          exact wp_of_value hK ⟨_, _, by simp [execOp, hop, builtS_run (w := w) (kindT_slice he) hi hiz hc hb'], h _ _ rfl rfl⟩
        · exact h.elim
      · exact h.elim
    · exact h.elim
  case h_8 t x hop =>
    split at h
    · rename_i q hq
      obtain ⟨p, rfl, hh⟩ := someV_iff.1 h
      obtain ⟨v, hv, hk⟩ := loadV_run hh
      exact wp_of_value hK ⟨_, _, by simp [execOp, hop, hq, Instr.loadAt, Instr.sureAddr, hv], hk⟩
    · exact h.elim
  case h_9 t x y hop =>
    split at h
    · rename_i q hq
      obtain ⟨p, rfl, hh⟩ := someV_iff.1 h
      obtain ⟨v, hv, hk⟩ := storeV_run hh
      exact wp_of_skip hK ⟨_, by simp [execOp, hop, hq, Instr.storeAt, Instr.sureAddr, hv], hk⟩
    · exact h.elim
  case h_10 x hop =>
    split at h
    · rename_i q hq
      obtain ⟨p, rfl, hh⟩ := someV_iff.1 h
      exact wp_of_value hK ⟨_, _, by simp [execOp, hop, hq], hh⟩
    · rename_i f a b hq
      exact wp_of_value hK ⟨_, _, by simp [execOp, hop, hq], h⟩
    · exact h.elim
  case h_11 op t x y ty hop =>
    have key : (∃ v w', (do eqGuard op t x y (ev s x) (ev s y); binOp op t (ev s x) (ev s y) : Sem Value).run P w = .ok v w' ∧ K v w') := by
      split at h
      · split at h
        · rename_i b hb
          obtain ⟨h1, h2, h3, _⟩ := run_nilCmp (w := w) hb
          exact ⟨_, _, by rw [h2, h3]; simp [h1], h⟩
        · exact binV_run h
      · split at h
        · rename_i b hb
          obtain ⟨h1, h2, _, h3⟩ := run_nilCmp (w := w) hb
          exact ⟨_, _, by rw [h2, h3]; simp [h1], h⟩
        · exact binV_run h
      · exact binV_run h
    obtain ⟨v, w', hr, hk⟩ := key
    refine wp_of_value hK ⟨v, w', ?_, hk⟩
    simp only [execOp, hop]
    have e : (do let v ← (do eqGuard op t x y (ev s x) (ev s y); binOp op t (ev s x) (ev s y) : Sem Value); pure (Next.value v) : Sem Next).run P w = .ok (.value v) w' := by
      rw [Sem.run_bind, hr]; simp
    exact e
  case h_12 op t x hop =>
    split at h
    · rename_i k n hx
      exact wp_of_value hK ⟨_, _, by simp [execOp, hop, hx, Op.unary, Op.intArith], h⟩
    · rename_i k n hx
      exact wp_of_value hK ⟨_, _, by simp [execOp, hop, hx, Op.unary, intBits_xor], h⟩
    · rename_i b hx
      exact wp_of_value hK ⟨_, _, by simp [execOp, hop, hx, Op.unary], h⟩
    · exact h.elim
  case h_13 src dst x hop =>
    split at h
    · rename_i k n k1 k' hx hs hd
      exact wp_of_value hK ⟨_, _, by simp [execOp, hop, hx, convert, run_underlying (kindT_int hs), run_underlying (kindT_int hd), Conv.intToInt], h⟩
    · rename_i str hx hs hd
      exact wp_of_value hK ⟨_, _, by simp [execOp, hop, hx, convert, run_underlying (kindT_str hs), run_underlying (kindT_str hd)], h⟩
    · rename_i a n c e hx hs hd
      split at h
      · rename_i he
        obtain ⟨bs, hb, h⟩ := h
        exact wp_of_value hK ⟨_, _, by simp [execOp, hop, hx, convert, run_underlying (kindT_slice hs), run_underlying (kindT_str hd), run_underlying (kindT_int he), run_bytes_of hb], h⟩
      · exact h.elim
    · obtain ⟨v, w', hr, hk⟩ := runK_get h
      exact wp_of_value hK ⟨_, _, by simp [execOp, hop, hr], hk⟩
  case h_14 t x hop =>
    split at h
    · rename_i hc
      exact wp_of_value hK ⟨_, _, by simp [execOp, hop, run_makeInterface w t _ hc], h⟩
    · exact h.elim
  case h_15 fn first captured hop =>
    exact wp_of_value hK ⟨_, _, by simp [execOp, hop, Instr.makeFunc, evs_arr], h⟩
  case h_16 t r hop =>
    split at h
    · exact wp_of_value hK ⟨_, _, by simp [execOp, hop, Instr.makeMap, newObj, Sem.run], h _ _ rfl rfl⟩
    · exact h.elim
  case h_17 t l c hop =>
    obtain ⟨v, w', hr, hk⟩ := runK_get h
    exact wp_of_value hK ⟨_, _, by simp [execOp, hop, hr], hk⟩
  case h_18 t x lo hi mx hop =>
    split at h
    · rename_i str ht hx
      split at h
      · obtain ⟨v, hv, hk⟩ := sliceStrV_run (P := P) (kindT_str ht) h
        exact wp_of_value hK ⟨_, _, by simp [execOp, hop, hx, run_sliceAt_string w t _ _ _ _ (kindT_str ht), hv], hk⟩
      · exact h.elim
    · rename_i e a len cap ht hx
      split at h
      · rename_i i hi'
        obtain ⟨v, hv, hk⟩ := sliceSlV_run (P := P) (kindT_slice ht) hi' h
        have hel : P.elem t = e := by simp [Program.elem, kindT_slice ht]
        exact wp_of_value hK ⟨_, _, by simp [execOp, hop, hx, run_sliceAt_slice w t _ _ _ _ (by rw [hel]; exact kindT_slice ht), hv], hk⟩
      · exact h.elim
    · rename_i n e q ht hx
      split at h
      · split at h
        · rename_i i hi'
          obtain ⟨p, rfl, hh⟩ := someV_iff.1 h
          exact wp_of_value hK ⟨_, _, by simp [execOp, hop, hx, Instr.sliceAt, run_underlying (kindT_array ht), Instr.sureAddr, Instr.sliceBounds, run_sizeOf_of hi', Addr.add_zero'], hh⟩
        · exact h.elim
      · exact h.elim
    · exact h.elim
  case h_19 t x f hop =>
    split at h
    · rename_i fs hfs
      split at h
      · rename_i fl hfl
        split at h
        · rename_i i hi
          split at h
          · rename_i q hs hx
            obtain ⟨p, rfl, hh⟩ := someV_iff.1 h
            have h0 : ¬ i.size = 0 := fun e => by rw [e] at hs; cases hs
            rw [fieldO_eq] at hfl
            exact wp_of_value hK ⟨_, _, by simp [execOp, hop, hx, Instr.fieldAt, run_underlying (fieldsT_eq hfs), hfl, Instr.sureAddr, fieldPlace, run_sizeOf_of hi, h0], hh⟩
          · exact h.elim
        · exact h.elim
      · exact h.elim
    · exact h.elim
  case h_20 t x f hop =>
    split at h
    · rename_i fs cs hfs hx
      split at h
      · rename_i fl hfl
        split at h
        · rename_i i hi
          rw [fieldO_eq] at hfl
          obtain ⟨v, hv, hk⟩ := partV_run hi h
          exact wp_of_value hK ⟨_, _, by simp [execOp, hop, hx, Instr.field, run_underlying (fieldsT_eq hfs), hfl, asAgg, hv], hk⟩
        · exact h.elim
      · exact h.elim
    · exact h.elim
  case h_21 t x i hop =>
    split at h
    · rename_i e a len c k n ht hx hi
      split at h
      · rename_i inf hinf
        obtain ⟨p, rfl, hb, hh⟩ := someV_iff.1 h
        have hel : P.elem t = e := by simp [Program.elem, kindT_slice ht]
        have hr := run_indexAt_slice (P := P) w t p len c k n (by rw [hel]; exact kindT_slice ht)
        rw [if_pos hb, hel, run_sizeOf_of hinf] at hr
        exact wp_of_value hK ⟨_, _, by simp [execOp, hop, hx, hi, hr], hh⟩
      · exact h.elim
    · rename_i len e q k n ht hx hi
      split at h
      · rename_i inf hinf
        obtain ⟨p, rfl, hb, hh⟩ := someV_iff.1 h
        have hel : P.elem t = e := by simp [Program.elem, kindT_array ht]
        have hal : P.arrayLen t = len := by simp [Program.arrayLen, kindT_array ht]
        have hr := run_indexAt_array (P := P) w t p k n (by rw [hel, hal]; exact kindT_array ht)
        rw [hal, if_pos hb, hel, run_sizeOf_of hinf] at hr
        exact wp_of_value hK ⟨_, _, by simp [execOp, hop, hx, hi, hr], hh⟩
      · exact h.elim
    · exact h.elim
  case h_22 t x i hop =>
    split at h
    · rename_i str k n ht hx hi
      obtain ⟨⟨h0, h1⟩, h⟩ := h
      have hlt : n.toNat < str.size := by omega
      have e : str[n.toNat]? = some (byteAt str n.toNat) := by
        rw [getElem?_pos str n.toNat hlt]
        have hlt' : n.toNat < str.data.size := hlt
        simp only [byteAt, Array.getD, dif_pos hlt']
        rfl
      exact wp_of_value hK ⟨_, _, by simp [execOp, hop, hx, hi, Instr.index, asIntOf, run_underlying (kindT_str ht), h0, e], h⟩
    · exact h.elim
  case h_23 t m k ok hop =>
    obtain ⟨v, w', hr, hk⟩ := runK_get h
    exact wp_of_value hK ⟨_, _, by simp [execOp, hop, hr], hk⟩
  case h_24 t m k x hop =>
    obtain ⟨w', hr, hk⟩ := unitV_get h
    exact wp_of_skip hK ⟨_, by simp [execOp, hop, hr], hk⟩
  case h_25 t m k x hop =>
    obtain ⟨w', hr, hk⟩ := unitV_get h
    exact wp_of_skip hK ⟨_, by simp [execOp, hop, hr], hk⟩
  case h_26 t m k hop =>
    obtain ⟨v, w', hr, hk⟩ := runK_get h
    exact wp_of_value hK ⟨_, _, by simp [execOp, hop, hr], hk⟩
  case h_27 t m st x hop =>
    obtain ⟨w', hr, hk⟩ := unitV_get h
    exact wp_of_skip hK ⟨_, by simp [execOp, hop, hr], hk⟩
  case h_28 t x hop =>
    split at h
    · rename_i q ht hx
      obtain ⟨k, e, hu⟩ := kindT_map ht
      cases q with
      | none => exact wp_of_value hK ⟨_, _, by simp [execOp, hop, hx, Instr.range, run_underlying hu, newObj, Sem.run], h _ _ rfl rfl⟩
      | some m =>
        obtain ⟨es, clk, hm, hh⟩ := h
        exact wp_of_value hK ⟨_, _, by simp [execOp, hop, hx, Instr.range, run_underlying hu, newObj, getObj, Sem.run, hm], hh _ _ rfl rfl⟩
    · exact h.elim
  case h_29 it b hop =>
    obtain ⟨v, w', hr, hk⟩ := nextMapV_get h
    exact wp_of_value hK ⟨_, _, by simp [execOp, hop, hr], hk⟩
  case h_30 it hop =>
    obtain ⟨v, w', hr, hk⟩ := runK_get h
    exact wp_of_value hK ⟨_, _, by simp [execOp, hop, hr], hk⟩
  case h_31 x t a ok hop =>
    obtain ⟨v, w', hr, hk⟩ := runK_get h
    exact wp_of_value hK ⟨_, _, by simp [execOp, hop, hr], hk⟩
  case h_32 t i hop =>
    split at h
    · rename_i vs hx
      split at h
      · rename_i v hv
        rw [nthO_eq] at hv
        exact wp_of_value hK ⟨_, _, by simp [execOp, hop, hx, Instr.extract, ← Array.getElem?_toList, hv], h⟩
      · exact h.elim
    · exact h.elim
  case h_33 c hop =>
    split at h
    · rename_i b hc
      obtain ⟨v, w', hr, hk⟩ := builtinV_run (consts := c.args.map fun | .const _ => true | _ => false) h
      rw [← evs_arr s c.args] at hr
      exact wp_of_value hK ⟨_, _, by simp [execOp, hop, resolve, hc, invoke]; exact hr, hk⟩
    · rename_i f hc
      split at h
      · rename_i g
        have hargs : (evs s c.args.toList).toArray = c.args.map (ev s) := by
          apply Array.ext'; simp [evs_eq]
        have hf : ev s (.func g) = .func (.func g) #[] #[] := rfl
        split at h
        · refine wp_of_call hK h fun fn hfn hb hn => ?_
          rw [hargs]
          simp only [beq_eq_false_iff_ne] at hn
          simp [execOp, hop, resolve, hc, hf, Deferred.ofValue, invoke, callFunc, program, Sem.run, hfn, hn, Option.isNone_iff_eq_none, Option.isSome_iff_ne_none.1 hb]
        · unfold externV at h
          split at h
          · rename_i v w' hr
            have hk := typedV_get h
            rw [hargs] at hr
            exact wp_of_value hK ⟨_, _, by simp [execOp, hop, resolve, hc, hf, Deferred.ofValue, invoke, hr], hk⟩
          · exact h.elim
      · obtain ⟨g, first, captured, hf, h⟩ := funcV_get h
        have hargs : (first.toList ++ evs s c.args.toList ++ captured.toList).toArray = first ++ c.args.map (ev s) ++ captured := by
          apply Array.ext'; simp [evs_eq]
        refine wp_of_call hK h fun fn hfn hb hn => ?_
        rw [hargs]
        simp only [beq_eq_false_iff_ne] at hn
        simp [execOp, hop, resolve, hc, hf, Deferred.ofValue, invoke, callFunc, program, Sem.run, hfn, hn, Option.isNone_iff_eq_none, Option.isSome_iff_ne_none.1 hb]
    · exact h.elim
  case h_34 => exact h.elim
end

/-! ### Operations in a row -/
def dstAt : List Oper → Nat → Option Nat
  | [], _ => none
  | o :: _, 0 => o.dst
  | _ :: l, n + 1 => dstAt l n
theorem dstAt_eq : ∀ (l : List Oper) (n : Nat), dstAt l n = (l[n]?).bind (·.dst)
  | [], _ => by simp [dstAt]
  | _ :: _, 0 => by simp [dstAt]
  | _ :: l, n + 1 => by simp [dstAt, dstAt_eq l n]
def guardV (all : List Oper) (s : List Value) (j : Nat) (want : Bool) (run skip : List Value → Prop) : Prop :=
  match dstAt all j with
  | some d => (match nth s d with
    | .bool b => (match want with | true => boolV b (run (put s d (.bool true))) (skip (put s d (.bool false))) | false => boolV b (skip (put s d (.bool true))) (run (put s d (.bool false))))
    | _ => skip s)
  | none => skip s
/-- What kinds an entry's parts are: by who takes them out. -/
def partType (d : Option Nat) (i : Nat) : List Oper → Option TypeId
  | [] => none
  | o :: l => match o.op, d with
    | .extract (.tmp t) j, some d => (match Nat.beq t d && Nat.beq i j with | true => some o.type | false => partType (some d) i l)
    | _, d => partType d i l
def exT (P : Program) (t : Option TypeId) (K : Value → Prop) : Prop :=
  match t with
  | none => ∃ v, K v
  | some t => (match zeroOf P t with | some z => exVal z K | none => False)
theorem exT_get {P : Program} {t : Option TypeId} {K : Value → Prop} (h : exT P t K) : ∃ v, K v := by
  unfold exT at h
  split at h
  · exact h
  · split at h
    · exact exVal_get h
    · exact h.elim
def entryV (P : Program) (it : Value) (t0 t1 : Option TypeId) (w : World) (K : Value → World → Prop) : Prop :=
  runV P (Instr.entry it) w (fun v w' => exT P t0 (fun k => exT P t1 (fun e => v = .tuple #[k, e] ∧ K (.tuple #[k, e]) w')))
def isEntry : Op → Option Operand
  | .entry it => some it
  | _ => none
def opsV (P : Program) (all : List Oper) : List Oper → (List Value → World → Prop) → List Value → World → Prop
  | [], K, s, w => K s w
  | o :: rest, K, s, w => match o.guard with
    | none => (match isEntry o.op with
      | some it => entryV P (ev s it) (partType o.dst 0 rest) (partType o.dst 1 rest) w (fun v w' => opsV P all rest K (putO s o.dst v) w')
      | none => opV P o s w (fun v w' => opsV P all rest K (putO s o.dst v) w'))
    | some (j, want) => guardV all s j want (fun s => opV P o s w (fun v w' => opsV P all rest K (putO s o.dst v) w')) (fun s => opsV P all rest K (putO s o.dst undef) w)
theorem entryV_wp {P : Program} {o : Oper} {s : List Value} {w : World} {K : Value → World → Prop} {K' : Act → World → Prop} {Q : Exit → Act → World → Prop} {it : Operand} {t0 t1 : Option TypeId}
    (hK : ∀ v w', K v w' → K' (act (putO s o.dst v)) w') (ho : isEntry o.op = some it) (h : entryV P (ev s it) t0 t1 w K) : o.wp P (act s) w K' Q := by
  have hop : o.op = .entry it := by
    unfold isEntry at ho
    split at ho
    · rename_i x hx; cases ho; exact hx
    · cases ho
  unfold entryV runV at h
  split at h
  · rename_i v w' hr
    obtain ⟨k, h⟩ := exT_get h
    obtain ⟨e, rfl, hk⟩ := exT_get h
    exact wp_of_value hK ⟨_, _, by simp [execOp, hop, hr], hk⟩
  · exact h.elim
theorem put_same : ∀ (s : List Value) (d : Nat) (v : Value), nth s d = v → d < s.length → put s d v = s
  | [], _, _, _, _ => rfl
  | u :: l, 0, v, h, _ => by simp only [nth] at h; rw [put, h]
  | u :: l, d + 1, v, h, hd => by rw [put, put_same l d v h (by simpa using hd)]
theorem nth_lt {s : List Value} {d : Nat} {b : Bool} (h : nth s d = .bool b) : d < s.length := by
  rw [nth_eq] at h
  by_cases hd : d < s.length
  · exact hd
  · simp [List.getD, List.getElem?_eq_none (Nat.le_of_not_lt hd), undef] at h
theorem yielded_of {all : List Oper} {s : List Value} {j : Nat} : yielded all.toArray (act s).tmps j = (match dstAt all j with | some d => (match nth s d with | .bool b => some b | _ => none) | none => none) := by
  unfold yielded
  rw [dstAt_eq]
  simp only [List.getElem?_toArray, act]
  cases hd : (all[j]?).bind (·.dst) with
  | none => simp
  | some d =>
    simp only [Option.bind_some]
    rw [nth_eq, List.getD]
    cases hs : s[d]? with
    | none => simp [undef]
    | some v => cases v <;> simp
section
variable {P : Program}
theorem opsV_wp {all : List Oper} {Q : Exit → Act → World → Prop} {K : List Value → World → Prop} (hK : ∀ s w, K s w → Q .normal (act s) w) :
    ∀ (l : List Oper) (s : List Value) (w : World), opsV P all l K s w → wpList P all.toArray Q l (act s) w
  | [], s, w, h => hK s w h
  | o :: rest, s, w, h => by
    have hrun : ∀ s, opV P o s w (fun v w' => opsV P all rest K (putO s o.dst v) w') → o.wp P (act s) w (wpList P all.toArray Q rest) Q :=
      fun s h => opV_wp (fun v w' hk => opsV_wp hK rest _ w' hk) h
    have hskip : ∀ s, opsV P all rest K (putO s o.dst undef) w → wpList P all.toArray Q rest ((act s).put o.dst undef) w := fun s h => by
      rw [act_put]; exact opsV_wp hK rest _ w h
    unfold opsV at h
    unfold wpList
    cases hg : o.guard with
    | none =>
      simp only [hg] at h
      rw [if_pos (by simp [Region.wanted, hg])]
      split at h
      · rename_i it hit
        exact .inl (entryV_wp (fun v w' hk => opsV_wp hK rest _ w' hk) hit h)
      · exact .inl (hrun s h)
    | some g =>
      obtain ⟨j, want⟩ := g
      simp only [hg] at h
      unfold guardV at h
      simp only [Region.wanted, hg]
      split at h
      · rename_i d hd
        split at h
        · rename_i b hb
          have hy : yielded all.toArray (act s).tmps j = some b := by rw [yielded_of, hd]; simp [hb]
          rw [hy]
          have hp : put s d (.bool b) = s := put_same s d _ hb (nth_lt hb)
          cases want
          · obtain ⟨h1, h2⟩ := boolV_iff.1 h
            cases b
            · rw [hp] at h2; simpa using Or.inl (hrun s (h2 rfl))
            · rw [hp] at h1; simpa using hskip s (h1 rfl)
          · obtain ⟨h1, h2⟩ := boolV_iff.1 h
            cases b
            · rw [hp] at h2; simpa using hskip s (h2 rfl)
            · rw [hp] at h1; simpa using Or.inl (hrun s (h1 rfl))
        · rename_i hb
          have hy : yielded all.toArray (act s).tmps j = none := by
            rw [yielded_of, hd]
            cases hn : nth s d <;> first | exact (hb _ hn).elim | simp [hn]
          rw [hy]
          simpa using hskip s h
      · rename_i hd
        have hy : yielded all.toArray (act s).tmps j = none := by rw [yielded_of, hd]
        rw [hy]
        simpa using hskip s h
end

/-! ### Operations that look at no memory -/
def purV (P : Program) (o : Oper) (s : List Value) (K : Value → Prop) : Prop :=
  match o.op with
  | .move x => K (ev s x)
  | .assign x => K (ev s x)
  | .pick c a b => (match ev s c with | .bool t => boolV t (K (ev s a)) (K (ev s b)) | _ => False)
  | .build t parts => (match P.built t (evParts s parts.toList) with | some cells => K (.agg cells) | none => False)
  | .nilCheck x => (match ev s x with
    | .pointer q => someV q (fun p => K (.pointer (some p)))
    | .func (.func f) a b => K (.func (.func f) a b)
    | _ => False)
  | .binOp op t x y _ => (match nilCmp P t y (ev s x), op with
    | some b, .eql => K (.bool b)
    | some b, .neq => K (.bool (!b))
    | _, op => (match ev s x, ev s y with
      | .int k m, .int k' n => (match op with
        | .shl => nonnegV n (K (.int k (shlI k m n)))
        | .shr => nonnegV n (K (.int k (shrI k m n)))
        | op => (match sameK k k' with | true => intOpV op k m n K | false => False))
      | .string m, .string n => strOpV op m n K
      | _, _ => False))
  | .unOp op _ x => (match op, ev s x with
    | .neg, .int k n => K (.int k (k.wrap (0 - n)))
    | .xor, .int k n => K (.int k (Go.bits .xor k (if k.signed then -1 else k.max) n))
    | .not, .bool b => K (.bool (!b))
    | _, _ => False)
  | .convert src dst x => (match ev s x, kindT P src, kindT P dst with
    | .int _ n, .int _, .int k => K (.int k (k.wrap n))
    | .string str, .str, .str => K (.string str)
    | _, _, _ => False)
  | .makeInterface t x => (match P.concrete t with | true => K (.iface t (ev s x)) | false => False)
  | .makeFunc fn first captured => K (.func fn (evs s first.toList).toArray (evs s captured.toList).toArray)
  | .slice t x lo hi mx => (match kindT P t, ev s x with
    | .str, .string str => (match mx with | none => sliceStrV str lo hi s K | some _ => False)
    | .slice e, .slice a len cap => (match P.info? e with | some i => sliceSlV i.size a len cap lo hi mx s K | none => False)
    | _, _ => False)
  | .fieldAddr t x f => (match fieldsT P t with
    | some fs => (match fieldO fs f with
      | some fl => (match P.info? fl.type with
        | some i => (match Nat.beq i.size 0, ev s x with | false, .pointer q => someV q (fun p => K (.pointer (some (p.add fl.offset)))) | _, _ => False)
        | none => False)
      | none => False)
    | none => False)
  | .field t x f => (match fieldsT P t, ev s x with
    | some fs, .agg cs => (match fieldO fs f with | some fl => (match P.info? fl.type with | some _ => partV P fl.type cs.toList fl.offset K | none => False) | none => False)
    | _, _ => False)
  | .indexAddr t x i => (match kindT P t, ev s x, ev s i with
    | .slice e, .slice a len _, .int _ n => (match P.info? e with | some inf => someV a (fun p => (0 ≤ n ∧ n < len) ∧ K (.pointer (some (p.add (n.toNat * inf.size))))) | none => False)
    | .array len e, .pointer q, .int _ n => (match P.info? e with | some inf => someV q (fun p => (0 ≤ n ∧ n < len) ∧ K (.pointer (some (p.add (n.toNat * inf.size))))) | none => False)
    | _, _, _ => False)
  | .index t x i => (match kindT P t, ev s x, ev s i with
    | .str, .string str, .int _ n => (0 ≤ n ∧ n < str.size) ∧ K (.int .u8 (byteAt str n.toNat).toNat)
    | _, _, _ => False)
  | .extract t i => (match ev s t with | .tuple vs => (match nthO vs.toList i with | some v => K v | none => False) | _ => False)
  | .call c => (match c.callee with
    | .builtin b => (match b, evs s c.args.toList, c.argTypes.toList with
      | .len, [.slice _ n _], ty :: _ => (match kindT P ty with | .slice _ => K (.int .i64 n) | _ => False)
      | .len, [.string str], ty :: _ => (match kindT P ty with | .str => K (.int .i64 str.size) | _ => False)
      | .cap, [.slice _ _ n], ty :: _ => (match kindT P ty with | .slice _ => K (.int .i64 n) | _ => False)
      | .max, [.int k a, .int _ b], _ => K (.int k (max2I a b))
      | .min, [.int k a, .int _ b], _ => K (.int k (min2I a b))
      | _, _, _ => False)
    | _ => False)
  | _ => False
set_option maxHeartbeats 1000000 in
theorem purV_run {P : Program} {o : Oper} {s : List Value} {K : Value → Prop} (h : purV P o s K) : ∃ v, (∀ w, (execOp (ev s) o).run P w = .ok (.value v) w) ∧ K v := by
  unfold purV at h
  split at h
  case h_1 x hop => exact ⟨_, fun w => by simp [execOp, hop], h⟩
  case h_2 x hop => exact ⟨_, fun w => by simp [execOp, hop], h⟩
  case h_3 c a b hop =>
    split at h
    · rename_i t ht
      obtain ⟨h1, h2⟩ := boolV_iff.1 h
      cases t
      · exact ⟨ev s b, fun w => by simp [execOp, hop, ht, asBool], h2 rfl⟩
      · exact ⟨ev s a, fun w => by simp [execOp, hop, ht, asBool], h1 rfl⟩
    · exact h.elim
  case h_4 t parts hop =>
    split at h
    · rename_i cells hc
      rw [← evParts_arr] at hc
      exact ⟨_, fun w => by simp [execOp, hop, run_build w t _ cells hc], h⟩
    · exact h.elim
  case h_5 x hop =>
    split at h
    · rename_i q hq
      obtain ⟨p, rfl, hh⟩ := someV_iff.1 h
      exact ⟨_, fun w => by simp [execOp, hop, hq], hh⟩
    · rename_i f a b hq
      exact ⟨_, fun w => by simp [execOp, hop, hq], h⟩
    · exact h.elim
  case h_6 op t x y ty hop =>
    have fin : (∃ v, (∀ w, (do eqGuard op t x y (ev s x) (ev s y); binOp op t (ev s x) (ev s y) : Sem Value).run P w = .ok v w) ∧ K v) → ∃ v, (∀ w, (execOp (ev s) o).run P w = .ok (.value v) w) ∧ K v := by
      rintro ⟨v, hr, hk⟩
      refine ⟨v, fun w => ?_, hk⟩
      simp only [execOp, hop]
      have e : (do let v ← (do eqGuard op t x y (ev s x) (ev s y); binOp op t (ev s x) (ev s y) : Sem Value); pure (Next.value v) : Sem Next).run P w = .ok (.value v) w := by
        rw [Sem.run_bind, hr]; simp
      exact e
    apply fin
    split at h
    · rename_i b hb
      exact ⟨_, fun w => by obtain ⟨h1, h2, h3, _⟩ := run_nilCmp (w := w) hb; rw [h2, h3]; simp [h1], h⟩
    · rename_i b hb
      exact ⟨_, fun w => by obtain ⟨h1, h2, _, h3⟩ := run_nilCmp (w := w) hb; rw [h2, h3]; simp [h1], h⟩
    · split at h
      · rename_i k m k' n hx hy
        rw [hx, hy]
        simp only [eqGuard_at_int]
        split at h
        · obtain ⟨hn, h⟩ := nonnegV_iff.1 h
          refine ⟨_, fun w => ?_, h⟩
          have : ¬ n < 0 := by omega
          simp [binOp, Op.shift, this, shlI]
        · obtain ⟨hn, h⟩ := nonnegV_iff.1 h
          refine ⟨_, fun w => ?_, h⟩
          have : ¬ n < 0 := by omega
          simp [binOp, Op.shift, this, shrI]
        · rename_i hl hr
          split at h
          · rename_i hk
            obtain rfl := sameK_eq hk
            obtain ⟨v, hv, hk⟩ := intOpV_run (P := P) (t := t) h hl hr
            exact ⟨v, fun w => by simpa using hv w, hk⟩
          · exact h.elim
      · rename_i m n hx hy
        rw [hx, hy]
        simp only [eqGuard_at_string]
        obtain ⟨v, hv, hk⟩ := strOpV_run (P := P) (t := t) h
        exact ⟨v, fun w => by simpa using hv w, hk⟩
      · exact h.elim
  case h_7 op t x hop =>
    split at h
    · rename_i k n hx
      exact ⟨_, fun w => by simp [execOp, hop, hx, Op.unary, Op.intArith], h⟩
    · rename_i k n hx
      exact ⟨_, fun w => by simp [execOp, hop, hx, Op.unary, intBits_xor], h⟩
    · rename_i b hx
      exact ⟨_, fun w => by simp [execOp, hop, hx, Op.unary], h⟩
    · exact h.elim
  case h_8 src dst x hop =>
    split at h
    · rename_i k n k1 k' hx hs hd
      exact ⟨_, fun w => by simp [execOp, hop, hx, convert, run_underlying (kindT_int hs), run_underlying (kindT_int hd), Conv.intToInt], h⟩
    · rename_i str hx hs hd
      exact ⟨_, fun w => by simp [execOp, hop, hx, convert, run_underlying (kindT_str hs), run_underlying (kindT_str hd)], h⟩
    · exact h.elim
  case h_9 t x hop =>
    split at h
    · rename_i hc
      exact ⟨_, fun w => by simp [execOp, hop, run_makeInterface w t _ hc], h⟩
    · exact h.elim
  case h_10 fn first captured hop => exact ⟨_, fun w => by simp [execOp, hop, Instr.makeFunc, evs_arr], h⟩
  case h_11 t x lo hi mx hop =>
    split at h
    · rename_i str ht hx
      split at h
      · obtain ⟨v, hv, hk⟩ := sliceStrV_run (P := P) (kindT_str ht) h
        exact ⟨_, fun w => by simp [execOp, hop, hx, run_sliceAt_string w t _ _ _ _ (kindT_str ht), hv], hk⟩
      · exact h.elim
    · rename_i e a len cap ht hx
      split at h
      · rename_i i hi'
        obtain ⟨v, hv, hk⟩ := sliceSlV_run (P := P) (kindT_slice ht) hi' h
        have hel : P.elem t = e := by simp [Program.elem, kindT_slice ht]
        exact ⟨_, fun w => by simp [execOp, hop, hx, run_sliceAt_slice w t _ _ _ _ (by rw [hel]; exact kindT_slice ht), hv], hk⟩
      · exact h.elim
    · exact h.elim
  case h_12 t x f hop =>
    split at h
    · rename_i fs hfs
      split at h
      · rename_i fl hfl
        split at h
        · rename_i i hi
          split at h
          · rename_i q hs hx
            obtain ⟨p, rfl, hh⟩ := someV_iff.1 h
            have h0 : ¬ i.size = 0 := fun e => by rw [e] at hs; cases hs
            rw [fieldO_eq] at hfl
            exact ⟨_, fun w => by simp [execOp, hop, hx, Instr.fieldAt, run_underlying (fieldsT_eq hfs), hfl, Instr.sureAddr, fieldPlace, run_sizeOf_of hi, h0], hh⟩
          · exact h.elim
        · exact h.elim
      · exact h.elim
    · exact h.elim
  case h_13 t x f hop =>
    split at h
    · rename_i fs cs hfs hx
      split at h
      · rename_i fl hfl
        split at h
        · rename_i i hi
          rw [fieldO_eq] at hfl
          obtain ⟨v, hv, hk⟩ := partV_run hi h
          exact ⟨_, fun w => by simp [execOp, hop, hx, Instr.field, run_underlying (fieldsT_eq hfs), hfl, asAgg, hv], hk⟩
        · exact h.elim
      · exact h.elim
    · exact h.elim
  case h_14 t x i hop =>
    split at h
    · rename_i e a len c k n ht hx hi
      split at h
      · rename_i inf hinf
        obtain ⟨p, rfl, hb, hh⟩ := someV_iff.1 h
        have hel : P.elem t = e := by simp [Program.elem, kindT_slice ht]
        refine ⟨_, fun w => ?_, hh⟩
        have hr := run_indexAt_slice (P := P) w t p len c k n (by rw [hel]; exact kindT_slice ht)
        rw [if_pos hb, hel, run_sizeOf_of hinf] at hr
        simp [execOp, hop, hx, hi, hr]
      · exact h.elim
    · rename_i len e q k n ht hx hi
      split at h
      · rename_i inf hinf
        obtain ⟨p, rfl, hb, hh⟩ := someV_iff.1 h
        have hel : P.elem t = e := by simp [Program.elem, kindT_array ht]
        have hal : P.arrayLen t = len := by simp [Program.arrayLen, kindT_array ht]
        refine ⟨_, fun w => ?_, hh⟩
        have hr := run_indexAt_array (P := P) w t p k n (by rw [hel, hal]; exact kindT_array ht)
        rw [hal, if_pos hb, hel, run_sizeOf_of hinf] at hr
        simp [execOp, hop, hx, hi, hr]
      · exact h.elim
    · exact h.elim
  case h_15 t x i hop =>
    split at h
    · rename_i str k n ht hx hi
      obtain ⟨⟨h0, h1⟩, h⟩ := h
      have hlt : n.toNat < str.size := by omega
      have e : str[n.toNat]? = some (byteAt str n.toNat) := by
        rw [getElem?_pos str n.toNat hlt]
        have hlt' : n.toNat < str.data.size := hlt
        simp only [byteAt, Array.getD, dif_pos hlt']
        rfl
      exact ⟨_, fun w => by simp [execOp, hop, hx, hi, Instr.index, asIntOf, run_underlying (kindT_str ht), h0, e], h⟩
    · exact h.elim
  case h_16 t i hop =>
    split at h
    · rename_i vs hx
      split at h
      · rename_i v hv
        rw [nthO_eq] at hv
        exact ⟨_, fun w => by simp [execOp, hop, hx, Instr.extract, ← Array.getElem?_toList, hv], h⟩
      · exact h.elim
    · exact h.elim
  case h_17 c hop =>
    split at h
    · rename_i b hc
      have hx := evs_arr s c.args
      obtain ⟨A, hA⟩ : ∃ A, A = c.argTypes := ⟨_, rfl⟩
      have hA' : c.argTypes = A.toList.toArray := by simp [hA]
      rw [← hA] at h
      split at h
      · rename_i n ty l he ht
        split at h
        · rename_i hk
          exact ⟨_, fun w => by simp [execOp, hop, resolve, hc, invoke, hx, he, hA', ht, builtin, Builtin.len_, run_underlying (kindT_slice hk), goInt], h⟩
        · exact h.elim
      · rename_i n ty l he ht
        split at h
        · rename_i hk
          exact ⟨_, fun w => by simp [execOp, hop, resolve, hc, invoke, hx, he, hA', ht, builtin, Builtin.len_, run_underlying (kindT_str hk), goInt], h⟩
        · exact h.elim
      · rename_i n ty l he ht
        split at h
        · rename_i hk
          exact ⟨_, fun w => by simp [execOp, hop, resolve, hc, invoke, hx, he, hA', ht, builtin, Builtin.cap_, run_underlying (kindT_slice hk), goInt], h⟩
        · exact h.elim
      · rename_i k a k' b he
        exact ⟨_, fun w => by simp [execOp, hop, resolve, hc, invoke, hx, he, builtin, Builtin.max_, Builtin.max2, max2I], h⟩
      · rename_i k a k' b he
        exact ⟨_, fun w => by simp [execOp, hop, resolve, hc, invoke, hx, he, builtin, Builtin.min_, Builtin.min2, min2I], h⟩
      · exact h.elim
    · exact h.elim
  case h_18 => exact h.elim
end Go.Proofs.YtcofknlcdgidpaaGreatDoor.VC
/-! ## Vc -/
namespace Go.Proofs.YtcofknlcdgidpaaGreatDoor.VC
open Go

/-! ### A region that draws its order, all of whose operations only read or call quietly: what each says in every world of a class -/
def loadQ (P : Program) (t : TypeId) (C : World → Prop) (p : Addr) (K : Value → Prop) : Prop :=
  match zeroOf P t with
  | some (.agg cs) => (match aggT P t, Nat.beq cs.size (sizeT P t) with | some true, true => exCells cs.toList (fun l => (∀ w, C w → ReadsL w p 0 l) ∧ K (.agg l.toArray)) | _, _ => False)
  | some z => (match aggT P t with | some false => exCell z (fun v => (∀ w, C w → w.cell? p = some v) ∧ K v) | _ => False)
  | none => False
def callQ (P : Program) (g : FuncId) (t : TypeId) (args : List Value) (C : World → Prop) (K : Value → Prop) : Prop :=
  match zeroOf P t with
  | some z => goodCall P g (exRes z (fun v => (∀ w, C w → Calls P g args.toArray w (fun e w' => e = .returned v ∧ C w')) ∧ K v))
  | none => False
def opQ (P : Program) (o : Oper) (s : List Value) (C : World → Prop) (K : Value → Prop) : Prop :=
  match o.op with
  | .load t x => (match ev s x with | .pointer q => someV q (fun p => loadQ P t C p K) | _ => False)
  | .call c => (match c.callee with
    | .builtin _ => purV P o s K
    | .value f => funcV (ev s f) (fun g first captured => callQ P g o.type (first.toList ++ evs s c.args.toList ++ captured.toList) C K)
    | .invoke _ _ => False)
  | _ => purV P o s K
def opsQ (P : Program) (all : List Oper) (C : World → Prop) : List Oper → (List Value → Prop) → List Value → Prop
  | [], K, s => K s
  | o :: rest, K, s => match o.guard with
    | none => opQ P o s C (fun v => opsQ P all C rest K (putO s o.dst v))
    | some (j, want) => guardV all s j want (fun s => opQ P o s C (fun v => opsQ P all C rest K (putO s o.dst v))) (fun s => opsQ P all C rest K (putO s o.dst undef))
section
variable {P : Program} {C : World → Prop}
theorem quiet_of_pur {o : Oper} {s : List Value} {K : Value → Prop} {K' : Act → Prop} (hK : ∀ v, K v → K' (act (putO s o.dst v))) (h : purV P o s K) : o.quiet P (act s) C K' := by
  obtain ⟨v, hr, hk⟩ := purV_run h
  refine ⟨v, fun w _ => ?_, by rw [act_put]; exact hK v hk⟩
  unfold Oper.quietAt
  rw [act_eval', hr w]
  exact ⟨rfl, rfl⟩
theorem opQ_quiet {o : Oper} {s : List Value} {K : Value → Prop} {K' : Act → Prop} (hK : ∀ v, K v → K' (act (putO s o.dst v))) (h : opQ P o s C K) : o.quiet P (act s) C K' := by
  unfold opQ at h
  split at h
  · rename_i t x hop
    split at h
    · rename_i q hq
      obtain ⟨p, rfl, hh⟩ := someV_iff.1 h
      unfold loadQ at hh
      split at hh
      · rename_i cs hz
        obtain ⟨i, hi, hiz⟩ := zeroOf_info hz
        split at hh
        · rename_i ha hn
          obtain ⟨l, hl, hr, hk⟩ := exCells_get hh
          have hs : cs.size = i.size := by simpa [sizeT, hi] using hn
          have hl' : l.length = i.size := by simp [hl, hs]
          refine ⟨_, fun w hw => ?_, by rw [act_put]; exact hK _ hk⟩
          unfold Oper.quietAt
          rw [act_eval']
          simp [execOp, hop, hq, Instr.loadAt, Instr.sureAddr, loadVar, run_isAgg_of ha, run_sizeOf_of hi, loadCells, ← hl', run_loadCells_of w p l 0 #[] (hr w hw), Oper.quietUpon]
        · exact hh.elim
      · rename_i z hz _
        split at hh
        · rename_i ha
          obtain ⟨v, hv, hk⟩ := exCell_get hh
          refine ⟨_, fun w hw => ?_, by rw [act_put]; exact hK _ hk⟩
          unfold Oper.quietAt
          rw [act_eval']
          simp [execOp, hop, hq, Instr.loadAt, Instr.sureAddr, loadVar, run_isAgg_of ha, hv w hw, Oper.quietUpon]
        · exact hh.elim
      · exact hh.elim
    · exact h.elim
  · rename_i c hop
    split at h
    · exact quiet_of_pur hK h
    · rename_i f hc
      obtain ⟨g, first, captured, hf, h⟩ := funcV_get h
      have hargs : (first.toList ++ evs s c.args.toList ++ captured.toList).toArray = first ++ c.args.map (ev s) ++ captured := by
        apply Array.ext'; simp [evs_eq]
      unfold callQ at h
      split at h
      · rename_i z hz
        unfold goodCall at h
        split at h
        · rename_i hcl
          obtain ⟨v, hv, hk⟩ := exRes_get h
          unfold callable at hcl
          split at hcl
          · rename_i fn hfn
            split at hcl
            · rename_i cd hb
              have hn : ¬ fn.name = "runtime.NumGoroutine" := by simpa using hcl
              refine ⟨v, fun w hw => ?_, by rw [act_put]; exact hK _ hk⟩
              unfold Oper.quietAt
              rw [act_eval']
              have hr : (execOp (ev s) o).run P w = .ok (.enter g (first.toList ++ evs s c.args.toList ++ captured.toList).toArray) w := by
                rw [hargs]
                simp [execOp, hop, resolve, hc, hf, Deferred.ofValue, invoke, callFunc, program, Sem.run, hfn, hn, hb]
              rw [hr]
              exact ⟨rfl, hv w hw⟩
            · cases hcl
          · cases hcl
        · exact h.elim
      · exact h.elim
    · exact h.elim
  · exact quiet_of_pur hK h
theorem opsQ_quiet {all : List Oper} {Q : Act → Prop} {K : List Value → Prop} (hK : ∀ s, K s → Q (act s)) :
    ∀ (l : List Oper) (s : List Value), opsQ P all C l K s → wpQuiet P all.toArray C Q l (act s)
  | [], s, h => hK s h
  | o :: rest, s, h => by
    have hrun : ∀ s, opQ P o s C (fun v => opsQ P all C rest K (putO s o.dst v)) → o.quiet P (act s) C (wpQuiet P all.toArray C Q rest) :=
      fun s h => opQ_quiet (fun v hk => opsQ_quiet hK rest _ hk) h
    have hskip : ∀ s, opsQ P all C rest K (putO s o.dst undef) → wpQuiet P all.toArray C Q rest ((act s).put o.dst undef) := fun s h => by
      rw [act_put]; exact opsQ_quiet hK rest _ h
    unfold opsQ at h
    unfold wpQuiet
    cases hg : o.guard with
    | none =>
      simp only [hg] at h
      rw [if_pos (by simp [Region.wanted, hg])]
      exact hrun s h
    | some g =>
      obtain ⟨j, want⟩ := g
      simp only [hg] at h
      unfold guardV at h
      simp only [Region.wanted, hg]
      split at h
      · rename_i d hd
        split at h
        · rename_i b hb
          have hy : yielded all.toArray (act s).tmps j = some b := by rw [yielded_of, hd]; simp [hb]
          rw [hy]
          have hp : put s d (.bool b) = s := put_same s d _ hb (nth_lt hb)
          cases want
          · obtain ⟨h1, h2⟩ := boolV_iff.1 h
            cases b
            · rw [hp] at h2; simpa using hrun s (h2 rfl)
            · rw [hp] at h1; simpa using hskip s (h1 rfl)
          · obtain ⟨h1, h2⟩ := boolV_iff.1 h
            cases b
            · rw [hp] at h2; simpa using hskip s (h2 rfl)
            · rw [hp] at h1; simpa using hrun s (h1 rfl)
        · rename_i hb
          have hy : yielded all.toArray (act s).tmps j = none := by
            rw [yielded_of, hd]
            cases hn : nth s d <;> first | exact (hb _ hn).elim | simp [hn]
          rw [hy]
          simpa using hskip s h
      · rename_i hd
        have hy : yielded all.toArray (act s).tmps j = none := by rw [yielded_of, hd]
        rw [hy]
        simpa using hskip s h
end

/-! ### A region that draws its order, whatever is in it: what only reckons, or reads what a class of worlds holds fast, is taken first; of the rest every order is asked -/
def takable (P : Program) (o : Oper) : Bool :=
  match o.op with
  | .move _ | .assign _ | .pick _ _ _ | .build _ _ | .nilCheck _ | .unOp _ _ _ | .makeInterface _ _ | .makeFunc _ _ _ | .fieldAddr _ _ _ | .field _ _ _ | .indexAddr _ _ _ | .index _ _ _ | .extract _ _ | .load _ _ => true
  | .binOp _ t _ _ _ => (match kindT P t with | .int _ | .str | .ptr _ | .slice _ | .map | .func => true | _ => false)
  | .convert src dst _ => (match kindT P src, kindT P dst with | .int _, .int _ => true | .str, .str => true | _, _ => false)
  | .slice t _ _ _ _ => (match kindT P t with | .str | .slice _ => true | _ => false)
  | .call c => (match c.callee with
    | .builtin .len => (match c.argTypes.toList with | t :: _ => (match kindT P t with | .map => false | _ => true) | [] => false)
    | .builtin .cap | .builtin .max | .builtin .min => true
    | _ => false)
  | _ => false
def pickFirst (P : Program) (ops : Array Oper) (listed : Array Bool) : List Nat → Option Nat
  | [] => none
  | i :: rs => match ops[i]? with
    | some o => (match takable P o && Region.free .any ops listed i with | true => some i | false => pickFirst P ops listed rs)
    | none => pickFirst P ops listed rs
def opS (P : Program) (o : Oper) (s : List Value) (S : World → Prop) (K : Value → Prop) : Prop :=
  match o.op with
  | .load t x => (match ev s x with | .pointer q => someV q (fun p => loadQ P t S p K) | _ => False)
  | _ => purV P o s K
def takeV (P : Program) (all : List Oper) (o : Oper) (S : World → Prop) (s : List Value) (K : List Value → Prop) : Prop :=
  match o.guard with
  | none => opS P o s S (fun v => K (putO s o.dst v))
  | some (j, want) => guardV all s j want (fun s => opS P o s S (fun v => K (putO s o.dst v))) (fun s => K (putO s o.dst undef))
def stepV (P : Program) (all : List Oper) (o : Oper) (S : World → Prop) (s : List Value) (w : World) (K : List Value → World → Prop) : Prop :=
  match o.guard with
  | none => opV P o s w (fun v w' => S w' ∧ K (putO s o.dst v) w')
  | some (j, want) => guardV all s j want (fun s => opV P o s w (fun v w' => S w' ∧ K (putO s o.dst v) w')) (fun s => K (putO s o.dst undef) w)
def allV (f : Nat → Prop) : List Nat → Prop
  | [] => True
  | [i] => f i
  | i :: rs => f i ∧ allV f rs
theorem allV_mem {f : Nat → Prop} : ∀ {rs : List Nat}, allV f rs → ∀ i ∈ rs, f i
  | [], _, i, hi => by cases hi
  | [j], h, i, hi => by simp only [List.mem_singleton] at hi; subst hi; exact h
  | j :: k :: rs, h, i, hi => by
    rcases List.mem_cons.1 hi with rfl | hi
    · exact h.1
    · exact allV_mem h.2 i hi
/-- What comes ahead of an operation for sure: of what it names, what that names, and so on. -/
def markL (md : Region.Mode) : List Edge → Array Bool → Array Bool
  | [], m => m
  | e :: r, m => markL md r (match Region.binds md e with | true => m.setIfInBounds e.on true | false => m)
def marks (md : Region.Mode) (ops : Array Oper) : Nat → Array Bool → Array Bool
  | 0, m => m
  | k + 1, m => marks md ops k (match m.getD k false with | true => (match ops[k]? with | some o => markL md o.after.toList m | none => m) | false => m)
def allIn (listed m : Array Bool) (j : Nat) : List Nat → Bool
  | [] => true
  | k :: r => match k == j || !(listed.getD k false) || m.getD k false with | true => allIn listed m j r | false => false
/-- A store, ahead of which all that is listed has come for sure: behind it nothing that was read counts any more. -/
def barrier (md : Region.Mode) (ops : Array Oper) (listed : Array Bool) (j : Nat) : Bool :=
  match ops[j]? with
  | some oj => (match oj.op with | .store _ _ _ => true | .mapUpdate _ _ _ _ => true | _ => (List.range ops.size).all (fun k => k == j || listed.getD k false)) && allIn listed (marks md ops ops.size (markL md oj.after.toList (Array.replicate ops.size false))) j (List.range ops.size)
  | none => false
def stepB (P : Program) (all : List Oper) (o : Oper) (s : List Value) (w : World) (K : List Value → World → Prop) : Prop :=
  match o.guard with
  | none => opV P o s w (fun v w' => K (putO s o.dst v) w')
  | some (j, want) => guardV all s j want (fun s => opV P o s w (fun v w' => K (putO s o.dst v) w')) (fun s => K (putO s o.dst undef) w)
def heldV (P : Program) (ops : Array Oper) (K : List Value → World → Prop) : Nat → (World → Prop) → Array Bool → List Value → World → Prop
  | 0, _, listed, s, w => (match Region.ready .any ops listed with | [] => K s w | _ :: _ => False)
  | n + 1, S, listed, s, w => (match Region.ready .any ops listed with
    | [] => K s w
    | r :: rs => (match pickFirst P ops listed (r :: rs) with
      | some i => (match ops[i]? with | some o => takeV P ops.toList o S s (fun s' => heldV P ops K n S (listed.setIfInBounds i true) s' w) | none => False)
      | none => allV (fun i => match ops[i]? with
        | some o => (match barrier .any ops listed i with
          | true => stepB P ops.toList o s w (fun s' w' => match Region.ready .any ops (listed.setIfInBounds i true) with
            | [] => K s' w'
            | _ :: _ => ∃ S' : World → Prop, S' w' ∧ heldV P ops K n S' (listed.setIfInBounds i true) s' w')
          | false => stepV P ops.toList o S s w (fun s' w' => heldV P ops K n S (listed.setIfInBounds i true) s' w'))
        | none => False) (r :: rs)))
section
variable {P : Program} {ops : Array Oper} {Q : Exit → Act → World → Prop} {md : Region.Mode} {S : World → Prop}
/-- All that a listed operation comes behind is listed. -/
def Closed (md : Region.Mode) (ops : Array Oper) (listed : Array Bool) : Prop := ∀ (k : Nat) (o : Oper), ops[k]? = some o → listed.getD k false = true → ∀ e ∈ o.after, Region.binds md e = true → listed.getD e.on false = true
theorem closed_none (n : Nat) : Closed md ops (Array.replicate n false) := by
  intro k o _ hl
  by_cases h : k < n <;> simp [h] at hl
theorem closed_set {listed : Array Bool} {i : Nat} (h : Closed md ops listed) (hi : i ∈ Region.ready md ops listed) : Closed md ops (listed.setIfInBounds i true) := by
  intro k o hk hl e he hb
  apply getD_set_true
  by_cases hik : i = k
  · subst hik
    obtain ⟨_, o', ho', hall⟩ := mem_ready.1 hi
    rw [hk] at ho'; cases ho'
    exact hall e he hb
  · rw [getD_set_ne false hik] at hl
    exact h k o hk hl e he hb
theorem markL_spec {listed : Array Bool} : ∀ (l : List Edge) (m : Array Bool), (∀ e ∈ l, Region.binds md e = true → listed.getD e.on false = true) → (∀ i, m.getD i false = true → listed.getD i false = true) →
    ∀ i, (markL md l m).getD i false = true → listed.getD i false = true
  | [], m, _, hm, i, h => hm i h
  | e :: r, m, hl, hm, i, h => by
    refine markL_spec r _ (fun e he => hl e (List.mem_cons_of_mem _ he)) ?_ i h
    intro i hi
    split at hi
    · rename_i hb
      by_cases hei : e.on = i
      · rw [← hei]; exact hl e List.mem_cons_self hb
      · rw [getD_set_ne false hei] at hi; exact hm i hi
    · exact hm i hi
theorem marks_spec {listed : Array Bool} (hc : Closed md ops listed) : ∀ (k : Nat) (m : Array Bool), (∀ i, m.getD i false = true → listed.getD i false = true) →
    ∀ i, (marks md ops k m).getD i false = true → listed.getD i false = true
  | 0, m, hm, i, h => hm i h
  | k + 1, m, hm, i, h => by
    refine marks_spec hc k _ ?_ i h
    intro i hi
    split at hi
    · rename_i hk
      split at hi
      · rename_i o ho
        exact markL_spec _ _ (fun e he hb => hc k o ho (hm k hk) e (by simpa using he) hb) hm i hi
      · exact hm i hi
    · exact hm i hi
theorem allIn_spec {listed m : Array Bool} {j : Nat} : ∀ {l : List Nat}, allIn listed m j l = true → ∀ k ∈ l, (k == j || !(listed.getD k false) || m.getD k false) = true
  | [], _, k, hk => by cases hk
  | x :: r, h, k, hk => by
    unfold allIn at h
    split at h
    · rename_i hx
      rcases List.mem_cons.1 hk with rfl | hk
      · exact hx
      · exact allIn_spec h k hk
    · cases h
theorem barrier_spec {listed : Array Bool} {i j : Nat} (hc : Closed md ops listed) (hj : j ∈ Region.ready md ops listed) (h : barrier md ops (listed.setIfInBounds i true) j = true) (hne : i ≠ j) (hi : i < ops.size) (hl : (listed.setIfInBounds i true).getD i false = true) : listed.getD i false = true := by
  obtain ⟨_, oj, hoj, hall⟩ := mem_ready.1 hj
  unfold barrier at h
  rw [hoj] at h
  simp only [Bool.and_eq_true] at h
  have hk := allIn_spec h.2 i (List.mem_range.2 hi)
  rw [hl] at hk
  simp only [Bool.not_true, Bool.or_false, Bool.or_eq_true, beq_iff_eq] at hk
  rcases hk with hk | hk
  · exact absurd hk hne
  · refine marks_spec hc _ _ ?_ i hk
    exact markL_spec _ _ (fun e he hb => hall e (by simpa using he) hb) (fun i h => by
      by_cases hx : i < ops.size <;> simp [hx] at h)
def wpAnyX (P : Program) (md : Region.Mode) (ops : Array Oper) (Q : Exit → Act → World → Prop) (S : World → Prop) : Nat → Array Bool → Act → World → Prop
  | 0, listed, a, w => Region.ready md ops listed = [] ∧ Q .normal a w
  | fuel + 1, listed, a, w =>
    (Region.ready md ops listed = [] → Q .normal a w) ∧
    ∀ i ∈ Region.ready md ops listed, wpOp P ops Q i (fun a' w' => (barrier md ops listed i = true ∧ wpAny P md ops Q fuel (listed.setIfInBounds i true) a' w') ∨ (barrier md ops listed i = false ∧ S w' ∧ wpAnyX P md ops Q S fuel (listed.setIfInBounds i true) a' w')) a w
theorem wpAny_of_X : ∀ (fuel : Nat) (listed : Array Bool) (a : Act) (w : World), wpAnyX P md ops Q S fuel listed a w → wpAny P md ops Q fuel listed a w
  | 0, _, _, _, h => h
  | fuel + 1, _, _, _, h => ⟨h.1, fun i hi => wpOp_mono (fun a' w' h' => by
      rcases h' with ⟨_, h'⟩ | ⟨_, _, h'⟩
      · exact h'
      · exact wpAny_of_X fuel _ a' w' h') (h.2 i hi)⟩
theorem wpAnyX_or {fuel : Nat} {listed listed' : Array Bool} {j : Nat} {a : Act} {w : World} (hS : S w) (h : wpAnyX P md ops Q S fuel listed' a w) :
    (barrier md ops listed j = true ∧ wpAny P md ops Q fuel listed' a w) ∨ (barrier md ops listed j = false ∧ S w ∧ wpAnyX P md ops Q S fuel listed' a w) := by
  cases hb : barrier md ops listed j
  · exact .inr ⟨rfl, hS, h⟩
  · exact .inl ⟨rfl, wpAny_of_X _ _ _ _ h⟩
theorem wpAnyX_first {i : Nat} {oi : Oper} {v : Value} (hi : ops[i]? = some oi) (hsel : ∀ (j : Nat) (o : Oper) cs b, ops[j]? = some o → o.op ≠ .select cs b)
    (hQ : ∀ c a w, Q (.panic c) (a.put oi.dst v) w → Q (.panic c) a w) :
    ∀ (fuel : Nat) (listed : Array Bool) (a : Act) (w : World), Closed md ops listed →
      (∀ j oj, ops[j]? = some oj → j ≠ i → listed.getD j true = false → (∀ e ∈ oj.after, Region.binds md e = true → e.on ≠ i) → oi.apart ops oj = true) →
      i ∈ Region.ready md ops listed → YieldsIf P ops S oi v a → S w →
      wpAnyX P md ops Q S fuel (listed.setIfInBounds i true) (a.put oi.dst v) w → wpAnyX P md ops Q S (fuel + 1) listed a w := by
  intro fuel
  induction fuel with
  | zero =>
    intro listed a w _ _ hr hy hS H
    refine ⟨fun h => (by rw [h] at hr; cases hr), fun j hj => ?_⟩
    by_cases hji : j = i
    · subst hji; exact hy.wpOp hi hS (wpAnyX_or hS H)
    · have := ready_mono hj hji
      rw [H.1] at this
      cases this
  | succ fuel ih =>
    intro listed a w hcl hfree hr hy hS H
    refine ⟨fun h => (by rw [h] at hr; cases hr), fun j hj => ?_⟩
    by_cases hji : j = i
    · subst hji; exact hy.wpOp hi hS (wpAnyX_or hS H)
    · have h1 := H.2 j (ready_mono hj hji)
      obtain ⟨hjun, oj, hoj, hall⟩ := mem_ready.1 hj
      have h0 := (mem_ready.1 hr).1
      have hnot : ∀ e ∈ oj.after, Region.binds md e = true → e.on ≠ i := fun e he hb heq => by
        have h1 := hall e he hb
        rw [heq] at h1
        rcases Nat.lt_or_ge i listed.size with h' | h'
        · simp [h'] at h0 h1; rw [h0] at h1; cases h1
        · simp [Array.getElem?_eq_none h'] at h1
      have hil : i < listed.size := by
        rcases Nat.lt_or_ge i listed.size with h' | h'
        · exact h'
        · simp [Array.getElem?_eq_none h'] at h0
      have hio : i < ops.size := (Array.getElem?_eq_some_iff.1 hi).1
      have hbar : barrier md ops (listed.setIfInBounds i true) j = false := by
        cases hb : barrier md ops (listed.setIfInBounds i true) j
        · rfl
        · have := barrier_spec hcl hj hb (Ne.symm hji) hio (by simp [hil])
          simp [hil] at h0 this
          rw [h0] at this; cases this
      have h1' := wpOp_mono (K' := fun a' w' => S w' ∧ wpAnyX P md ops Q S fuel ((listed.setIfInBounds i true).setIfInBounds j true) a' w') (fun a' w' h' => by
        rcases h' with ⟨h', _⟩ | ⟨_, h'⟩
        · rw [hbar] at h'; cases h'
        · exact h') h1
      have h2 := wpOp_putIf hoj (hfree j oj hoj hji hjun hnot) (fun cs b => hsel i oi cs b hi) (fun cs b => hsel j oj cs b hoj) hQ hy h1'
      have hfree' : ∀ k ok, ops[k]? = some ok → k ≠ i → (listed.setIfInBounds j true).getD k true = false →
          (∀ e ∈ ok.after, Region.binds md e = true → e.on ≠ i) → oi.apart ops ok = true := fun k ok hk hki hun hno => by
        refine hfree k ok hk hki ?_ hno
        by_cases hjk : j = k
        · subst hjk; exact hjun
        · rw [getD_set_ne true hjk] at hun; exact hun
      refine wpOp_mono (fun a' w' h3 => wpAnyX_or h3.2.1 (ih (listed.setIfInBounds j true) a' w' (closed_set hcl hj) hfree' (ready_mono hr (Ne.symm hji)) h3.1 h3.2.1 ?_)) h2
      rw [Array.setIfInBounds_comm _ _ hji]
      exact h3.2.2
theorem wpAnyX_take {i : Nat} {oi : Oper} {v : Value} {fuel : Nat} {listed : Array Bool} {a : Act} {w : World} (hi : ops[i]? = some oi)
    (hs : Region.noSelect ops = true) (hf : Region.free md ops listed i = true) (hr : (Region.ready md ops listed).contains i = true)
    (hQ : ∀ c a w, Q (.panic c) (a.put oi.dst v) w → Q (.panic c) a w) (hcl : Closed md ops listed) (hy : YieldsIf P ops S oi v a) (hS : S w)
    (h : wpAnyX P md ops Q S fuel (listed.setIfInBounds i true) (a.put oi.dst v) w) : wpAnyX P md ops Q S (fuel + 1) listed a w :=
  wpAnyX_first hi (Region.noSelect_spec hs) hQ fuel listed a w hcl (Region.free_spec hi hf) (by simpa using hr) hy hS h
theorem wpAnyX_done {listed : Array Bool} {a : Act} {w : World} (hr : Region.ready md ops listed = []) (h : Q .normal a w) : ∀ fuel, wpAnyX P md ops Q S fuel listed a w
  | 0 => ⟨hr, h⟩
  | _ + 1 => ⟨fun _ => h, by rw [hr]; simp⟩
theorem wpAny_done {listed : Array Bool} {a : Act} {w : World} (hr : Region.ready md ops listed = []) (h : Q .normal a w) : ∀ fuel, wpAny P md ops Q fuel listed a w
  | 0 => ⟨hr, h⟩
  | _ + 1 => ⟨fun _ => h, by rw [hr]; simp⟩
end
section
variable {P : Program} {S : World → Prop}
theorem pickFirst_spec {ops : Array Oper} {listed : Array Bool} : ∀ {rs : List Nat} {i : Nat}, pickFirst P ops listed rs = some i → i ∈ rs ∧ Region.free .any ops listed i = true
  | [], _, h => by cases h
  | r :: rs, i, h => by
    unfold pickFirst at h
    split at h
    · split at h
      · rename_i hb
        cases h
        exact ⟨List.mem_cons_self, (Bool.and_eq_true _ _ ▸ hb).2⟩
      · obtain ⟨h1, h2⟩ := pickFirst_spec h; exact ⟨List.mem_cons_of_mem _ h1, h2⟩
    · obtain ⟨h1, h2⟩ := pickFirst_spec h; exact ⟨List.mem_cons_of_mem _ h1, h2⟩
theorem opS_run {o : Oper} {s : List Value} {K : Value → Prop} (h : opS P o s S K) : ∃ v, (∀ w, S w → (execOp (ev s) o).run P w = .ok (.value v) w) ∧ K v := by
  unfold opS at h
  split at h
  · rename_i t x hop
    split at h
    · rename_i q hq
      obtain ⟨p, rfl, hh⟩ := someV_iff.1 h
      unfold loadQ at hh
      split at hh
      · rename_i cs hz
        obtain ⟨i, hi, hiz⟩ := zeroOf_info hz
        split at hh
        · rename_i ha hn
          obtain ⟨l, hl, hr, hk⟩ := exCells_get hh
          have hs : cs.size = i.size := by simpa [sizeT, hi] using hn
          have hl' : l.length = i.size := by simp [hl, hs]
          exact ⟨_, fun w hw => by simp [execOp, hop, hq, Instr.loadAt, Instr.sureAddr, loadVar, run_isAgg_of ha, run_sizeOf_of hi, loadCells, ← hl', run_loadCells_of w p l 0 #[] (hr w hw)], hk⟩
        · exact hh.elim
      · rename_i z hz _
        split at hh
        · rename_i ha
          obtain ⟨v, hv, hk⟩ := exCell_get hh
          exact ⟨_, fun w hw => by simp [execOp, hop, hq, Instr.loadAt, Instr.sureAddr, loadVar, run_isAgg_of ha, hv w hw], hk⟩
        · exact hh.elim
      · exact hh.elim
    · exact h.elim
  · obtain ⟨v, hr, hk⟩ := purV_run h
    exact ⟨v, fun w _ => hr w, hk⟩
/-- A guard, decided. -/
theorem guardV_or {all : List Oper} {s : List Value} {j : Nat} {want : Bool} {run skip : List Value → Prop} (h : guardV all s j want run skip) :
    ((yielded all.toArray (act s).tmps j == some want) = true ∧ run s) ∨ ((yielded all.toArray (act s).tmps j == some want) = false ∧ skip s) := by
  unfold guardV at h
  split at h
  · rename_i d hd
    split at h
    · rename_i b hb
      have hy : yielded all.toArray (act s).tmps j = some b := by rw [yielded_of, hd]; simp [hb]
      rw [hy]
      have hp : put s d (.bool b) = s := put_same s d _ hb (nth_lt hb)
      cases want
      · obtain ⟨h1, h2⟩ := boolV_iff.1 h
        cases b
        · rw [hp] at h2; exact .inl ⟨by simp, h2 rfl⟩
        · rw [hp] at h1; exact .inr ⟨by simp, h1 rfl⟩
      · obtain ⟨h1, h2⟩ := boolV_iff.1 h
        cases b
        · rw [hp] at h2; exact .inr ⟨by simp, h2 rfl⟩
        · rw [hp] at h1; exact .inl ⟨by simp, h1 rfl⟩
    · rename_i hb
      have hy : yielded all.toArray (act s).tmps j = none := by
        rw [yielded_of, hd]
        cases hn : nth s d <;> first | exact (hb _ hn).elim | simp [hn]
      rw [hy]
      exact .inr ⟨by simp, h⟩
  · rename_i hd
    have hy : yielded all.toArray (act s).tmps j = none := by rw [yielded_of, hd]
    rw [hy]
    exact .inr ⟨by simp, h⟩
theorem heldV_wp {ops : Array Oper} {K : List Value → World → Prop} {Q : Exit → Act → World → Prop} (hs : Region.noSelect ops = true) (hQ : ∀ c a w, ¬ Q (.panic c) a w) (hK : ∀ s w, K s w → Q .normal (act s) w) :
    ∀ (n : Nat) (S : World → Prop) (listed : Array Bool) (s : List Value) (w : World), Closed .any ops listed → S w → heldV P ops K n S listed s w → wpAnyX P .any ops Q S n listed (act s) w
  | 0, S, listed, s, w, _, _, h => by
    unfold heldV at h
    split at h
    · rename_i hr; exact ⟨hr, hK s w h⟩
    · exact h.elim
  | n + 1, S, listed, s, w, hcl, hS, h => by
    unfold heldV at h
    split at h
    · rename_i hr; exact wpAnyX_done hr (hK s w h) _
    · rename_i r rs hr
      split at h
      · rename_i i hpick
        obtain ⟨hmem, hfree⟩ := pickFirst_spec hpick
        split at h
        · rename_i o ho
          have key : ∃ v, YieldsIf P ops S o v (act s) ∧ heldV P ops K n S (listed.setIfInBounds i true) (putO s o.dst v) w := by
            unfold takeV at h
            split at h
            · rename_i hg
              obtain ⟨v, hv, hk⟩ := opS_run h
              exact ⟨v, .inl ⟨by simp [Region.wanted, hg], fun w hw => by rw [act_eval']; exact hv w hw⟩, hk⟩
            · rename_i j want hg
              rcases guardV_or h with ⟨hy, h⟩ | ⟨hy, h⟩
              · obtain ⟨v, hv, hk⟩ := opS_run h
                exact ⟨v, .inl ⟨by simpa [Region.wanted, hg] using hy, fun w hw => by rw [act_eval']; exact hv w hw⟩, hk⟩
              · exact ⟨undef, .inr ⟨by simpa [Region.wanted, hg] using hy, rfl⟩, h⟩
          obtain ⟨v, hy, hk⟩ := key
          refine wpAnyX_take ho hs hfree (by rw [hr]; simpa using hmem) (fun c a w h => (hQ _ _ _ h).elim) hcl hy hS ?_
          rw [act_put]
          exact heldV_wp hs hQ hK n S _ _ w (closed_set hcl (by rw [hr]; exact hmem)) hS hk
        · exact h.elim
      · refine ⟨fun h0 => absurd (hr ▸ h0) (by simp), fun i hi => ?_⟩
        have hcl' := closed_set hcl hi
        rw [hr] at hi
        have hh := allV_mem h i hi
        split at hh
        · rename_i o ho
          unfold wpOp
          rw [ho]
          simp only
          split at hh
          · rename_i hbar
            have fin : ∀ s' w', (match Region.ready .any ops (listed.setIfInBounds i true) with
              | [] => K s' w'
              | _ :: _ => ∃ S' : World → Prop, S' w' ∧ heldV P ops K n S' (listed.setIfInBounds i true) s' w') → wpAny P .any ops Q n (listed.setIfInBounds i true) (act s') w' := by
              intro s' w' h
              split at h
              · rename_i hr'; exact wpAny_done hr' (hK _ _ h) _
              · obtain ⟨S', h1, h2⟩ := h
                exact wpAny_of_X _ _ _ _ (heldV_wp hs hQ hK n S' _ _ w' hcl' h1 h2)
            unfold stepB at hh
            split at hh
            · rename_i hg
              rw [if_pos (by simp [Region.wanted, hg])]
              exact .inl (opV_wp (fun v w' hk => .inl ⟨hbar, fin _ _ hk⟩) hh)
            · rename_i j want hg
              rcases guardV_or hh with ⟨hy, hh⟩ | ⟨hy, hh⟩
              · rw [if_pos (by simpa [Region.wanted, hg] using hy)]
                exact .inl (opV_wp (fun v w' hk => .inl ⟨hbar, fin _ _ hk⟩) hh)
              · rw [if_neg (by simpa [Region.wanted, hg] using hy)]
                rw [act_put]
                exact .inl ⟨hbar, fin _ _ hh⟩
          · rename_i hbar
            unfold stepV at hh
            split at hh
            · rename_i hg
              rw [if_pos (by simp [Region.wanted, hg])]
              exact .inl (opV_wp (fun v w' hk => .inr ⟨hbar, hk.1, heldV_wp hs hQ hK n S _ _ w' hcl' hk.1 hk.2⟩) hh)
            · rename_i j want hg
              rcases guardV_or hh with ⟨hy, hh⟩ | ⟨hy, hh⟩
              · rw [if_pos (by simpa [Region.wanted, hg] using hy)]
                exact .inl (opV_wp (fun v w' hk => .inr ⟨hbar, hk.1, heldV_wp hs hQ hK n S _ _ w' hcl' hk.1 hk.2⟩) hh)
              · rw [if_neg (by simpa [Region.wanted, hg] using hy)]
                rw [act_put]
                exact .inr ⟨hbar, hS, heldV_wp hs hQ hK n S _ _ w hcl' hS hh⟩
        · exact hh.elim
end

/-! ### Code -/
abbrev Post := Exit → List Value → World → Prop
def thenQ (K : List Value → World → Prop) (Q : Post) : Post := fun e s w => match e with | .normal => K s w | e => Q e s w
def blockQ (id : Nat) (Q : Post) : Post := fun e s w => match e with | .exit i => (match Nat.beq i id with | true => Q .normal s w | false => Q (.exit i) s w) | e => Q e s w
def scopeQ (Q : Post) : Post := fun e s w => match e with | .goto _ => False | e => Q e s w
def backQ (I : Nat → List Value → World → Prop) (n : Nat) (Q : Post) : Post := fun e s w => match e with | .normal => ∃ m, m < n ∧ I m s w | e => Q e s w
def drawV (P : Program) (ops : List Oper) (K : List Value → World → Prop) (s : List Value) (w : World) : Prop :=
  ∃ C : World → Prop, (∀ w', w'.heap = w.heap → w'.tape = w.tape → w'.os = w.os → w'.output = w.output → C w') ∧ opsQ P ops C ops (fun s => ∀ w', C w' → K s w') s
def anyV (P : Program) (ops : Array Oper) (K : List Value → World → Prop) (s : List Value) (w : World) : Prop :=
  ∃ S : World → Prop, (∀ w' : World, w'.heap = w.heap → w'.tape = w.tape → w'.os = w.os → w'.output = w.output → S w' ∧ heldV P ops K ops.size S (Array.replicate ops.size false) s w')
def loopV (B : Post → List Value → World → Prop) (Q : Post) (s : List Value) (w : World) : Prop :=
  ∃ I : Nat → List Value → World → Prop, (∃ n, I n s w) ∧ ∀ n s w, I n s w → B (backQ I n Q) s w
def mayQuiet (P : Program) (ops : Array Oper) : Bool := P.follows .mixedOrders && Region.lexB .any ops
def mayHeld (P : Program) (ops : Array Oper) : Bool := P.follows .mixedOrders && Region.noSelect ops
/-- Has a region whose order is drawn anything but what only reckons or reads? (Then every order is asked.) -/
def loudR (P : Program) : List Oper → Bool
  | [] => false
  | o :: l => match takable P o with | true => loudR P l | false => true
def V (P : Program) : Code → Post → List Value → World → Prop
  | .skip, Q, s, w => Q .normal s w
  | .region _ ops draw, Q, s, w => (match draw with
    | false => opsV P ops.toList ops.toList (Q .normal) s w
    | true => (match loudR P ops.toList, mayQuiet P ops with
      | false, true => drawV P ops.toList (Q .normal) s w
      | _, _ => (match mayHeld P ops with | true => anyV P ops (Q .normal) s w | false => False)))
  | .seq a b, Q, s, w => V P a (thenQ (V P b Q) Q) s w
  | .cond c x y, Q, s, w => (match ev s c with | .bool b => boolV b (V P x Q s w) (V P y Q s w) | _ => False)
  | .block id c, Q, s, w => V P c (blockQ id Q) s w
  | .loop c, Q, s, w => loopV (V P c) Q s w
  | .exit id, Q, s, w => Q (.exit id) s w
  | .ret, Q, s, w => Q .ret s w
  | .label _, Q, s, w => Q .normal s w
  | .scope c, Q, s, w => V P c (scopeQ Q) s w
  | .rangeFunc _ _ _ _, _, _, _ => False
  | .goto _, _, _, _ => False
  | .refuse _, _, _, _ => False
def liftQ (Q : Post) : Exit → Act → World → Prop := fun e a w => ∃ s, a = act s ∧ Q e s w
theorem act_inj {s t : List Value} (h : act s = act t) : s = t := by
  unfold act at h
  simp only [Act.mk.injEq, and_true] at h
  simpa using h
theorem V_wp {P : Program} : ∀ (c : Code) (Q : Post) (s : List Value) (w : World), V P c Q s w → c.wp P (liftQ Q) (act s) w
  | .skip, Q, s, w, h => wp_skip ⟨s, rfl, h⟩
  | .region id ops draw, Q, s, w, h => by
    unfold V at h
    cases draw with
    | false =>
      refine wp_region_list ?_
      have := opsV_wp (P := P) (all := ops.toList) (Q := liftQ Q) (K := Q .normal) (fun s w hk => ⟨s, rfl, hk⟩) ops.toList s w h
      simpa using this
    | true =>
      simp only at h
      split at h
      · rename_i hc hm
        obtain ⟨C, hC, h⟩ := h
        unfold mayQuiet at hm
        rw [Bool.and_eq_true] at hm
        have := opsQ_quiet (P := P) (all := ops.toList) (C := C) (Q := fun a => ∀ w', C w' → liftQ Q .normal a w') (fun s hk w' hw => ⟨s, rfl, hk w' hw⟩) ops.toList s h
        exact wp_region_quiet (C := C) hm.1 hm.2 (hC _ rfl rfl rfl rfl) (by simpa using this)
      · split at h
        · rename_i hm
          obtain ⟨S, hS⟩ := h
          unfold mayHeld at hm
          rw [Bool.and_eq_true] at hm
          obtain ⟨h1, h2⟩ := hS { w with drawn := w.drawn + 1 } rfl rfl rfl rfl
          exact wp_region_noPanic (wp_region_any hm.1 (wpAny_of_X _ _ _ _ (heldV_wp hm.2 (fun c a w h => by cases h) (fun s w hk => NoPanic.normal ⟨s, rfl, hk⟩) _ S _ _ _ (closed_none _) h1 h2)))
        · exact h.elim
  | .seq a b, Q, s, w, h => by
    refine wp_seq (wp_mono (V_wp a _ s w h) ?_)
    rintro e a' w' ⟨s', rfl, hq⟩
    cases e with
    | normal => exact V_wp b Q s' w' hq
    | _ => exact ⟨s', rfl, hq⟩
  | .cond c x y, Q, s, w, h => by
    unfold V at h
    split at h
    · rename_i b hb
      obtain ⟨h1, h2⟩ := boolV_iff.1 h
      exact wp_cond_split (t := b) (by rw [act_eval, hb]) (fun e => V_wp x Q s w (h1 e)) (fun e => V_wp y Q s w (h2 e))
    · exact h.elim
  | .block id c, Q, s, w, h => by
    refine wp_block (wp_mono (V_wp c _ s w h) ?_)
    rintro e a' w' ⟨s', rfl, hq⟩
    cases e with
    | exit i =>
      unfold blockQ at hq
      simp only at hq
      unfold Exit.inBlock
      simp only
      split at hq
      · rename_i hi
        rw [if_pos (Nat.eq_of_beq_eq_true hi)]
        exact ⟨s', rfl, hq⟩
      · rename_i hi
        rw [if_neg (Nat.ne_of_beq_eq_false hi)]
        exact ⟨s', rfl, hq⟩
    | _ => exact ⟨s', rfl, hq⟩
  | .loop c, Q, s, w, h => by
    obtain ⟨I, ⟨n, h0⟩, hs⟩ := h
    refine wp_loop_ghost (fun n a w => ∃ s, a = act s ∧ I n s w) n ⟨s, rfl, h0⟩ ?_
    rintro n a w ⟨s, rfl, hI⟩
    refine wp_mono (V_wp c _ s w (hs n s w hI)) ?_
    rintro e a' w' ⟨s', rfl, hq⟩
    cases e with
    | normal => obtain ⟨m, hm, hI'⟩ := hq; exact ⟨m, hm, s', rfl, hI'⟩
    | _ => exact ⟨s', rfl, hq⟩
  | .exit id, Q, s, w, h => wp_exit ⟨s, rfl, h⟩
  | .ret, Q, s, w, h => wp_ret ⟨s, rfl, h⟩
  | .label l, Q, s, w, h => wp_label ⟨s, rfl, h⟩
  | .scope c, Q, s, w, h => by
    refine wp_scope_straight (wp_mono (V_wp c _ s w h) ?_)
    rintro e a' w' ⟨s', rfl, hq⟩
    cases e with
    | goto l => exact hq.elim
    | _ => exact ⟨s', rfl, hq⟩
  | .rangeFunc _ _ _ _, _, _, _, h => h.elim
  | .goto _, _, _, _, h => h.elim
  | .refuse _, _, _, _, h => h.elim

/-! ### A function -/
def resV (P : Program) : List ResultVar → List Value → World → (List Value → Prop) → Prop
  | [], _, _, K => K []
  | r :: rs, s, w, K => match r with
    | .tmp t => resV P rs s w (fun vs => K (nth s t :: vs))
    | .cell a t => (match nth s a with | .pointer q => someV q (fun p => loadV P t w p (fun v => resV P rs s w (fun vs => K (v :: vs)))) | _ => False)
def oneOf (vs : List Value) : Value := match vs with | [v] => v | vs => .tuple vs.toArray
def retQ (P : Program) (fn : Func) (R : Ending → World → Prop) : Post := fun e s w => match e with
  | .normal => resV P fn.results.toList s w (fun vs => R (.returned (oneOf vs)) w)
  | .ret => resV P fn.results.toList s w (fun vs => R (.returned (oneOf vs)) w)
  | _ => False
def initS (args : List Value) (n : Nat) : List Value := args ++ List.replicate (n - args.length) undef
def bodyV (P : Program) (fn : Func) (args : List Value) (R : Ending → World → Prop) (w : World) : Prop :=
  match fn.body with
  | some c => V P c (retQ P fn R) (initS args fn.ntmps) w
  | none => False
def resOne (tmps : Array Value) : ResultVar → Sem Value
  | .tmp t => pure (tmps.getD t undef)
  | .cell a t => do loadVar t (← asAddr (tmps.getD a undef))
theorem resV_run {P : Program} : ∀ (rs : List ResultVar) (s : List Value) (w : World) (K : List Value → Prop), resV P rs s w K →
    ∃ vs, (rs.mapM (resOne s.toArray)).run P w = .ok vs w ∧ vs.length = rs.length ∧ K vs
  | [], s, w, K, h => ⟨[], by simp, rfl, h⟩
  | .tmp t :: rs, s, w, K, h => by
    obtain ⟨vs, hr, hl, hk⟩ := resV_run rs s w _ h
    refine ⟨nth s t :: vs, ?_, by simp [hl], hk⟩
    have e : (resOne s.toArray (.tmp t)).run P w = .ok (nth s t) w := by simp [resOne, nth_eq]
    simp only [List.mapM_cons, Sem.run_bind, Sem.run_pure, Result.andThen_ok, hr, e]
  | .cell a t :: rs, s, w, K, h => by
    unfold resV at h
    simp only at h
    split at h
    · rename_i q hq
      obtain ⟨p, rfl, hh⟩ := someV_iff.1 h
      obtain ⟨v, hv, hk⟩ := loadV_run hh
      obtain ⟨vs, hr, hl, hk⟩ := resV_run rs s w _ hk
      refine ⟨v :: vs, ?_, by simp [hl], hk⟩
      have e0 : s.toArray.getD a undef = nth s a := by simp [nth_eq]
      have e : (resOne s.toArray (.cell a t)).run P w = .ok v w := by
        simp only [resOne, e0, hq, asAddr, Sem.run_bind, Sem.run_pure, Result.andThen_ok, hv]
      simp only [List.mapM_cons, Sem.run_bind, Sem.run_pure, Result.andThen_ok, hr, e]
    · exact h.elim
theorem results_eq (fn : Func) (tmps : Array Value) : results fn tmps = (do let vs ← fn.results.mapM (resOne tmps); pure (if h : vs.size = 1 then vs[0] else .tuple vs)) := rfl
theorem calls_V {P : Program} {f : FuncId} {fn : Func} (hf : P.funcs[f]? = some fn) {args : List Value} {R : Ending → World → Prop} {w : World} (h : bodyV P fn args R w) : Calls P f args.toArray w R := by
  unfold bodyV at h
  split at h
  · rename_i c hb
    refine calls_of_wp hf hb ?_
    have hs : ({ tmps := args.toArray ++ Array.replicate (fn.ntmps - args.toArray.size) undef, defers := [] } : Act) = act (initS args fn.ntmps) := by
      unfold act initS
      congr 1
      apply Array.ext'
      simp
    rw [hs]
    refine wp_mono (V_wp c _ _ w h) ?_
    rintro e a w' ⟨s, rfl, hq⟩
    have key : resV P fn.results.toList s w' (fun vs => R (.returned (oneOf vs)) w') → (act s).defers = [] ∧ ∃ v, (results fn (act s).tmps).run P w' = .ok v w' ∧ R (.returned v) w' := fun hq => by
      obtain ⟨vs, hr, hl, hk⟩ := resV_run _ _ _ _ hq
      refine ⟨rfl, oneOf vs, ?_, hk⟩
      have hm : (fn.results.mapM (resOne (act s).tmps)).run P w' = .ok vs.toArray w' := by
        rw [Array.mapM_eq_mapM_toList]
        simp [act, hr]
      rw [results_eq]
      simp only [Sem.run_bind, hm, Result.andThen_ok, Sem.run_pure]
      congr 1
      rcases vs with _ | ⟨v, _ | ⟨u, us⟩⟩ <;> simp [oneOf]
    cases e with
    | normal => exact key hq
    | ret => exact key hq
    | _ => exact hq.elim
  · exact h.elim

/-! ### A piece of code at a place, and what is asked behind it -/
def subC : Code → List Bool → Code
  | .seq a _, false :: p => subC a p
  | .seq _ b, true :: p => subC b p
  | .block _ c, _ :: p => subC c p
  | .loop c, _ :: p => subC c p
  | .scope c, _ :: p => subC c p
  | .cond _ x _, false :: p => subC x p
  | .cond _ _ y, true :: p => subC y p
  | c, _ => c
def ctxQ (P : Program) : Code → List Bool → Post → Post
  | .seq a b, false :: p, Q => ctxQ P a p (thenQ (V P b Q) Q)
  | .seq _ b, true :: p, Q => ctxQ P b p Q
  | .block id c, _ :: p, Q => ctxQ P c p (blockQ id Q)
  | .scope c, _ :: p, Q => ctxQ P c p (scopeQ Q)
  | .cond _ x _, false :: p, Q => ctxQ P x p Q
  | .cond _ _ y, true :: p, Q => ctxQ P y p Q
  | .loop c, _ :: p, Q => ctxQ P c p Q
  | _, _, Q => Q
def atV (P : Program) (c : Code) (p : List Bool) (Q : Post) (s : List Value) (w : World) : Prop := V P (subC c p) (ctxQ P c p Q) s w
def bodyC (fn : Func) : Code := match fn.body with | some c => c | none => .skip
/-- The body of the loop at a place. -/
def loopC (c : Code) (p : List Bool) : Code := match subC c p with | .loop b => b | c => c
theorem atV_loop {P : Program} {c : Code} {p : List Bool} {Q : Post} {s : List Value} {w : World} (hl : subC c p = .loop (loopC c p)) (I : Nat → List Value → World → Prop) (n : Nat) (h0 : I n s w)
    (hs : ∀ n s w, I n s w → V P (loopC c p) (backQ I n (ctxQ P c p Q)) s w) : atV P c p Q s w := by
  unfold atV
  rw [hl]
  exact ⟨I, ⟨n, h0⟩, hs⟩
end Go.Proofs.YtcofknlcdgidpaaGreatDoor.VC
/-! ## U -/
namespace Go.Proofs.YtcofknlcdgidpaaGreatDoor.VC
open Go Go.RowKit
set_option linter.unusedVariables false

/-! ### Slices that a call makes -/
def sliceT (P : Program) (t e : TypeId) (size : Nat) : Bool :=
  match P.underlying t with
  | some (.slice e') => Nat.beq e' e && (match P.info? e with
    | some i => (match i.zero with
      | some z => Nat.beq i.size size && Nat.beq z.cells.size size && Nat.blt 0 size && Nat.ble i.bytes 4096
      | none => false)
    | none => false)
  | _ => false
theorem sliceT_get {P : Program} {t e : TypeId} {size : Nat} (h : sliceT P t e size = true) :
    P.underlying t = some (.slice e) ∧ ∃ i z, P.info? e = some i ∧ i.zero = some z ∧ i.size = size ∧ z.cells.size = size ∧ 0 < size ∧ i.bytes ≤ 4096 := by
  unfold sliceT at h
  split at h
  · rename_i e' he
    simp only [Bool.and_eq_true] at h
    obtain ⟨h1, h2⟩ := h
    have h1 := Nat.eq_of_beq_eq_true h1
    split at h2
    · rename_i i hi
      split at h2
      · rename_i z hz
        simp only [Bool.and_eq_true] at h2
        obtain ⟨⟨⟨a, b⟩, c⟩, d⟩ := h2
        exact ⟨h1 ▸ he, i, z, hi, hz, Nat.eq_of_beq_eq_true a, Nat.eq_of_beq_eq_true b, by simpa using c, Nat.le_of_ble_eq_true d⟩
      · cases h2
    · cases h2
  · cases h

theorem addr_add0 (b j : Nat) : (⟨b, 0, none⟩ : Addr).add j = ⟨b, j, none⟩ := by
  cases j <;> simp [Addr.add]
theorem cell_alloc_new {w : World} {cs : Array Value} {e : TypeId} {j : Nat} {u : Value} (h : cs[j]? = some u) : (w.alloc (.cells cs e)).cell? ((⟨w.heap.size, 0, none⟩ : Addr).add j) = some u := by
  rw [addr_add0, World.cell?_alloc_new]; exact h

/-- An append of some elements that stand in a new block, onto a row that the call owns. -/
theorem appendV {P : Program} {w : World} {B : Nat} {t ty e : TypeId} {size : Nat} (hT : sliceT P t e size = true) {a : Option Addr} {n c : Nat} {xs : List Value}
    (hown : w.ownsRow B e size (.slice a n c) n xs) (hB : B ≤ w.heap.size) {news : List Value} {m : Nat} (hl : news.length = m * size) (h1 : ∀ u ∈ news, u.oneCell' = true) (hm : 0 < m) (hn : n + m ≤ 4294967296)
    {K : Value → World → Prop}
    (hK : ∀ g c' w', w'.ownsRow B e size (.slice (some ⟨g, 0, none⟩) (n + m) c') (n + m) (xs ++ news) → Below B w w' → w.grownBy w' (Value.ownBlock (.slice a n c)) → B ≤ w'.heap.size → K (.slice (some ⟨g, 0, none⟩) (n + m) c') w') :
    runV P (Builtin.append_ #[t, t] ty #[.slice a n c, .slice (some ⟨w.heap.size, 0, none⟩) m m]) (World.alloc w (.cells news.toArray e)) K := by
  obtain ⟨ht, i, z, hi, hz, hs, hzs, hsz, hby⟩ := sliceT_get hT
  have hmax : (4294967296 : Nat) ≤ maxLen := by decide
  have hb : (n + m) * i.bytes ≤ 140737488355328 := Nat.le_trans (Nat.mul_le_mul hn hby) (by decide)
  obtain ⟨v', w', hr, ho, hg, hnil⟩ := run_append_own (P := P) (w := World.alloc w (.cells news.toArray e)) B t ty e i z size i.bytes ht hi hz hs rfl hzs hsz (.slice a n c) n xs (hown.alloc _) ⟨w.heap.size, 0, none⟩ m m news hl
    (fun j u hj => cell_alloc_new (by simpa using hj)) h1 (Nat.le_trans hn hmax) hb (by simp; omega)
  unfold runV
  rw [hr]
  obtain ⟨hlen, hcase⟩ := ho
  rcases hcase with ⟨hv, h0⟩ | ⟨g, cap, cur, hv, hrest⟩
  · exact absurd h0 (by omega)
  · subst hv
    have hg' : w.grownBy w' (Value.ownBlock (.slice a n c)) := (World.grownBy_alloc w _ _).trans hg
    have hbel : Below B w w' := (Below.refl B w).grown hg' hB (fun k hk => (hown.lt k hk).1)
    exact hK g cap w' ⟨hlen, .inr ⟨g, cap, cur, rfl, hrest⟩⟩ hbel hg' (Nat.le_trans hB hbel.size)

/-! ### Bytes -/
def u8s (bs : List UInt8) : List Value := bs.map (fun b => Value.int .u8 b.toNat)
theorem u8s_append (a b : List UInt8) : u8s (a ++ b) = u8s a ++ u8s b := by simp [u8s]
theorem bytesAt_own {w : World} {B : Nat} {e : TypeId} {a : Option Addr} {n c : Nat} {bs : List UInt8} (h : w.ownsRow B e 1 (.slice a n c) n (u8s bs)) : BytesAt w a n ⟨bs.toArray⟩ := by
  have hlen : bs.length = n := by simpa [u8s] using h.1
  cases a with
  | none =>
    rcases h.2 with ⟨_, h0⟩ | ⟨g, cap, cur, hv, _⟩
    · show bs.toArray.size = 0
      simp; exact List.length_eq_zero_iff.mp (by omega)
    · cases hv
  | some p =>
    refine ⟨by show bs.toArray.size = n; simpa using hlen, fun i hi => ?_⟩
    rcases h.2 with ⟨hv, _⟩ | ⟨g, cap, cur, hv, _⟩
    · cases hv
    · have hp : p = ⟨g, 0, none⟩ := by injection hv with h1; exact Option.some.inj h1
      subst hp
      refine h.cells (g := g) rfl i _ ?_
      have : i < bs.length := by omega
      simp [u8s, byteAt, this]

/-! ### Texts as lists of bytes -/
abbrev S (bs : List UInt8) : ByteArray := ByteArray.mk bs.toArray
theorem S_eta (s : ByteArray) : s = S s.data.toList := rfl
theorem S_size (bs : List UInt8) : (S bs).size = bs.length := rfl
theorem S_append (x y : List UInt8) : S x ++ S y = S (x ++ y) := ByteArray.mk_append_mk x y
theorem S_extract (l : List UInt8) (a b : Nat) : (S l).extract a b = S ((l.drop a).take (b - a)) := ByteArray.extract_mk l a b
theorem S_toList (l : List UInt8) : (S l).toList = l := ByteArray.toList_mk l
theorem S_inj {a b : List UInt8} (h : S a = S b) : a = b := by
  have := congrArg ByteArray.toList h
  rwa [S_toList, S_toList] at this
theorem byteAt_S (l : List UInt8) (i : Nat) : byteAt (S l) i = l.getD i 0 := by
  simp [byteAt, List.getD_eq_getElem?_getD, Array.getD_eq_getD_getElem?]
theorem byteAt_drop {l rest : List UInt8} {i : Nat} {b : UInt8} (h : l.drop i = b :: rest) : byteAt (S l) i = b := by
  rw [byteAt_S, List.getD_eq_getElem?_getD]
  have : l[i]? = some b := by rw [← List.head?_drop, h]; rfl
  simp [this]

/-! ### What stays -/
theorem same_below {w w' : World} (B : Nat) (h1 : w'.heap = w.heap) (h2 : w'.tape = w.tape) (h3 : w'.os = w.os) (h4 : w'.output = w.output) : Below B w w' :=
  ⟨h3, h2, h4, by rw [h1]; exact Nat.le_refl _, fun k _ => by rw [h1]⟩
theorem boolT {b : Bool} {A B : Prop} (h : b = true) (k : A) : boolV b A B := by subst h; exact k
theorem boolF {b : Bool} {A B : Prop} (h : b = false) (k : B) : boolV b A B := by subst h; exact k

end Go.Proofs.YtcofknlcdgidpaaGreatDoor.VC
/-! ## A -/
namespace Go.Proofs.YtcofknlcdgidpaaGreatDoor.VC
open Go
set_option linter.unusedVariables false

theorem wrap_u8 (n : Nat) : IntKind.wrap .u8 (n : Int) = ((n % 256 : Nat) : Int) := by
  show ((n : Int)) % 256 = _
  omega
theorem wrap_u32 (n : Nat) : IntKind.wrap .u32 (n : Int) = ((n % 4294967296 : Nat) : Int) := by
  show ((n : Int)) % 4294967296 = _
  omega
theorem wrap_u64 (n : Nat) : IntKind.wrap .u64 (n : Int) = ((n % 18446744073709551616 : Nat) : Int) := by
  show ((n : Int)) % 18446744073709551616 = _
  omega
theorem wrap_u64_int (n : Int) : IntKind.wrap .u64 n = n % 18446744073709551616 := rfl
theorem wrap_u32_int (n : Int) : IntKind.wrap .u32 n = n % 4294967296 := rfl
theorem wrap_u8_int (n : Int) : IntKind.wrap .u8 n = n % 256 := rfl
theorem wrap_i64 {n : Int} (h : -9223372036854775808 ≤ n) (h2 : n < 9223372036854775808) : IntKind.wrap .i64 n = n := by
  unfold IntKind.wrap
  simp only [show IntKind.signed .i64 = true from rfl, show ((2 : Int) ^ IntKind.bits .i64) = 18446744073709551616 from by decide, show ((2 : Int) ^ (IntKind.bits .i64 - 1)) = 9223372036854775808 from by decide, Bool.true_and]
  by_cases h0 : 0 ≤ n
  · have : n % 18446744073709551616 = n := Int.emod_eq_of_lt h0 (by omega)
    rw [this, if_neg (by simp; omega)]
  · have : n % 18446744073709551616 = n + 18446744073709551616 := by omega
    rw [this, if_pos (by simp; omega)]; omega
theorem wrap_i64_eq (n : Int) : IntKind.wrap .i64 n = if n % 18446744073709551616 ≥ 9223372036854775808 then n % 18446744073709551616 - 18446744073709551616 else n % 18446744073709551616 := by
  unfold IntKind.wrap
  simp only [show IntKind.signed .i64 = true from rfl, show ((2 : Int) ^ IntKind.bits .i64) = 18446744073709551616 from by decide, show ((2 : Int) ^ (IntKind.bits .i64 - 1)) = 9223372036854775808 from by decide, Bool.true_and]
  simp

theorem wrap_nat {k : IntKind} (hk : k.signed = false) {n : Nat} (h : n < 2 ^ k.bits) : k.wrap (n : Int) = (n : Int) := by
  unfold IntKind.wrap
  simp only [hk, Bool.false_and]
  have h' : (n : Int) < 2 ^ k.bits := by exact_mod_cast h
  simp [Int.emod_eq_of_lt (Int.natCast_nonneg n) h']
theorem bits_or {k : IntKind} (hk : k.signed = false) {a b : Nat} (ha : a < 2 ^ k.bits) (hb : b < 2 ^ k.bits) : Go.bits .or k (a : Int) (b : Int) = ((a ||| b : Nat) : Int) := by
  show k.wrap (((BitVec.ofInt k.bits a ||| BitVec.ofInt k.bits b).toNat : Nat) : Int) = _
  rw [BitVec.toNat_or, BitVec.ofInt_natCast, BitVec.ofInt_natCast, BitVec.toNat_ofNat, BitVec.toNat_ofNat, Nat.mod_eq_of_lt ha, Nat.mod_eq_of_lt hb]
  exact wrap_nat hk (Nat.or_lt_two_pow ha hb)
theorem bits_and {k : IntKind} (hk : k.signed = false) {a b : Nat} (ha : a < 2 ^ k.bits) (hb : b < 2 ^ k.bits) : Go.bits .and k (a : Int) (b : Int) = ((a &&& b : Nat) : Int) := by
  show k.wrap (((BitVec.ofInt k.bits a &&& BitVec.ofInt k.bits b).toNat : Nat) : Int) = _
  rw [BitVec.toNat_and, BitVec.ofInt_natCast, BitVec.ofInt_natCast, BitVec.toNat_ofNat, BitVec.toNat_ofNat, Nat.mod_eq_of_lt ha, Nat.mod_eq_of_lt hb]
  exact wrap_nat hk (Nat.and_lt_two_pow _ hb)
theorem bits_xor {k : IntKind} (hk : k.signed = false) {a b : Nat} (ha : a < 2 ^ k.bits) (hb : b < 2 ^ k.bits) : Go.bits .xor k (a : Int) (b : Int) = ((a ^^^ b : Nat) : Int) := by
  show k.wrap (((BitVec.ofInt k.bits a ^^^ BitVec.ofInt k.bits b).toNat : Nat) : Int) = _
  rw [BitVec.toNat_xor, BitVec.ofInt_natCast, BitVec.ofInt_natCast, BitVec.toNat_ofNat, BitVec.toNat_ofNat, Nat.mod_eq_of_lt ha, Nat.mod_eq_of_lt hb]
  exact wrap_nat hk (Nat.xor_lt_two_pow ha hb)
theorem shr_nat {k : IntKind} (n : Nat) {j : Nat} (h : j ≤ k.bits) : shrI k (n : Int) (j : Int) = ((n / 2 ^ j : Nat) : Int) := by
  unfold shrI
  have hm : min ((j : Int).toNat) k.bits = j := by simp; omega
  rw [hm, Int.fdiv_eq_ediv_of_nonneg _ (by exact_mod_cast Nat.zero_le (2 ^ j))]
  simp [Int.natCast_ediv]
theorem shl_nat {k : IntKind} (n : Nat) {j : Nat} (h : j ≤ k.bits) : shlI k (n : Int) (j : Int) = k.wrap ((n * 2 ^ j : Nat) : Int) := by
  unfold shlI
  have hm : min ((j : Int).toNat) k.bits = j := by simp; omega
  rw [hm]
  simp
set_option maxRecDepth 100000 in
theorem or_128 {n : Nat} (h : n < 256) : n ||| 128 = n % 128 + 128 := by
  have : ∀ n : Fin 256, n.val ||| 128 = n.val % 128 + 128 := by decide
  exact this ⟨n, h⟩
end Go.Proofs.YtcofknlcdgidpaaGreatDoor.VC
/-! ## B -/
namespace Go.Proofs.YtcofknlcdgidpaaGreatDoor
set_option linter.unusedVariables false

/-- A number's bytes: seven bits each, the least first. -/
def numB (n : Nat) : List UInt8 := if h : n < 128 then [UInt8.ofNat n] else UInt8.ofNat (n % 128 + 128) :: numB (n / 128)
termination_by n
decreasing_by omega
theorem numB_lt {n : Nat} (h : n < 128) : numB n = [UInt8.ofNat n] := by rw [numB]; simp [h]
theorem numB_ge {n : Nat} (h : ¬ n < 128) : numB n = UInt8.ofNat (n % 128 + 128) :: numB (n / 128) := by rw [numB]; simp [h]
theorem numB_len : ∀ (k n : Nat), n < 128 ^ (k + 1) → (numB n).length ≤ k + 1 := by
  intro k
  induction k with
  | zero => intro n h; rw [numB_lt (by simpa using h)]; simp
  | succ k ih =>
    intro n h
    by_cases h1 : n < 128
    · rw [numB_lt h1]; simp
    · rw [numB_ge h1]
      have : n / 128 < 128 ^ (k + 1) := by rw [Nat.div_lt_iff_lt_mul (by decide)]; rw [Nat.pow_succ] at h; omega
      simpa using ih _ this
theorem numB_len10 {n : Nat} (h : n < 18446744073709551616) : (numB n).length ≤ 10 := numB_len 9 n (Nat.lt_of_lt_of_le h (by decide))
theorem numB_pos (n : Nat) : 0 < (numB n).length := by rw [numB]; split <;> simp
theorem numB_one {n : Nat} (h : n < 128) : (numB n).length = 1 := by rw [numB_lt h]; rfl

/-- The number that bytes begin with, read from the place i on, with what was read ahead of it. -/
def takeGo (i acc : Nat) : List UInt8 → Option (Nat × List UInt8)
  | [] => none
  | c :: rest => if (i = 9 ∧ 1 < c.toNat) ∨ (0 < i ∧ c.toNat = 0) then none
    else if c.toNat < 128 then some (acc + c.toNat * 2 ^ (7 * i), rest)
    else takeGo (i + 1) (acc + c.toNat % 128 * 2 ^ (7 * i)) rest
abbrev take (bs : List UInt8) : Option (Nat × List UInt8) := takeGo 0 0 bs

theorem takeGo_numB (rest : List UInt8) : ∀ (n i acc : Nat), n * 2 ^ (7 * i) < 2 ^ 64 → (0 < i → 0 < n) → takeGo i acc (numB n ++ rest) = some (acc + n * 2 ^ (7 * i), rest) := by
  intro n
  induction n using Nat.strongRecOn with
  | _ n ih =>
    intro i acc h64 h0
    have hb9 : i = 9 → n ≤ 1 := by rintro rfl; omega
    by_cases h : n < 128
    · rw [numB_lt h]
      have hn : (UInt8.ofNat n).toNat = n := by simp; omega
      show takeGo i acc (UInt8.ofNat n :: ([] ++ rest)) = _
      rw [takeGo, hn, if_neg (by omega), if_pos h, List.nil_append]
    · rw [numB_ge h]
      have hn : (UInt8.ofNat (n % 128 + 128)).toNat = n % 128 + 128 := by simp; omega
      show takeGo i acc (UInt8.ofNat (n % 128 + 128) :: (numB (n / 128) ++ rest)) = _
      have hp : 2 ^ (7 * (i + 1)) = 128 * 2 ^ (7 * i) := by rw [show 7 * (i + 1) = 7 * i + 7 from by omega, Nat.pow_add]; omega
      have hm : n * 2 ^ (7 * i) = n % 128 * 2 ^ (7 * i) + n / 128 * (128 * 2 ^ (7 * i)) := by
        rw [← Nat.mul_assoc, ← Nat.add_mul]; congr 1; omega
      rw [takeGo, hn, if_neg (by omega), if_neg (by omega), ih (n / 128) (by omega) (i + 1) _ (by rw [hp]; omega) (by omega), hp]
      congr 2
      rw [show (n % 128 + 128) % 128 = n % 128 by omega]
      omega
theorem take_numB {n : Nat} (h : n < 18446744073709551616) (rest : List UInt8) : takeGo 0 0 (numB n ++ rest) = some (n, rest) := by
  have := takeGo_numB rest n 0 0 (by simpa using h) (by omega)
  simpa using this
theorem takeGo_len : ∀ (l : List UInt8) (i acc n : Nat) (r : List UInt8), takeGo i acc l = some (n, r) → r.length < l.length
  | [], i, acc, n, r, h => by cases h
  | c :: l, i, acc, n, r, h => by
    rw [takeGo] at h
    split at h
    · cases h
    · split at h
      · cases h; simp
      · have := takeGo_len l _ _ _ _ h; simp; omega
theorem takeGo_lt : ∀ (l : List UInt8) (i acc n : Nat) (r : List UInt8), i ≤ 9 → acc < 2 ^ (7 * i) → takeGo i acc l = some (n, r) → n < 2 ^ 64
  | [], i, acc, n, r, _, _, h => by cases h
  | c :: l, i, acc, n, r, hi, ha, h => by
    have hp : 2 ^ (7 * (i + 1)) = 128 * 2 ^ (7 * i) := by rw [show 7 * (i + 1) = 7 * i + 7 from by omega, Nat.pow_add]; omega
    rw [takeGo] at h
    split at h
    · cases h
    · rename_i hc
      split at h
      · rename_i h128
        cases h
        by_cases h9 : i = 9
        · subst h9; have : c.toNat ≤ 1 := by omega
          have : c.toNat * 2 ^ (7 * 9) ≤ 1 * 2 ^ (7 * 9) := Nat.mul_le_mul_right _ this
          omega
        · have h1 : c.toNat * 2 ^ (7 * i) ≤ 127 * 2 ^ (7 * i) := Nat.mul_le_mul_right _ (by omega)
          have h2 : 2 ^ (7 * (i + 1)) ≤ 2 ^ 63 := Nat.pow_le_pow_right (by decide) (by omega)
          omega
      · rename_i h128
        have h9 : i < 9 := by
          have : c.toNat < 256 := c.toNat_lt
          omega
        refine takeGo_lt l (i + 1) _ n r (by omega) ?_ h
        have h1 : c.toNat % 128 * 2 ^ (7 * i) ≤ 127 * 2 ^ (7 * i) := Nat.mul_le_mul_right _ (by omega)
        omega
theorem take_lt {l : List UInt8} {n : Nat} {r : List UInt8} (h : takeGo 0 0 l = some (n, r)) : n < 18446744073709551616 := takeGo_lt l 0 0 n r (by decide) (by decide) h

/-! ### Signed numbers -/
def zz (n : Int) : Nat := if 0 ≤ n then 2 * n.toNat else 2 * (-n).toNat - 1
def unzz (m : Nat) : Int := if m % 2 = 0 then (m / 2 : Nat) else -((m / 2 : Nat) : Int) - 1
theorem unzz_zz (n : Int) : unzz (zz n) = n := by unfold unzz zz; split <;> split <;> omega
theorem zz_lt {n : Int} (h : -9223372036854775808 ≤ n) (h2 : n < 9223372036854775808) : zz n < 18446744073709551616 := by unfold zz; split <;> omega
theorem xor_ones {x : Nat} (h : x < 2 ^ 64) : x ^^^ (2 ^ 64 - 1) = 2 ^ 64 - 1 - x := by
  apply Nat.eq_of_testBit_eq
  intro i
  rw [Nat.testBit_xor, Nat.testBit_two_pow_sub_one, show 2 ^ 64 - 1 - x = 2 ^ 64 - (x + 1) from by omega, Nat.testBit_two_pow_sub_succ h]
  by_cases hi : i < 64
  · simp [hi]
  · have : x.testBit i = false := Nat.testBit_lt_two_pow (Nat.lt_of_lt_of_le h (Nat.pow_le_pow_right (by decide) (by omega)))
    simp [hi, this]
end Go.Proofs.YtcofknlcdgidpaaGreatDoor
/-! ## GnumPut -/
namespace Go.Proofs.YtcofknlcdgidpaaGreatDoor
open Go Go.Proofs.YtcofknlcdgidpaaGreatDoor.VC
set_option linter.unusedVariables false
set_option maxRecDepth 100000
set_option maxHeartbeats 0

/-! ### postroom/num.Put: function 116 -/
namespace num_Put
def t1 (R : Ending → World → Prop)  (Back0 : Int → (Option Addr) → Nat → Nat → List Value → World → Prop)  (n_0 : Int) (b_3a : Option Addr) (b_3b : Nat) (b_3c : Nat) (g : List Value) (w : World) : Prop := boolV (decide (n_0 ≥ (128 : Int))) (∀ (b1 : Nat) (w2 : World), b1 = w.heap.size → w2 = World.alloc w (.cells #[.int .u8 (Go.bits .or .u8 (IntKind.wrap .u8 n_0) 128)] 5) → runV Tryz.prog (Builtin.append_ #[198, 198] 198 #[.slice b_3a b_3b b_3c, .slice (some ⟨b1, 0, none⟩) 1 1]) w2 (fun v3 w4 => ∃ (a5 : Option Addr) (n6 c7 : Nat), v3 = .slice a5 n6 c7 ∧ (Back0 (shrI .u64 n_0 7) a5 n6 c7 [nth g 0, nth g 1, .int .u64 n_0, .bool (decide (n_0 ≥ (128 : Int))), .int .u64 n_0, .int .u64 (shrI .u64 n_0 7), .slice b_3a b_3b b_3c, .int .u64 n_0, .int .u8 (IntKind.wrap .u8 n_0), .int .u8 (Go.bits .or .u8 (IntKind.wrap .u8 n_0) 128), .slice (some ⟨b1, 0, none⟩) 1 1, .slice a5 n6 c7, nth g 12, nth g 13, nth g 14, nth g 15, nth g 16, nth g 17] w4))) (∀ (b8 : Nat) (w9 : World), b8 = w.heap.size → w9 = World.alloc w (.cells #[.int .u8 (IntKind.wrap .u8 n_0)] 5) → runV Tryz.prog (Builtin.append_ #[198, 198] 198 #[.slice b_3a b_3b b_3c, .slice (some ⟨b8, 0, none⟩) 1 1]) w9 (fun v10 w11 => ∃ (a12 : Option Addr) (n13 c14 : Nat), v10 = .slice a12 n13 c14 ∧ (∃ s15 : ByteArray, BytesAt w11 a12 n13 s15 ∧ (R (.returned (.string s15)) w11))))
def W0 (R : Ending → World → Prop)  (n_0 : Int) (b_3a : Option Addr) (b_3b : Nat) (b_3c : Nat) (w : World) : Prop := ∃ (I : Nat → Int → (Option Addr) → Nat → Nat → World → Prop) (n : Nat), I n n_0 b_3a b_3b b_3c w ∧ ∀ (n : Nat) (n_0 : Int) (b_3a : Option Addr) (b_3b : Nat) (b_3c : Nat) (g : List Value) (w : World), I n n_0 b_3a b_3b b_3c w → ∀ (Back0 : Int → (Option Addr) → Nat → Nat → List Value → World → Prop), (∀ (m : Nat) (n_0 : Int) (b_3a : Option Addr) (b_3b : Nat) (b_3c : Nat) (g : List Value) (w : World), m < n → I m n_0 b_3a b_3b b_3c w → Back0 n_0 b_3a b_3b b_3c g w) → t1 R  Back0  n_0 b_3a b_3b b_3c g w
def t0 (R : Ending → World → Prop) (L0 : Int → (Option Addr) → Nat → Nat → List Value → World → Prop) (n_0 : Int) (w : World) : Prop := L0 n_0 none 0 0 [undef, .string ⟨#[]⟩, undef, undef, undef, undef, undef, undef, undef, undef, undef, undef, undef, undef, undef, undef, undef, undef] w
def vc (R : Ending → World → Prop) (n_0 : Int) (w : World) : Prop := ∀ (L0 : Int → (Option Addr) → Nat → Nat → List Value → World → Prop), (∀ n_0 b_3a b_3b b_3c g w, W0 R n_0 b_3a b_3b b_3c w → L0 n_0 b_3a b_3b b_3c g w) → t0 R L0 n_0 w
theorem at0 (R : Ending → World → Prop) (n_0 : Int) (b_3a : Option Addr) (b_3b : Nat) (b_3c : Nat) (g : List Value) (w : World) (h : W0 R  n_0 b_3a b_3b b_3c w) : atV Tryz.prog (bodyC Tryz.f116) [true, true, false, false] (retQ Tryz.prog Tryz.f116 R) [.int .u64 n_0, nth g 0, nth g 1, .slice b_3a b_3b b_3c, nth g 2, nth g 3, nth g 4, nth g 5, nth g 6, nth g 7, nth g 8, nth g 9, nth g 10, nth g 11, nth g 12, nth g 13, nth g 14, nth g 15, nth g 16, nth g 17] w := by
  obtain ⟨I, n0, h0, hs⟩ := h
  refine atV_loop (by kernel_rfl) (fun n s w => ∃ (n_0 : Int) (b_3a : Option Addr) (b_3b : Nat) (b_3c : Nat) (g : List Value), s = [.int .u64 n_0, nth g 0, nth g 1, .slice b_3a b_3b b_3c, nth g 2, nth g 3, nth g 4, nth g 5, nth g 6, nth g 7, nth g 8, nth g 9, nth g 10, nth g 11, nth g 12, nth g 13, nth g 14, nth g 15, nth g 16, nth g 17] ∧ I n n_0 b_3a b_3b b_3c w) n0 ⟨_, _, _, _, _, rfl, h0⟩ ?_
  rintro n s w ⟨n_0, b_3a, b_3b, b_3c, g, rfl, hI⟩
  exact Eq.mpr (by kernel_rfl) (hs n n_0 b_3a b_3b b_3c g w hI (fun n_0 b_3a b_3b b_3c g w => (backQ (fun n s w => ∃ (n_0 : Int) (b_3a : Option Addr) (b_3b : Nat) (b_3c : Nat) (g : List Value), s = [.int .u64 n_0, nth g 0, nth g 1, .slice b_3a b_3b b_3c, nth g 2, nth g 3, nth g 4, nth g 5, nth g 6, nth g 7, nth g 8, nth g 9, nth g 10, nth g 11, nth g 12, nth g 13, nth g 14, nth g 15, nth g 16, nth g 17] ∧ I n n_0 b_3a b_3b b_3c w) n (ctxQ Tryz.prog (bodyC Tryz.f116) [true, true, false, false] (retQ Tryz.prog Tryz.f116 R))) .normal [.int .u64 n_0, nth g 0, nth g 1, .slice b_3a b_3b b_3c, nth g 2, nth g 3, nth g 4, nth g 5, nth g 6, nth g 7, nth g 8, nth g 9, nth g 10, nth g 11, nth g 12, nth g 13, nth g 14, nth g 15, nth g 16, nth g 17] w) (fun m n_0 b_3a b_3b b_3c g w hm hI => ⟨m, hm, n_0, b_3a, b_3b, b_3c, g, rfl, hI⟩))
theorem calls (R : Ending → World → Prop) (n_0 : Int) (w : World) (h : vc R n_0 w) : Calls Tryz.prog 116 #[.int .u64 n_0] w R :=
  calls_V Tryz.func116 (Eq.mpr (by kernel_rfl) (h (fun n_0 b_3a b_3b b_3c g w => atV Tryz.prog (bodyC Tryz.f116) [true, true, false, false] (retQ Tryz.prog Tryz.f116 R) [.int .u64 n_0, nth g 0, nth g 1, .slice b_3a b_3b b_3c, nth g 2, nth g 3, nth g 4, nth g 5, nth g 6, nth g 7, nth g 8, nth g 9, nth g 10, nth g 11, nth g 12, nth g 13, nth g 14, nth g 15, nth g 16, nth g 17] w) (fun n_0 b_3a b_3b b_3c g w h => at0 R n_0 b_3a b_3b b_3c g w h)))
end num_Put
end Go.Proofs.YtcofknlcdgidpaaGreatDoor
/-! ## Num -/
namespace Go.Proofs.YtcofknlcdgidpaaGreatDoor
open Go Go.RowKit Go.Proofs.YtcofknlcdgidpaaGreatDoor.VC
set_option linter.unusedVariables false
set_option maxRecDepth 100000

theorem u8s_one (n : Nat) (h : n < 256) : u8s [UInt8.ofNat n] = [.int .u8 (n : Int)] := by
  simp [u8s, Nat.mod_eq_of_lt h]

theorem num_put (N : Nat) (hN : N < 18446744073709551616) (w0 : World) :
    Calls Tryz.prog 116 #[.int .u64 N] w0 (fun e w => e = .returned (.string ⟨(numB N).toArray⟩) ∧ Below w0.heap.size w0 w) := by
  apply num_Put.calls
  intro L0 hL
  apply hL
  refine ⟨fun m n a b c w => ∃ (bs : List UInt8), n = (m : Int) ∧ m ≤ N ∧ bs ++ numB m = numB N ∧ w.ownsRow w0.heap.size 5 1 (.slice a b c) b (u8s bs) ∧ Below w0.heap.size w0 w, N, ⟨[], rfl, Nat.le_refl _, rfl, World.ownsRow_nil _ _ _ _, Below.refl _ _⟩, ?_⟩
  rintro k n a b c g w ⟨bs, rfl, hk, hbs, hown, hbel⟩ Back hback
  have hlen : bs.length = b := by simpa [u8s] using hown.1
  have h10 : bs.length + (numB k).length ≤ 10 := by have := congrArg List.length hbs; have := numB_len10 hN; simp at *; omega
  unfold num_Put.t1
  rw [boolV_iff]
  constructor
  · intro h
    have hk128 : ¬ k < 128 := by simp at h; omega
    rintro b1 w2 rfl rfl
    refine appendV (P := Tryz.prog) (size := 1) (by kernel_rfl) hown hbel.size (m := 1) (by rfl) (by simp [Value.oneCell']) (by decide) (by omega) ?_
    intro g' c' w' ho hb hg hs
    refine ⟨_, _, _, rfl, ?_⟩
    refine hback (k / 128) _ _ _ _ _ _ (by omega) ⟨bs ++ [UInt8.ofNat (k % 128 + 128)], ?_, by omega, ?_, ?_, hbel.trans hb⟩
    · exact shr_nat k (j := 7) (by decide)
    · rw [List.append_assoc, ← hbs, numB_ge hk128]; rfl
    · rw [u8s_append, u8s_one _ (by omega)]
      rw [wrap_u8, show (128 : Int) = ((128 : Nat) : Int) from rfl, bits_or rfl (show k % 256 < 2 ^ 8 by omega) (by decide), or_128 (by omega), show k % 256 % 128 = k % 128 by omega] at ho
      exact ho
  · intro h
    have hk128 : k < 128 := by simp at h; omega
    rintro b1 w2 rfl rfl
    refine appendV (P := Tryz.prog) (size := 1) (by kernel_rfl) hown hbel.size (m := 1) (by rfl) (by simp [Value.oneCell']) (by decide) (by omega) ?_
    intro g' c' w' ho hb hg hs
    refine ⟨_, _, _, rfl, ⟨(numB N).toArray⟩, ?_, rfl, hbel.trans hb⟩
    refine bytesAt_own (B := w0.heap.size) (e := 5) (c := c') ?_
    rw [← hbs, numB_lt hk128, u8s_append, u8s_one _ (by omega)]
    rw [wrap_u8, show k % 256 = k by omega] at ho
    exact ho
end Go.Proofs.YtcofknlcdgidpaaGreatDoor
/-! ## GnumPutText -/
namespace Go.Proofs.YtcofknlcdgidpaaGreatDoor
open Go Go.Proofs.YtcofknlcdgidpaaGreatDoor.VC
set_option linter.unusedVariables false
set_option maxRecDepth 100000
set_option maxHeartbeats 0

/-! ### postroom/num.PutText: function 117 -/
namespace num_PutText
def t0 (R : Ending → World → Prop)  (t_0 : ByteArray) (w : World) : Prop := Calls Tryz.prog 116 #[.int .u64 (IntKind.wrap .u64 ((t_0.size : Nat) : Int))] w (fun e1 w2 => ∃ s3 : ByteArray, e1 = .returned (.string s3) ∧ (s3.size + t_0.size ≤ 9223372036854775807 ∧ (R (.returned (.string (s3 ++ t_0))) w2)))
def vc (R : Ending → World → Prop) (t_0 : ByteArray) (w : World) : Prop := t0 R  t_0 w
theorem calls (R : Ending → World → Prop) (t_0 : ByteArray) (w : World) (h : vc R t_0 w) : Calls Tryz.prog 117 #[.string t_0] w R :=
  calls_V Tryz.func117 (Eq.mpr (by kernel_rfl) (h))
end num_PutText
end Go.Proofs.YtcofknlcdgidpaaGreatDoor
/-! ## GnumPutInt -/
namespace Go.Proofs.YtcofknlcdgidpaaGreatDoor
open Go Go.Proofs.YtcofknlcdgidpaaGreatDoor.VC
set_option linter.unusedVariables false
set_option maxRecDepth 100000
set_option maxHeartbeats 0

/-! ### postroom/num.PutInt: function 119 -/
namespace num_PutInt
def t0 (R : Ending → World → Prop)  (n_0 : Int) (w : World) : Prop := Calls Tryz.prog 116 #[.int .u64 (Go.bits .xor .u64 (shlI .u64 (IntKind.wrap .u64 n_0) 1) (IntKind.wrap .u64 (shrI .i64 n_0 63)))] w (fun e1 w2 => ∃ s3 : ByteArray, e1 = .returned (.string s3) ∧ (R (.returned (.string s3)) w2))
def vc (R : Ending → World → Prop) (n_0 : Int) (w : World) : Prop := t0 R  n_0 w
theorem calls (R : Ending → World → Prop) (n_0 : Int) (w : World) (h : vc R n_0 w) : Calls Tryz.prog 119 #[.int .i64 n_0] w R :=
  calls_V Tryz.func119 (Eq.mpr (by kernel_rfl) (h))
end num_PutInt
end Go.Proofs.YtcofknlcdgidpaaGreatDoor
/-! ## GnumTake -/
namespace Go.Proofs.YtcofknlcdgidpaaGreatDoor
open Go Go.Proofs.YtcofknlcdgidpaaGreatDoor.VC
set_option linter.unusedVariables false
set_option maxRecDepth 100000
set_option maxHeartbeats 0

/-! ### postroom/num.Take: function 171 -/
namespace num_Take
def t1 (R : Ending → World → Prop)  (Back0 : Int → Int → Int → List Value → World → Prop)  (s_0 : ByteArray) (n_5 : Int) (k_6 : Int) (x_10 : Int) (x_11 : Int) (g : List Value) (w : World) : Prop := boolV (decide (x_11 < x_10)) ((0 ≤ x_11 ∧ x_11 < s_0.size) ∧ (boolV (x_11 == (9 : Int)) (boolV (decide ((IntKind.wrap .u64 ((byteAt s_0 x_11.toNat).toNat : Int)) > (1 : Int))) (boolV (decide ((IntKind.wrap .u64 ((byteAt s_0 x_11.toNat).toNat : Int)) > (1 : Int))) (boolV (decide (k_6 < (0 : Int))) (R (.returned (.tuple #[.int .u64 0, .string ⟨#[]⟩, .int .i64 2])) w) (∃ C1 : World → Prop, (∀ w' : World, w'.heap = w.heap → w'.tape = w.tape → w'.os = w.os → w'.output = w.output → C1 w') ∧ ((0 ≤ k_6 ∧ k_6 ≤ s_0.size) ∧ (∀ w2 : World, C1 w2 → R (.returned (.tuple #[.int .u64 n_5, .string (s_0.extract k_6.toNat s_0.size), .int .i64 0])) w2)))) (boolV (decide ((IntKind.wrap .u64 ((byteAt s_0 x_11.toNat).toNat : Int)) < (128 : Int))) (nonnegV (IntKind.wrap .i64 (7 * x_11)) (boolV (decide ((IntKind.wrap .i64 (x_11 + 1)) < (0 : Int))) (R (.returned (.tuple #[.int .u64 0, .string ⟨#[]⟩, .int .i64 2])) w) (∃ C3 : World → Prop, (∀ w' : World, w'.heap = w.heap → w'.tape = w.tape → w'.os = w.os → w'.output = w.output → C3 w') ∧ ((0 ≤ (IntKind.wrap .i64 (x_11 + 1)) ∧ (IntKind.wrap .i64 (x_11 + 1)) ≤ s_0.size) ∧ (∀ w4 : World, C3 w4 → R (.returned (.tuple #[.int .u64 (Go.bits .or .u64 n_5 (shlI .u64 (IntKind.wrap .u64 ((byteAt s_0 x_11.toNat).toNat : Int)) (IntKind.wrap .i64 (7 * x_11)))), .string (s_0.extract (IntKind.wrap .i64 (x_11 + 1)).toNat s_0.size), .int .i64 0])) w4))))) (nonnegV (IntKind.wrap .i64 (7 * x_11)) (Back0 (Go.bits .or .u64 n_5 (shlI .u64 (Go.bits .and .u64 (IntKind.wrap .u64 ((byteAt s_0 x_11.toNat).toNat : Int)) 127) (IntKind.wrap .i64 (7 * x_11)))) k_6 (IntKind.wrap .i64 (x_11 + 1)) [nth g 0, nth g 1, nth g 2, nth g 3, .int .i64 x_11, .int .u64 (IntKind.wrap .u64 ((byteAt s_0 x_11.toNat).toNat : Int)), nth g 6, .bool (decide (x_11 < x_10)), .int .i64 x_11, .string s_0, .int .i64 x_11, .int .u8 ((byteAt s_0 x_11.toNat).toNat : Int), .int .u64 (IntKind.wrap .u64 ((byteAt s_0 x_11.toNat).toNat : Int)), .bool (decide ((IntKind.wrap .u64 ((byteAt s_0 x_11.toNat).toNat : Int)) > (1 : Int))), .int .i64 x_11, .bool (x_11 == (9 : Int)), .bool true, .int .u64 (IntKind.wrap .u64 ((byteAt s_0 x_11.toNat).toNat : Int)), .bool (decide ((IntKind.wrap .u64 ((byteAt s_0 x_11.toNat).toNat : Int)) > (1 : Int))), .bool (decide ((IntKind.wrap .u64 ((byteAt s_0 x_11.toNat).toNat : Int)) > (1 : Int))), nth g 20, nth g 21, nth g 22, nth g 23, nth g 24, nth g 25, .bool (decide ((IntKind.wrap .u64 ((byteAt s_0 x_11.toNat).toNat : Int)) < (128 : Int))), .int .u64 (IntKind.wrap .u64 ((byteAt s_0 x_11.toNat).toNat : Int)), .bool (decide ((IntKind.wrap .u64 ((byteAt s_0 x_11.toNat).toNat : Int)) < (128 : Int))), nth g 29, nth g 30, nth g 31, nth g 32, nth g 33, nth g 34, nth g 35, nth g 36, .int .u64 n_5, .int .u64 (IntKind.wrap .u64 ((byteAt s_0 x_11.toNat).toNat : Int)), .int .u64 (Go.bits .and .u64 (IntKind.wrap .u64 ((byteAt s_0 x_11.toNat).toNat : Int)) 127), .int .i64 x_11, .int .i64 (IntKind.wrap .i64 (7 * x_11)), .int .u64 (shlI .u64 (Go.bits .and .u64 (IntKind.wrap .u64 ((byteAt s_0 x_11.toNat).toNat : Int)) 127) (IntKind.wrap .i64 (7 * x_11))), .int .u64 (Go.bits .or .u64 n_5 (shlI .u64 (Go.bits .and .u64 (IntKind.wrap .u64 ((byteAt s_0 x_11.toNat).toNat : Int)) 127) (IntKind.wrap .i64 (7 * x_11)))), .int .i64 (IntKind.wrap .i64 (x_11 + 1)), nth g 45, nth g 46, nth g 47, nth g 48, nth g 49, nth g 50] w)))) (boolV (decide (x_11 > (0 : Int))) (boolV ((IntKind.wrap .u64 ((byteAt s_0 x_11.toNat).toNat : Int)) == (0 : Int)) (boolV (decide (k_6 < (0 : Int))) (R (.returned (.tuple #[.int .u64 0, .string ⟨#[]⟩, .int .i64 2])) w) (∃ C5 : World → Prop, (∀ w' : World, w'.heap = w.heap → w'.tape = w.tape → w'.os = w.os → w'.output = w.output → C5 w') ∧ ((0 ≤ k_6 ∧ k_6 ≤ s_0.size) ∧ (∀ w6 : World, C5 w6 → R (.returned (.tuple #[.int .u64 n_5, .string (s_0.extract k_6.toNat s_0.size), .int .i64 0])) w6)))) (boolV (decide ((IntKind.wrap .u64 ((byteAt s_0 x_11.toNat).toNat : Int)) < (128 : Int))) (nonnegV (IntKind.wrap .i64 (7 * x_11)) (boolV (decide ((IntKind.wrap .i64 (x_11 + 1)) < (0 : Int))) (R (.returned (.tuple #[.int .u64 0, .string ⟨#[]⟩, .int .i64 2])) w) (∃ C7 : World → Prop, (∀ w' : World, w'.heap = w.heap → w'.tape = w.tape → w'.os = w.os → w'.output = w.output → C7 w') ∧ ((0 ≤ (IntKind.wrap .i64 (x_11 + 1)) ∧ (IntKind.wrap .i64 (x_11 + 1)) ≤ s_0.size) ∧ (∀ w8 : World, C7 w8 → R (.returned (.tuple #[.int .u64 (Go.bits .or .u64 n_5 (shlI .u64 (IntKind.wrap .u64 ((byteAt s_0 x_11.toNat).toNat : Int)) (IntKind.wrap .i64 (7 * x_11)))), .string (s_0.extract (IntKind.wrap .i64 (x_11 + 1)).toNat s_0.size), .int .i64 0])) w8))))) (nonnegV (IntKind.wrap .i64 (7 * x_11)) (Back0 (Go.bits .or .u64 n_5 (shlI .u64 (Go.bits .and .u64 (IntKind.wrap .u64 ((byteAt s_0 x_11.toNat).toNat : Int)) 127) (IntKind.wrap .i64 (7 * x_11)))) k_6 (IntKind.wrap .i64 (x_11 + 1)) [nth g 0, nth g 1, nth g 2, nth g 3, .int .i64 x_11, .int .u64 (IntKind.wrap .u64 ((byteAt s_0 x_11.toNat).toNat : Int)), nth g 6, .bool (decide (x_11 < x_10)), .int .i64 x_11, .string s_0, .int .i64 x_11, .int .u8 ((byteAt s_0 x_11.toNat).toNat : Int), .int .u64 (IntKind.wrap .u64 ((byteAt s_0 x_11.toNat).toNat : Int)), .bool ((IntKind.wrap .u64 ((byteAt s_0 x_11.toNat).toNat : Int)) == (0 : Int)), .int .i64 x_11, .bool (x_11 == (9 : Int)), .bool true, .int .u64 (IntKind.wrap .u64 ((byteAt s_0 x_11.toNat).toNat : Int)), .bool (decide ((IntKind.wrap .u64 ((byteAt s_0 x_11.toNat).toNat : Int)) > (1 : Int))), .bool (decide ((IntKind.wrap .u64 ((byteAt s_0 x_11.toNat).toNat : Int)) > (1 : Int))), .int .i64 x_11, .bool (decide (x_11 > (0 : Int))), .bool true, .int .u64 (IntKind.wrap .u64 ((byteAt s_0 x_11.toNat).toNat : Int)), .bool ((IntKind.wrap .u64 ((byteAt s_0 x_11.toNat).toNat : Int)) == (0 : Int)), .bool ((IntKind.wrap .u64 ((byteAt s_0 x_11.toNat).toNat : Int)) == (0 : Int)), .bool (decide ((IntKind.wrap .u64 ((byteAt s_0 x_11.toNat).toNat : Int)) < (128 : Int))), .int .u64 (IntKind.wrap .u64 ((byteAt s_0 x_11.toNat).toNat : Int)), .bool (decide ((IntKind.wrap .u64 ((byteAt s_0 x_11.toNat).toNat : Int)) < (128 : Int))), nth g 29, nth g 30, nth g 31, nth g 32, nth g 33, nth g 34, nth g 35, nth g 36, .int .u64 n_5, .int .u64 (IntKind.wrap .u64 ((byteAt s_0 x_11.toNat).toNat : Int)), .int .u64 (Go.bits .and .u64 (IntKind.wrap .u64 ((byteAt s_0 x_11.toNat).toNat : Int)) 127), .int .i64 x_11, .int .i64 (IntKind.wrap .i64 (7 * x_11)), .int .u64 (shlI .u64 (Go.bits .and .u64 (IntKind.wrap .u64 ((byteAt s_0 x_11.toNat).toNat : Int)) 127) (IntKind.wrap .i64 (7 * x_11))), .int .u64 (Go.bits .or .u64 n_5 (shlI .u64 (Go.bits .and .u64 (IntKind.wrap .u64 ((byteAt s_0 x_11.toNat).toNat : Int)) 127) (IntKind.wrap .i64 (7 * x_11)))), .int .i64 (IntKind.wrap .i64 (x_11 + 1)), nth g 45, nth g 46, nth g 47, nth g 48, nth g 49, nth g 50] w)))) (boolV (decide ((IntKind.wrap .u64 ((byteAt s_0 x_11.toNat).toNat : Int)) < (128 : Int))) (nonnegV (IntKind.wrap .i64 (7 * x_11)) (boolV (decide ((IntKind.wrap .i64 (x_11 + 1)) < (0 : Int))) (R (.returned (.tuple #[.int .u64 0, .string ⟨#[]⟩, .int .i64 2])) w) (∃ C9 : World → Prop, (∀ w' : World, w'.heap = w.heap → w'.tape = w.tape → w'.os = w.os → w'.output = w.output → C9 w') ∧ ((0 ≤ (IntKind.wrap .i64 (x_11 + 1)) ∧ (IntKind.wrap .i64 (x_11 + 1)) ≤ s_0.size) ∧ (∀ w10 : World, C9 w10 → R (.returned (.tuple #[.int .u64 (Go.bits .or .u64 n_5 (shlI .u64 (IntKind.wrap .u64 ((byteAt s_0 x_11.toNat).toNat : Int)) (IntKind.wrap .i64 (7 * x_11)))), .string (s_0.extract (IntKind.wrap .i64 (x_11 + 1)).toNat s_0.size), .int .i64 0])) w10))))) (nonnegV (IntKind.wrap .i64 (7 * x_11)) (Back0 (Go.bits .or .u64 n_5 (shlI .u64 (Go.bits .and .u64 (IntKind.wrap .u64 ((byteAt s_0 x_11.toNat).toNat : Int)) 127) (IntKind.wrap .i64 (7 * x_11)))) k_6 (IntKind.wrap .i64 (x_11 + 1)) [nth g 0, nth g 1, nth g 2, nth g 3, .int .i64 x_11, .int .u64 (IntKind.wrap .u64 ((byteAt s_0 x_11.toNat).toNat : Int)), nth g 6, .bool (decide (x_11 < x_10)), .int .i64 x_11, .string s_0, .int .i64 x_11, .int .u8 ((byteAt s_0 x_11.toNat).toNat : Int), .int .u64 (IntKind.wrap .u64 ((byteAt s_0 x_11.toNat).toNat : Int)), .bool false, .int .i64 x_11, .bool (x_11 == (9 : Int)), .bool true, .int .u64 (IntKind.wrap .u64 ((byteAt s_0 x_11.toNat).toNat : Int)), .bool (decide ((IntKind.wrap .u64 ((byteAt s_0 x_11.toNat).toNat : Int)) > (1 : Int))), .bool (decide ((IntKind.wrap .u64 ((byteAt s_0 x_11.toNat).toNat : Int)) > (1 : Int))), .int .i64 x_11, .bool (decide (x_11 > (0 : Int))), .bool false, undef, undef, .bool false, .bool (decide ((IntKind.wrap .u64 ((byteAt s_0 x_11.toNat).toNat : Int)) < (128 : Int))), .int .u64 (IntKind.wrap .u64 ((byteAt s_0 x_11.toNat).toNat : Int)), .bool (decide ((IntKind.wrap .u64 ((byteAt s_0 x_11.toNat).toNat : Int)) < (128 : Int))), nth g 29, nth g 30, nth g 31, nth g 32, nth g 33, nth g 34, nth g 35, nth g 36, .int .u64 n_5, .int .u64 (IntKind.wrap .u64 ((byteAt s_0 x_11.toNat).toNat : Int)), .int .u64 (Go.bits .and .u64 (IntKind.wrap .u64 ((byteAt s_0 x_11.toNat).toNat : Int)) 127), .int .i64 x_11, .int .i64 (IntKind.wrap .i64 (7 * x_11)), .int .u64 (shlI .u64 (Go.bits .and .u64 (IntKind.wrap .u64 ((byteAt s_0 x_11.toNat).toNat : Int)) 127) (IntKind.wrap .i64 (7 * x_11))), .int .u64 (Go.bits .or .u64 n_5 (shlI .u64 (Go.bits .and .u64 (IntKind.wrap .u64 ((byteAt s_0 x_11.toNat).toNat : Int)) 127) (IntKind.wrap .i64 (7 * x_11)))), .int .i64 (IntKind.wrap .i64 (x_11 + 1)), nth g 45, nth g 46, nth g 47, nth g 48, nth g 49, nth g 50] w))))) (boolV (decide (x_11 > (0 : Int))) (boolV ((IntKind.wrap .u64 ((byteAt s_0 x_11.toNat).toNat : Int)) == (0 : Int)) (boolV (decide (k_6 < (0 : Int))) (R (.returned (.tuple #[.int .u64 0, .string ⟨#[]⟩, .int .i64 2])) w) (∃ C11 : World → Prop, (∀ w' : World, w'.heap = w.heap → w'.tape = w.tape → w'.os = w.os → w'.output = w.output → C11 w') ∧ ((0 ≤ k_6 ∧ k_6 ≤ s_0.size) ∧ (∀ w12 : World, C11 w12 → R (.returned (.tuple #[.int .u64 n_5, .string (s_0.extract k_6.toNat s_0.size), .int .i64 0])) w12)))) (boolV (decide ((IntKind.wrap .u64 ((byteAt s_0 x_11.toNat).toNat : Int)) < (128 : Int))) (nonnegV (IntKind.wrap .i64 (7 * x_11)) (boolV (decide ((IntKind.wrap .i64 (x_11 + 1)) < (0 : Int))) (R (.returned (.tuple #[.int .u64 0, .string ⟨#[]⟩, .int .i64 2])) w) (∃ C13 : World → Prop, (∀ w' : World, w'.heap = w.heap → w'.tape = w.tape → w'.os = w.os → w'.output = w.output → C13 w') ∧ ((0 ≤ (IntKind.wrap .i64 (x_11 + 1)) ∧ (IntKind.wrap .i64 (x_11 + 1)) ≤ s_0.size) ∧ (∀ w14 : World, C13 w14 → R (.returned (.tuple #[.int .u64 (Go.bits .or .u64 n_5 (shlI .u64 (IntKind.wrap .u64 ((byteAt s_0 x_11.toNat).toNat : Int)) (IntKind.wrap .i64 (7 * x_11)))), .string (s_0.extract (IntKind.wrap .i64 (x_11 + 1)).toNat s_0.size), .int .i64 0])) w14))))) (nonnegV (IntKind.wrap .i64 (7 * x_11)) (Back0 (Go.bits .or .u64 n_5 (shlI .u64 (Go.bits .and .u64 (IntKind.wrap .u64 ((byteAt s_0 x_11.toNat).toNat : Int)) 127) (IntKind.wrap .i64 (7 * x_11)))) k_6 (IntKind.wrap .i64 (x_11 + 1)) [nth g 0, nth g 1, nth g 2, nth g 3, .int .i64 x_11, .int .u64 (IntKind.wrap .u64 ((byteAt s_0 x_11.toNat).toNat : Int)), nth g 6, .bool (decide (x_11 < x_10)), .int .i64 x_11, .string s_0, .int .i64 x_11, .int .u8 ((byteAt s_0 x_11.toNat).toNat : Int), .int .u64 (IntKind.wrap .u64 ((byteAt s_0 x_11.toNat).toNat : Int)), .bool ((IntKind.wrap .u64 ((byteAt s_0 x_11.toNat).toNat : Int)) == (0 : Int)), .int .i64 x_11, .bool (x_11 == (9 : Int)), .bool false, undef, undef, .bool false, .int .i64 x_11, .bool (decide (x_11 > (0 : Int))), .bool true, .int .u64 (IntKind.wrap .u64 ((byteAt s_0 x_11.toNat).toNat : Int)), .bool ((IntKind.wrap .u64 ((byteAt s_0 x_11.toNat).toNat : Int)) == (0 : Int)), .bool ((IntKind.wrap .u64 ((byteAt s_0 x_11.toNat).toNat : Int)) == (0 : Int)), .bool (decide ((IntKind.wrap .u64 ((byteAt s_0 x_11.toNat).toNat : Int)) < (128 : Int))), .int .u64 (IntKind.wrap .u64 ((byteAt s_0 x_11.toNat).toNat : Int)), .bool (decide ((IntKind.wrap .u64 ((byteAt s_0 x_11.toNat).toNat : Int)) < (128 : Int))), nth g 29, nth g 30, nth g 31, nth g 32, nth g 33, nth g 34, nth g 35, nth g 36, .int .u64 n_5, .int .u64 (IntKind.wrap .u64 ((byteAt s_0 x_11.toNat).toNat : Int)), .int .u64 (Go.bits .and .u64 (IntKind.wrap .u64 ((byteAt s_0 x_11.toNat).toNat : Int)) 127), .int .i64 x_11, .int .i64 (IntKind.wrap .i64 (7 * x_11)), .int .u64 (shlI .u64 (Go.bits .and .u64 (IntKind.wrap .u64 ((byteAt s_0 x_11.toNat).toNat : Int)) 127) (IntKind.wrap .i64 (7 * x_11))), .int .u64 (Go.bits .or .u64 n_5 (shlI .u64 (Go.bits .and .u64 (IntKind.wrap .u64 ((byteAt s_0 x_11.toNat).toNat : Int)) 127) (IntKind.wrap .i64 (7 * x_11)))), .int .i64 (IntKind.wrap .i64 (x_11 + 1)), nth g 45, nth g 46, nth g 47, nth g 48, nth g 49, nth g 50] w)))) (boolV (decide ((IntKind.wrap .u64 ((byteAt s_0 x_11.toNat).toNat : Int)) < (128 : Int))) (nonnegV (IntKind.wrap .i64 (7 * x_11)) (boolV (decide ((IntKind.wrap .i64 (x_11 + 1)) < (0 : Int))) (R (.returned (.tuple #[.int .u64 0, .string ⟨#[]⟩, .int .i64 2])) w) (∃ C15 : World → Prop, (∀ w' : World, w'.heap = w.heap → w'.tape = w.tape → w'.os = w.os → w'.output = w.output → C15 w') ∧ ((0 ≤ (IntKind.wrap .i64 (x_11 + 1)) ∧ (IntKind.wrap .i64 (x_11 + 1)) ≤ s_0.size) ∧ (∀ w16 : World, C15 w16 → R (.returned (.tuple #[.int .u64 (Go.bits .or .u64 n_5 (shlI .u64 (IntKind.wrap .u64 ((byteAt s_0 x_11.toNat).toNat : Int)) (IntKind.wrap .i64 (7 * x_11)))), .string (s_0.extract (IntKind.wrap .i64 (x_11 + 1)).toNat s_0.size), .int .i64 0])) w16))))) (nonnegV (IntKind.wrap .i64 (7 * x_11)) (Back0 (Go.bits .or .u64 n_5 (shlI .u64 (Go.bits .and .u64 (IntKind.wrap .u64 ((byteAt s_0 x_11.toNat).toNat : Int)) 127) (IntKind.wrap .i64 (7 * x_11)))) k_6 (IntKind.wrap .i64 (x_11 + 1)) [nth g 0, nth g 1, nth g 2, nth g 3, .int .i64 x_11, .int .u64 (IntKind.wrap .u64 ((byteAt s_0 x_11.toNat).toNat : Int)), nth g 6, .bool (decide (x_11 < x_10)), .int .i64 x_11, .string s_0, .int .i64 x_11, .int .u8 ((byteAt s_0 x_11.toNat).toNat : Int), .int .u64 (IntKind.wrap .u64 ((byteAt s_0 x_11.toNat).toNat : Int)), .bool false, .int .i64 x_11, .bool (x_11 == (9 : Int)), .bool false, undef, undef, .bool false, .int .i64 x_11, .bool (decide (x_11 > (0 : Int))), .bool false, undef, undef, .bool false, .bool (decide ((IntKind.wrap .u64 ((byteAt s_0 x_11.toNat).toNat : Int)) < (128 : Int))), .int .u64 (IntKind.wrap .u64 ((byteAt s_0 x_11.toNat).toNat : Int)), .bool (decide ((IntKind.wrap .u64 ((byteAt s_0 x_11.toNat).toNat : Int)) < (128 : Int))), nth g 29, nth g 30, nth g 31, nth g 32, nth g 33, nth g 34, nth g 35, nth g 36, .int .u64 n_5, .int .u64 (IntKind.wrap .u64 ((byteAt s_0 x_11.toNat).toNat : Int)), .int .u64 (Go.bits .and .u64 (IntKind.wrap .u64 ((byteAt s_0 x_11.toNat).toNat : Int)) 127), .int .i64 x_11, .int .i64 (IntKind.wrap .i64 (7 * x_11)), .int .u64 (shlI .u64 (Go.bits .and .u64 (IntKind.wrap .u64 ((byteAt s_0 x_11.toNat).toNat : Int)) 127) (IntKind.wrap .i64 (7 * x_11))), .int .u64 (Go.bits .or .u64 n_5 (shlI .u64 (Go.bits .and .u64 (IntKind.wrap .u64 ((byteAt s_0 x_11.toNat).toNat : Int)) 127) (IntKind.wrap .i64 (7 * x_11)))), .int .i64 (IntKind.wrap .i64 (x_11 + 1)), nth g 45, nth g 46, nth g 47, nth g 48, nth g 49, nth g 50] w)))))) (boolV (decide (k_6 < (0 : Int))) (R (.returned (.tuple #[.int .u64 0, .string ⟨#[]⟩, .int .i64 2])) w) (∃ C17 : World → Prop, (∀ w' : World, w'.heap = w.heap → w'.tape = w.tape → w'.os = w.os → w'.output = w.output → C17 w') ∧ ((0 ≤ k_6 ∧ k_6 ≤ s_0.size) ∧ (∀ w18 : World, C17 w18 → R (.returned (.tuple #[.int .u64 n_5, .string (s_0.extract k_6.toNat s_0.size), .int .i64 0])) w18))))
def W0 (R : Ending → World → Prop)  (s_0 : ByteArray) (n_5 : Int) (k_6 : Int) (x_10 : Int) (x_11 : Int) (w : World) : Prop := ∃ (I : Nat → Int → Int → Int → World → Prop) (n : Nat), I n n_5 k_6 x_11 w ∧ ∀ (n : Nat) (n_5 : Int) (k_6 : Int) (x_11 : Int) (g : List Value) (w : World), I n n_5 k_6 x_11 w → ∀ (Back0 : Int → Int → Int → List Value → World → Prop), (∀ (m : Nat) (n_5 : Int) (k_6 : Int) (x_11 : Int) (g : List Value) (w : World), m < n → I m n_5 k_6 x_11 w → Back0 n_5 k_6 x_11 g w) → t1 R  Back0  s_0 n_5 k_6 x_10 x_11 g w
def t0 (R : Ending → World → Prop) (L0 : ByteArray → Int → Int → Int → Int → List Value → World → Prop) (s_0 : ByteArray) (w : World) : Prop := L0 s_0 0 (-1) ((s_0.size : Nat) : Int) 0 [undef, .int .u64 0, .string ⟨#[]⟩, .int .i64 0, undef, undef, .string s_0, undef, undef, undef, undef, undef, undef, undef, undef, undef, undef, undef, undef, undef, undef, undef, undef, undef, undef, undef, undef, undef, undef, undef, undef, undef, undef, undef, undef, undef, undef, undef, undef, undef, undef, undef, undef, undef, undef, undef, undef, undef, undef, undef, undef] w
def vc (R : Ending → World → Prop) (s_0 : ByteArray) (w : World) : Prop := ∀ (L0 : ByteArray → Int → Int → Int → Int → List Value → World → Prop), (∀ s_0 n_5 k_6 x_10 x_11 g w, W0 R s_0 n_5 k_6 x_10 x_11 w → L0 s_0 n_5 k_6 x_10 x_11 g w) → t0 R L0 s_0 w
theorem at0 (R : Ending → World → Prop) (s_0 : ByteArray) (n_5 : Int) (k_6 : Int) (x_10 : Int) (x_11 : Int) (g : List Value) (w : World) (h : W0 R  s_0 n_5 k_6 x_10 x_11 w) : atV Tryz.prog (bodyC Tryz.f171) [true, false, true, true, false, true, false] (retQ Tryz.prog Tryz.f171 R) [.string s_0, nth g 0, nth g 1, nth g 2, nth g 3, .int .u64 n_5, .int .i64 k_6, nth g 4, nth g 5, nth g 6, .int .i64 x_10, .int .i64 x_11, nth g 7, nth g 8, nth g 9, nth g 10, nth g 11, nth g 12, nth g 13, nth g 14, nth g 15, nth g 16, nth g 17, nth g 18, nth g 19, nth g 20, nth g 21, nth g 22, nth g 23, nth g 24, nth g 25, nth g 26, nth g 27, nth g 28, nth g 29, nth g 30, nth g 31, nth g 32, nth g 33, nth g 34, nth g 35, nth g 36, nth g 37, nth g 38, nth g 39, nth g 40, nth g 41, nth g 42, nth g 43, nth g 44, nth g 45, nth g 46, nth g 47, nth g 48, nth g 49, nth g 50] w := by
  obtain ⟨I, n0, h0, hs⟩ := h
  refine atV_loop (by kernel_rfl) (fun n s w => ∃ (n_5 : Int) (k_6 : Int) (x_11 : Int) (g : List Value), s = [.string s_0, nth g 0, nth g 1, nth g 2, nth g 3, .int .u64 n_5, .int .i64 k_6, nth g 4, nth g 5, nth g 6, .int .i64 x_10, .int .i64 x_11, nth g 7, nth g 8, nth g 9, nth g 10, nth g 11, nth g 12, nth g 13, nth g 14, nth g 15, nth g 16, nth g 17, nth g 18, nth g 19, nth g 20, nth g 21, nth g 22, nth g 23, nth g 24, nth g 25, nth g 26, nth g 27, nth g 28, nth g 29, nth g 30, nth g 31, nth g 32, nth g 33, nth g 34, nth g 35, nth g 36, nth g 37, nth g 38, nth g 39, nth g 40, nth g 41, nth g 42, nth g 43, nth g 44, nth g 45, nth g 46, nth g 47, nth g 48, nth g 49, nth g 50] ∧ I n n_5 k_6 x_11 w) n0 ⟨_, _, _, _, rfl, h0⟩ ?_
  rintro n s w ⟨n_5, k_6, x_11, g, rfl, hI⟩
  exact Eq.mpr (by kernel_rfl) (hs n n_5 k_6 x_11 g w hI (fun n_5 k_6 x_11 g w => (backQ (fun n s w => ∃ (n_5 : Int) (k_6 : Int) (x_11 : Int) (g : List Value), s = [.string s_0, nth g 0, nth g 1, nth g 2, nth g 3, .int .u64 n_5, .int .i64 k_6, nth g 4, nth g 5, nth g 6, .int .i64 x_10, .int .i64 x_11, nth g 7, nth g 8, nth g 9, nth g 10, nth g 11, nth g 12, nth g 13, nth g 14, nth g 15, nth g 16, nth g 17, nth g 18, nth g 19, nth g 20, nth g 21, nth g 22, nth g 23, nth g 24, nth g 25, nth g 26, nth g 27, nth g 28, nth g 29, nth g 30, nth g 31, nth g 32, nth g 33, nth g 34, nth g 35, nth g 36, nth g 37, nth g 38, nth g 39, nth g 40, nth g 41, nth g 42, nth g 43, nth g 44, nth g 45, nth g 46, nth g 47, nth g 48, nth g 49, nth g 50] ∧ I n n_5 k_6 x_11 w) n (ctxQ Tryz.prog (bodyC Tryz.f171) [true, false, true, true, false, true, false] (retQ Tryz.prog Tryz.f171 R))) .normal [.string s_0, nth g 0, nth g 1, nth g 2, nth g 3, .int .u64 n_5, .int .i64 k_6, nth g 4, nth g 5, nth g 6, .int .i64 x_10, .int .i64 x_11, nth g 7, nth g 8, nth g 9, nth g 10, nth g 11, nth g 12, nth g 13, nth g 14, nth g 15, nth g 16, nth g 17, nth g 18, nth g 19, nth g 20, nth g 21, nth g 22, nth g 23, nth g 24, nth g 25, nth g 26, nth g 27, nth g 28, nth g 29, nth g 30, nth g 31, nth g 32, nth g 33, nth g 34, nth g 35, nth g 36, nth g 37, nth g 38, nth g 39, nth g 40, nth g 41, nth g 42, nth g 43, nth g 44, nth g 45, nth g 46, nth g 47, nth g 48, nth g 49, nth g 50] w) (fun m n_5 k_6 x_11 g w hm hI => ⟨m, hm, n_5, k_6, x_11, g, rfl, hI⟩))
theorem calls (R : Ending → World → Prop) (s_0 : ByteArray) (w : World) (h : vc R s_0 w) : Calls Tryz.prog 171 #[.string s_0] w R :=
  calls_V Tryz.func171 (Eq.mpr (by kernel_rfl) (h (fun s_0 n_5 k_6 x_10 x_11 g w => atV Tryz.prog (bodyC Tryz.f171) [true, false, true, true, false, true, false] (retQ Tryz.prog Tryz.f171 R) [.string s_0, nth g 0, nth g 1, nth g 2, nth g 3, .int .u64 n_5, .int .i64 k_6, nth g 4, nth g 5, nth g 6, .int .i64 x_10, .int .i64 x_11, nth g 7, nth g 8, nth g 9, nth g 10, nth g 11, nth g 12, nth g 13, nth g 14, nth g 15, nth g 16, nth g 17, nth g 18, nth g 19, nth g 20, nth g 21, nth g 22, nth g 23, nth g 24, nth g 25, nth g 26, nth g 27, nth g 28, nth g 29, nth g 30, nth g 31, nth g 32, nth g 33, nth g 34, nth g 35, nth g 36, nth g 37, nth g 38, nth g 39, nth g 40, nth g 41, nth g 42, nth g 43, nth g 44, nth g 45, nth g 46, nth g 47, nth g 48, nth g 49, nth g 50] w) (fun s_0 n_5 k_6 x_10 x_11 g w h => at0 R s_0 n_5 k_6 x_10 x_11 g w h)))
end num_Take
end Go.Proofs.YtcofknlcdgidpaaGreatDoor
/-! ## GnumTakeText -/
namespace Go.Proofs.YtcofknlcdgidpaaGreatDoor
open Go Go.Proofs.YtcofknlcdgidpaaGreatDoor.VC
set_option linter.unusedVariables false
set_option maxRecDepth 100000
set_option maxHeartbeats 0

/-! ### postroom/num.TakeText: function 172 -/
namespace num_TakeText
def t0 (R : Ending → World → Prop)  (s_0 : ByteArray) (most_1 : Int) (w : World) : Prop := Calls Tryz.prog 171 #[.string s_0] w (fun e1 w2 => ∃ x3 : Int, ∃ s4 : ByteArray, ∃ x5 : Int, e1 = .returned (.tuple #[.int .u64 x3, .string s4, .int .i64 x5]) ∧ (boolV (x5 != (0 : Int)) (R (.returned (.tuple #[.string ⟨#[]⟩, .string ⟨#[]⟩, .int .i64 x5])) w2) (boolV (decide (x3 > (IntKind.wrap .u64 (max2I most_1 0)))) (R (.returned (.tuple #[.string ⟨#[]⟩, .string ⟨#[]⟩, .int .i64 7])) w2) (boolV (decide (x3 > (IntKind.wrap .u64 ((s4.size : Nat) : Int)))) (R (.returned (.tuple #[.string ⟨#[]⟩, .string ⟨#[]⟩, .int .i64 2])) w2) (∃ C6 : World → Prop, (∀ w' : World, w'.heap = w2.heap → w'.tape = w2.tape → w'.os = w2.os → w'.output = w2.output → C6 w') ∧ ((0 ≤ x3 ∧ x3 ≤ s4.size) ∧ ((0 ≤ x3 ∧ x3 ≤ s4.size) ∧ (∀ w7 : World, C6 w7 → R (.returned (.tuple #[.string (s4.extract 0 x3.toNat), .string (s4.extract x3.toNat s4.size), .int .i64 0])) w7))))))))
def vc (R : Ending → World → Prop) (s_0 : ByteArray) (most_1 : Int) (w : World) : Prop := t0 R  s_0 most_1 w
theorem calls (R : Ending → World → Prop) (s_0 : ByteArray) (most_1 : Int) (w : World) (h : vc R s_0 most_1 w) : Calls Tryz.prog 172 #[.string s_0, .int .i64 most_1] w R :=
  calls_V Tryz.func172 (Eq.mpr (by kernel_rfl) (h))
end num_TakeText
end Go.Proofs.YtcofknlcdgidpaaGreatDoor
/-! ## GnumTakeInt -/
namespace Go.Proofs.YtcofknlcdgidpaaGreatDoor
open Go Go.Proofs.YtcofknlcdgidpaaGreatDoor.VC
set_option linter.unusedVariables false
set_option maxRecDepth 100000
set_option maxHeartbeats 0

/-! ### postroom/num.TakeInt: function 173 -/
namespace num_TakeInt
def t0 (R : Ending → World → Prop)  (s_0 : ByteArray) (w : World) : Prop := Calls Tryz.prog 171 #[.string s_0] w (fun e1 w2 => ∃ x3 : Int, ∃ s4 : ByteArray, ∃ x5 : Int, e1 = .returned (.tuple #[.int .u64 x3, .string s4, .int .i64 x5]) ∧ (R (.returned (.tuple #[.int .i64 (Go.bits .xor .i64 (IntKind.wrap .i64 (shrI .u64 x3 1)) (IntKind.wrap .i64 (0 - (IntKind.wrap .i64 (Go.bits .and .u64 x3 1))))), .string s4, .int .i64 x5])) w2))
def vc (R : Ending → World → Prop) (s_0 : ByteArray) (w : World) : Prop := t0 R  s_0 w
theorem calls (R : Ending → World → Prop) (s_0 : ByteArray) (w : World) (h : vc R s_0 w) : Calls Tryz.prog 173 #[.string s_0] w R :=
  calls_V Tryz.func173 (Eq.mpr (by kernel_rfl) (h))
end num_TakeInt
end Go.Proofs.YtcofknlcdgidpaaGreatDoor
/-! ## NumTake -/
namespace Go.Proofs.YtcofknlcdgidpaaGreatDoor
open Go Go.RowKit Go.Proofs.YtcofknlcdgidpaaGreatDoor.VC
set_option linter.unusedVariables false
set_option maxRecDepth 100000

def takeV : Option (Nat × List UInt8) → Value
  | some (n, r) => .tuple #[.int .u64 n, .string (S r), .int .i64 0]
  | none => .tuple #[.int .u64 0, .string ⟨#[]⟩, .int .i64 2]

theorem or_shift {acc c i : Nat} (h : acc < 2 ^ (7 * i)) : acc ||| c * 2 ^ (7 * i) = acc + c * 2 ^ (7 * i) := by
  rw [Nat.or_comm, Nat.mul_comm c, ← Nat.two_pow_add_eq_or_of_lt h]; omega
theorem pow7 {i : Nat} (h : i ≤ 9) : 2 ^ (7 * i) ≤ 2 ^ 63 := Nat.pow_le_pow_right (by decide) (by omega)

theorem num_take (bs : List UInt8) (hlen : bs.length < 9223372036854775808) (w0 : World) :
    Calls Tryz.prog 171 #[.string (S bs)] w0 (fun e w => e = .returned (takeV (takeGo 0 0 bs)) ∧ Below w0.heap.size w0 w) := by
  apply num_Take.calls
  intro L0 hL
  apply hL
  refine ⟨fun m n k x11 w => ∃ i acc : Nat, x11 = (i : Int) ∧ k = -1 ∧ n = (acc : Int) ∧ i ≤ 9 ∧ acc < 2 ^ (7 * i) ∧ takeGo i acc (bs.drop i) = takeGo 0 0 bs ∧ m = bs.length - i ∧ Below w0.heap.size w0 w, _, ⟨0, 0, rfl, rfl, rfl, by decide, by decide, rfl, rfl, Below.refl _ _⟩, ?_⟩
  rintro m n k x11 g w ⟨i, acc, rfl, rfl, rfl, hi, hacc, ht, rfl, hbel⟩ Back hback
  unfold num_Take.t1
  have hp := pow7 hi
  have hlen' : (((S bs).size : Nat) : Int) = bs.length := rfl
  rcases hd : bs.drop i with _ | ⟨b, rest⟩
  · have hge : bs.length ≤ i := by simpa using hd
    refine boolF (by simp; omega) (boolT (by decide) ⟨?_, hbel⟩)
    rw [← ht, hd]; rfl
  · have hlt : i < bs.length := by
      have := congrArg List.length hd; simp at this; omega
    have hb : byteAt (S bs) (i : Int).toNat = b := byteAt_drop hd
    have hc : b.toNat < 256 := b.toNat_lt
    have hdrop : bs.drop (i + 1) = rest := by rw [← List.drop_drop, hd]; rfl
    have hw : IntKind.wrap .i64 (7 * (i : Int)) = ((7 * i : Nat) : Int) := by rw [wrap_i64 (by omega) (by omega)]; omega
    have hw1 : IntKind.wrap .i64 ((i : Int) + 1) = ((i + 1 : Nat) : Int) := by rw [wrap_i64 (by omega) (by omega)]; omega
    rw [hb, wrap_u64, Nat.mod_eq_of_lt (by omega), hw, hw1]
    have hsh : ∀ c : Nat, c < 128 → (i = 9 → c ≤ 1) → Go.bits .or .u64 (acc : Int) (shlI .u64 (c : Int) ((7 * i : Nat) : Int)) = ((acc + c * 2 ^ (7 * i) : Nat) : Int) ∧ (i < 9 → acc + c * 2 ^ (7 * i) < 2 ^ (7 * (i + 1))) := by
      intro c hc hc9
      have hsl : shlI .u64 (c : Int) ((7 * i : Nat) : Int) = (((c * 2 ^ (7 * i)) % 2 ^ 64 : Nat) : Int) := by
        rw [shl_nat c (show 7 * i ≤ 64 by omega), wrap_u64]
      have key : i < 9 → acc + c * 2 ^ (7 * i) < 2 ^ (7 * (i + 1)) := fun h9 => by
        have : c * 2 ^ (7 * i) ≤ 127 * 2 ^ (7 * i) := Nat.mul_le_mul_right _ (by omega)
        have h2 : 2 ^ (7 * (i + 1)) = 128 * 2 ^ (7 * i) := by rw [show 7 * (i + 1) = 7 * i + 7 from by omega, Nat.pow_add]; omega
        omega
      have hlt64 : c * 2 ^ (7 * i) < 2 ^ 64 := by
        by_cases h9 : i = 9
        · subst h9
          have : c * 2 ^ 63 ≤ 1 * 2 ^ 63 := Nat.mul_le_mul_right _ (hc9 rfl)
          omega
        · have := key (by omega)
          have h2 : 2 ^ (7 * (i + 1)) ≤ 2 ^ 63 := pow7 (by omega)
          omega
      refine ⟨?_, key⟩
      rw [hsl, Nat.mod_eq_of_lt hlt64, bits_or rfl (show acc < 2 ^ 64 by omega) (show c * 2 ^ (7 * i) < 2 ^ 64 from hlt64), or_shift hacc]
    refine boolT (by simp; omega) ⟨⟨by omega, by omega⟩, ?_⟩
    rw [show takeGo i acc (bs.drop i) = _ from by rw [hd, takeGo]] at ht
    by_cases hbad : (i = 9 ∧ 1 < b.toNat) ∨ (0 < i ∧ b.toNat = 0)
    · rw [if_pos hbad] at ht
      have hfin : (Ending.returned (.tuple #[.int .u64 0, .string ⟨#[]⟩, .int .i64 2]) = Ending.returned (takeV (takeGo 0 0 bs)) ∧ Below w0.heap.size w0 w) := ⟨by rw [← ht]; rfl, hbel⟩
      rcases hbad with ⟨h9, h1⟩ | ⟨h0, hz⟩
      · have e1 : (((i : Nat) : Int) == 9) = true := by simp; omega
        have e2 : decide (((b.toNat : Nat) : Int) > 1) = true := by simp; omega
        simp only [e1, e2, boolV, show decide ((-1 : Int) < 0) = true from rfl]
        exact hfin
      · have e2 : decide (((b.toNat : Nat) : Int) > 1) = false := by simp; omega
        have e3 : decide (((i : Nat) : Int) > 0) = true := by simp; omega
        have e4 : (((b.toNat : Nat) : Int) == 0) = true := by simp; omega
        by_cases h9 : i = 9
        · have e1 : (((i : Nat) : Int) == 9) = true := by simp; omega
          simp only [e1, e2, e3, e4, boolV, show decide ((-1 : Int) < 0) = true from rfl]
          exact hfin
        · have e1 : (((i : Nat) : Int) == 9) = false := by simp; omega
          simp only [e1, e2, e3, e4, boolV, show decide ((-1 : Int) < 0) = true from rfl]
          exact hfin
    · rw [if_neg hbad] at ht
      by_cases h128 : b.toNat < 128
      · rw [if_pos h128] at ht
        have e5 : decide (((b.toNat : Nat) : Int) < 128) = true := by simp; omega
        have e6 : decide (((i + 1 : Nat) : Int) < 0) = false := by simp; omega
        rcases Bool.eq_false_or_eq_true (((i : Nat) : Int) == 9) with e1 | e1 <;> rcases Bool.eq_false_or_eq_true (decide (((i : Nat) : Int) > 0)) with e3 | e3 <;>
          rcases Bool.eq_false_or_eq_true (((b.toNat : Nat) : Int) == 0) with e4 | e4 <;> rcases Bool.eq_false_or_eq_true (decide (((b.toNat : Nat) : Int) > 1)) with e2 | e2 <;>
          simp only [e1, e2, e3, e4, e5, e6, boolV] <;> first
          | (exfalso; simp at e1 e2 e3 e4; omega)
          | (refine nonnegV_iff.mpr ⟨by omega, fun W => Below w0.heap.size w0 W, fun w' h1 h2 h3 h4 => hbel.trans (same_below _ h1 h2 h3 h4), ⟨by omega, by omega⟩, fun w' hw' => ⟨?_, hw'⟩⟩
             rw [← ht, (hsh b.toNat h128 (by omega)).1, S_extract, Int.toNat_natCast, hdrop, List.take_of_length_le (by have := congrArg List.length hdrop; simp at this; rw [S_size]; omega)]
             rfl)
      · rw [if_neg h128] at ht
        have e5 : decide (((b.toNat : Nat) : Int) < 128) = false := by simp; omega
        have hand : Go.bits .and .u64 ((b.toNat : Nat) : Int) 127 = ((b.toNat % 128 : Nat) : Int) := by
          rw [show (127 : Int) = ((127 : Nat) : Int) from rfl, bits_and rfl (show b.toNat < 2 ^ 64 by omega) (by decide), show (127 : Nat) = 2 ^ 7 - 1 from rfl, Nat.and_two_pow_sub_one_eq_mod]
        have hs := hsh (b.toNat % 128) (by omega) (by omega)
        rcases Bool.eq_false_or_eq_true (((i : Nat) : Int) == 9) with e1 | e1 <;> rcases Bool.eq_false_or_eq_true (decide (((i : Nat) : Int) > 0)) with e3 | e3 <;>
          rcases Bool.eq_false_or_eq_true (((b.toNat : Nat) : Int) == 0) with e4 | e4 <;> rcases Bool.eq_false_or_eq_true (decide (((b.toNat : Nat) : Int) > 1)) with e2 | e2 <;>
          simp only [e1, e2, e3, e4, e5, boolV] <;> first
          | (exfalso; simp at e1 e2 e3 e4; omega)
          | (refine nonnegV_iff.mpr ⟨by omega, hback (bs.length - (i + 1)) _ _ _ _ _ (by omega) ⟨i + 1, acc + b.toNat % 128 * 2 ^ (7 * i), rfl, rfl, ?_, ?_, ?_, ?_, rfl, hbel⟩⟩
             · rw [hand]; exact hs.1
             · simp at e1; omega
             · exact hs.2 (by simp at e1; omega)
             · rw [hdrop]; exact ht)
end Go.Proofs.YtcofknlcdgidpaaGreatDoor
/-! ## K -/
namespace Go.Proofs.YtcofknlcdgidpaaGreatDoor.VC
open Go Go.RowKit
set_option linter.unusedVariables false

/-! ### A block of cells -/
def Blk (w : World) (b : Nat) (e : TypeId) (cs : List Value) : Prop := w.heap[b]? = some (.cells cs.toArray e (0, 0))
theorem Blk.lt {w : World} {b : Nat} {e : TypeId} {cs : List Value} (h : Blk w b e cs) : b < w.heap.size := (Array.getElem?_eq_some_iff.1 h).1
theorem Blk.cell {w : World} {b : Nat} {e : TypeId} {cs : List Value} (h : Blk w b e cs) {j : Nat} {u : Value} (hj : cs[j]? = some u) : w.cell? ⟨b, j, none⟩ = some u := by
  unfold Blk at h; simp [World.cell?, h, hj]
theorem Blk.new (w : World) (e : TypeId) (cs : List Value) : Blk (w.alloc (.cells cs.toArray e)) w.heap.size e cs := heap_alloc_new w _
theorem Blk.alloc {w : World} {b : Nat} {e : TypeId} {cs : List Value} (h : Blk w b e cs) (o : Obj) : Blk (w.alloc o) b e cs := (Below.heap_alloc w o b h.lt).trans h
theorem Blk.set {w : World} {b : Nat} {e : TypeId} {cs : List Value} (h : Blk w b e cs) (j : Nat) (v : Value) : Blk (w.setCell ⟨b, j, none⟩ v) b e (cs.set j v) := by
  have := heap_setCell_same w b j cs.toArray e v h
  unfold Blk; rw [this]; simp
theorem Blk.other {w : World} {b : Nat} {e : TypeId} {cs : List Value} (h : Blk w b e cs) {p : Addr} (hp : p.block ≠ b) (v : Value) : Blk (w.setCell p v) b e cs :=
  (heap_setCell_other w p b v (fun e => hp e.symm)).trans h
theorem Blk.below {w w' : World} {b : Nat} {e : TypeId} {cs : List Value} (h : Blk w b e cs) {B : Nat} (hB : Below B w w') (hb : b < B) : Blk w' b e cs := (hB.block b hb).trans h
theorem Blk.grown {w w' : World} {b : Nat} {e : TypeId} {cs : List Value} (h : Blk w b e cs) {row : Option Nat} (hg : w.grownBy w' row) (hb : some b ≠ row) : Blk w' b e cs := (hg.block b h.lt hb).trans h
theorem Blk.same {w w' : World} {b : Nat} {e : TypeId} {cs : List Value} (h : Blk w b e cs) (hh : w'.heap = w.heap) : Blk w' b e cs := by unfold Blk; rw [hh]; exact h
theorem Blk.frozen {w : World} {b : Nat} {e : TypeId} {cs : List Value} (h : Blk w b e cs) (j : Nat) : w.frozen? ⟨b, j, none⟩ = false := frozen_of_row w b j _ e h
theorem Addr_add (b o j : Nat) : (⟨b, o, none⟩ : Addr).add j = ⟨b, o + j, none⟩ := by
  cases j <;> simp [Addr.add]
theorem Blk.writable {w : World} {b : Nat} {e : TypeId} {cs : List Value} (h : Blk w b e cs) {o n : Nat} (hn : o + n ≤ cs.length) : Writable w ⟨b, o, none⟩ n := fun i hi => by
  rw [Addr_add]
  exact ⟨⟨_, h.cell (List.getElem?_eq_getElem (show o + i < cs.length by omega))⟩, h.frozen _⟩
theorem Blk.own {w : World} {b : Nat} {e : TypeId} {cs : List Value} (h : Blk w b e cs) {B size n : Nat} (hB : B ≤ b) (hm : n ≤ maxLen) (hl : cs.length = n * size) : w.ownsRow B e size (.slice (some ⟨b, 0, none⟩) n n) n cs :=
  ⟨hl, .inr ⟨b, n, cs.toArray, rfl, hB, h, Nat.le_refl _, hm, by simpa using hl, by rw [← hl]; simp⟩⟩

/-! ### Rows that are read -/
/-- The cells cs lie from the place a on; or there are none. -/
def RowAt (w : World) (a : Option Addr) (cs : List Value) : Prop := cs = [] ∨ ∃ g o, a = some ⟨g, o, none⟩ ∧ ∀ j u, cs[j]? = some u → w.cell? ⟨g, o + j, none⟩ = some u
theorem RowAt.nil (w : World) (a : Option Addr) : RowAt w a [] := .inl rfl
theorem RowAt.below {w w' : World} {a : Option Addr} {cs : List Value} (h : RowAt w a cs) {B : Nat} (hB : Below B w w') (hs : w.heap.size ≤ B) : RowAt w' a cs := by
  rcases h with h | ⟨g, o, rfl, h⟩
  · exact .inl h
  · exact .inr ⟨g, o, rfl, fun j u hj => by
      have := h j u hj
      have hlt := World.block_lt_of_cell? w _ this
      rw [hB.cell (p := ⟨g, o + j, none⟩) (Nat.lt_of_lt_of_le hlt hs)]; exact this⟩
/-- The block of a row, and what is not it. -/
theorem RowAt.kept {w w' : World} {a : Option Addr} {cs : List Value} (h : RowAt w a cs) (hk : ∀ g o, a = some ⟨g, o, none⟩ → g < w.heap.size → w'.heap[g]? = w.heap[g]?) : RowAt w' a cs := by
  rcases h with h | ⟨g, o, rfl, h⟩
  · exact .inl h
  · exact .inr ⟨g, o, rfl, fun j u hj => by
      have := h j u hj
      have hlt := World.block_lt_of_cell? w _ this
      rw [World.cell?_of_block (w := w) (hk g o rfl hlt)]; exact this⟩
theorem RowAt.some_ {w : World} {a : Option Addr} {cs : List Value} (h : RowAt w a cs) {j : Nat} {u : Value} (hj : cs[j]? = some u) : ∃ g o, a = some ⟨g, o, none⟩ ∧ ∀ j u, cs[j]? = some u → w.cell? ⟨g, o + j, none⟩ = some u := by
  rcases h with rfl | h
  · simp at hj
  · exact h
theorem RowAt.take {w : World} {a : Option Addr} {cs : List Value} (h : RowAt w a cs) (n : Nat) : RowAt w a (cs.take n) := by
  rcases h with rfl | ⟨g, o, rfl, h⟩
  · exact .inl (by simp)
  · refine .inr ⟨g, o, rfl, fun j u hj => h j u ?_⟩
    rw [List.getElem?_take] at hj; split at hj
    · exact hj
    · cases hj
theorem RowAt.of_blk {w : World} {b : Nat} {e : TypeId} {cs : List Value} (h : Blk w b e cs) : RowAt w (some ⟨b, 0, none⟩) cs := .inr ⟨b, 0, rfl, fun j u hj => by rw [Nat.zero_add]; exact h.cell hj⟩
theorem RowAt.of_own {w : World} {B n c size : Nat} {e : TypeId} {a : Option Addr} {cs : List Value} (h : w.ownsRow B e size (.slice a n c) n cs) : RowAt w a cs := by
  rcases h.2 with ⟨hv, h0⟩ | ⟨g, cap, cur, hv, _, hg, _, _, _, ht⟩
  · left; have := h.1; rw [h0] at this; simpa using this
  · right
    injection hv with h1 h2 h3
    subst h1
    refine ⟨g, 0, rfl, fun j u hj => ?_⟩
    rw [← ht, List.getElem?_take] at hj
    split at hj
    · rw [cell_of_row w g _ cur e (0, 0) hg]; simpa using hj
    · cases hj

/-! ### Elements of more than one cell -/
theorem flat_get {α β : Type} (f : α → List β) (k : Nat) (hk : ∀ x, (f x).length = k) : ∀ (l : List α) (i j : Nat) (x : α), l[i]? = some x → j < k → (l.flatMap f)[i * k + j]? = (f x)[j]?
  | [], i, j, x, h, hj => by simp at h
  | y :: l, 0, j, x, h, hj => by
    simp at h; subst h
    simp only [Nat.zero_mul, Nat.zero_add, List.flatMap_cons]
    rw [List.getElem?_append_left (by rw [hk]; exact hj)]
  | y :: l, i + 1, j, x, h, hj => by
    have ih := flat_get f k hk l i j x (by simpa using h) hj
    rw [List.flatMap_cons, List.getElem?_append_right (by rw [hk, Nat.succ_mul]; omega), hk, Nat.succ_mul, show i * k + k + j - k = i * k + j from by omega]
    exact ih
theorem flat_len {α β : Type} (f : α → List β) (k : Nat) (hk : ∀ x, (f x).length = k) (l : List α) : (l.flatMap f).length = l.length * k := by
  induction l with
  | nil => simp
  | cons y l ih => rw [List.flatMap_cons, List.length_append, hk, ih, List.length_cons, Nat.succ_mul]; omega
theorem flat_take {α β : Type} (f : α → List β) (k : Nat) (hk : ∀ x, (f x).length = k) (l : List α) (i : Nat) : (l.flatMap f).take (i * k) = (l.take i).flatMap f := by
  induction l generalizing i with
  | nil => simp
  | cons y l ih =>
    cases i with
    | zero => simp
    | succ i =>
      rw [List.flatMap_cons, List.take_succ_cons, List.flatMap_cons, ← ih i, List.take_append, hk, List.take_of_length_le (by rw [hk, Nat.succ_mul]; omega), Nat.succ_mul, show i * k + k - k = i * k from by omega]

/-! ### Pairs of texts, samples -/
abbrev Txt := List UInt8
def pairC (p : Txt × Txt) : List Value := [.string (S p.1), .string (S p.2)]
def pairCs (l : List (Txt × Txt)) : List Value := l.flatMap pairC
theorem pairCs_len (l : List (Txt × Txt)) : (pairCs l).length = l.length * 2 := flat_len pairC 2 (fun _ => rfl) l
theorem pairCs_take (l : List (Txt × Txt)) (i : Nat) : (pairCs l).take (i * 2) = pairCs (l.take i) := flat_take pairC 2 (fun _ => rfl) l i
def smpC (p : Nat × Int) : List Value := [.int .u64 p.1, .int .i64 p.2]
def smpCs (l : List (Nat × Int)) : List Value := l.flatMap smpC
theorem smpCs_len (l : List (Nat × Int)) : (smpCs l).length = l.length * 2 := flat_len smpC 2 (fun _ => rfl) l
theorem RowAt.pair {w : World} {a : Option Addr} {l : List (Txt × Txt)} (h : RowAt w a (pairCs l)) {i : Nat} {p : Txt × Txt} (hi : l[i]? = some p) :
    ∃ q, a = some q ∧ w.cell? (q.add (i * 2)) = some (.string (S p.1)) ∧ w.cell? ((q.add (i * 2)).add 1) = some (.string (S p.2)) := by
  have h0 := flat_get pairC 2 (fun _ => rfl) l i 0 p hi (by decide)
  have h1 := flat_get pairC 2 (fun _ => rfl) l i 1 p hi (by decide)
  obtain ⟨g, o, rfl, hc⟩ := h.some_ (j := i * 2) (u := .string (S p.1)) h0
  refine ⟨_, rfl, ?_, ?_⟩
  · rw [Addr_add]; exact hc _ _ h0
  · rw [Addr_add, Addr_add]; exact hc _ _ h1
theorem RowAt.smp {w : World} {a : Option Addr} {l : List (Nat × Int)} (h : RowAt w a (smpCs l)) {i : Nat} {p : Nat × Int} (hi : l[i]? = some p) :
    ∃ q, a = some q ∧ w.cell? (q.add (i * 2)) = some (.int .u64 p.1) ∧ w.cell? ((q.add (i * 2)).add 1) = some (.int .i64 p.2) := by
  have h0 := flat_get smpC 2 (fun _ => rfl) l i 0 p hi (by decide)
  have h1 := flat_get smpC 2 (fun _ => rfl) l i 1 p hi (by decide)
  obtain ⟨g, o, rfl, hc⟩ := h.some_ (j := i * 2) (u := .int .u64 p.1) h0
  refine ⟨_, rfl, ?_, ?_⟩
  · rw [Addr_add]; exact hc _ _ h0
  · rw [Addr_add, Addr_add]; exact hc _ _ h1
theorem nil_toList : (⟨#[]⟩ : ByteArray).toList = [] := S_toList []
theorem someV_some {a : Option Addr} {p : Addr} (h : a = some p) {K : Addr → Prop} (k : K p) : someV a K := by subst h; exact k

/-! ### Variables that a call makes -/
theorem var2V {w : World} {ty : TypeId} {z0 z1 a b : Value} {K : Nat → World → Prop} (h : ∀ w6, Blk w6 w.heap.size ty [a, b] → Below w.heap.size w w6 → w6.heap.size = w.heap.size + 1 → K w.heap.size w6) :
    ∀ (b4 : Nat) (w5 : World), b4 = w.heap.size → w5 = World.alloc w (.cells #[z0, z1] ty) → Writable w5 ⟨b4, 0, none⟩ 2 ∧ ∀ w6 : World, w6 = World.setCell (World.setCell w5 ⟨b4, 0, none⟩ a) ⟨b4, 1, none⟩ b → K b4 w6 := by
  rintro b4 w5 rfl rfl
  have hblk := Blk.new w ty [z0, z1]
  have hb := (Below.refl w.heap.size w).alloc (Nat.le_refl _) (.cells #[z0, z1] ty)
  refine ⟨hblk.writable (Nat.le_refl 2), ?_⟩
  rintro w6 rfl
  exact h _ ((hblk.set 0 a).set 1 b) ((hb.setCell (p := ⟨w.heap.size, 0, none⟩) (Nat.le_refl _) a).setCell (p := ⟨w.heap.size, 1, none⟩) (Nat.le_refl _) b) (by simp [World.setCell])
theorem var1V {w : World} {ty : TypeId} {z0 a : Value} {K : Nat → World → Prop} (h : ∀ w6, Blk w6 w.heap.size ty [a] → Below w.heap.size w w6 → w6.heap.size = w.heap.size + 1 → K w.heap.size w6) :
    ∀ (b4 : Nat) (w5 : World), b4 = w.heap.size → w5 = World.alloc w (.cells #[z0] ty) → Writable w5 ⟨b4, 0, none⟩ 1 ∧ ∀ w6 : World, w6 = World.setCell w5 ⟨b4, 0, none⟩ a → K b4 w6 := by
  rintro b4 w5 rfl rfl
  have hblk := Blk.new w ty [z0]
  have hb := (Below.refl w.heap.size w).alloc (Nat.le_refl _) (.cells #[z0] ty)
  refine ⟨hblk.writable (Nat.le_refl 1), ?_⟩
  rintro w6 rfl
  exact h _ (hblk.set 0 a) (hb.setCell (p := ⟨w.heap.size, 0, none⟩) (Nat.le_refl _) a) (by simp [World.setCell])
theorem allocV {w : World} {ty : TypeId} {cs : List Value} {K : Nat → World → Prop} (h : ∀ w6, Blk w6 w.heap.size ty cs → Below w.heap.size w w6 → w6.heap.size = w.heap.size + 1 → K w.heap.size w6) :
    ∀ (b4 : Nat) (w5 : World), b4 = w.heap.size → w5 = World.alloc w (.cells cs.toArray ty) → K b4 w5 := by
  rintro b4 w5 rfl rfl
  exact h _ (Blk.new w ty cs) ((Below.refl w.heap.size w).alloc (Nat.le_refl _) _) (by simp)
/-- A part of a row, from an element on. -/
theorem RowAt.drop {w : World} {a : Option Addr} {cs : List Value} (h : RowAt w a cs) {c k size : Nat} (hc : cs.length ≤ c * size) : RowAt w (sliceAddr a c k size) (cs.drop (k * size)) := by
  rcases h with rfl | ⟨g, o, rfl, h⟩
  · exact .inl (by simp)
  · by_cases hck : c = k
    · left; subst hck; simpa using hc
    · refine .inr ⟨g, o + k * size, by simp [sliceAddr, hck, Addr_add], fun j u hj => ?_⟩
      rw [List.getElem?_drop] at hj
      have := h _ _ hj
      rwa [← Nat.add_assoc] at this

/-! ### Calls of function values -/
theorem funcV_call {P : Program} {g : FuncId} {caps : Array Value} {args : List Value} {w : World} {R : Ending → World → Prop} (hg : callable P g = true) (h : Calls P g (args ++ caps.toList).toArray w R) :
    funcV (.func (.func g) #[] caps) (fun g' fi ca => goodCall P g' (Calls P g' (fi.toList ++ args ++ ca.toList).toArray w R)) := by
  show goodCall _ _ _
  unfold goodCall
  rw [hg]
  simpa using h
theorem RowAt.smp0 {W : World} {g o : Nat} {x : Nat × Int} {r : List (Nat × Int)} (h : RowAt W (some ⟨g, o, none⟩) (smpCs (x :: r))) : W.cell? ⟨g, o, none⟩ = some (.int .u64 x.1) ∧ W.cell? ((⟨g, o, none⟩ : Addr).add 1) = some (.int .i64 x.2) := by
  rcases h with h | ⟨g', o', h1, h⟩
  · simp [smpCs, smpC] at h
  · cases h1
    exact ⟨h 0 _ rfl, by rw [Addr_add]; exact h 1 _ rfl⟩
theorem RowAt.some_of {w : World} {a : Option Addr} {cs : List Value} (h : RowAt w a cs) (hne : cs ≠ []) : ∃ g o, a = some ⟨g, o, none⟩ := by
  rcases h with h | ⟨g, o, h, _⟩
  · exact absurd h hne
  · exact ⟨g, o, h⟩

/-! ### Rows that are owned -/
theorem Below.grownBy {w w' : World} (h : Below w.heap.size w w') (row : Option Nat) : w.grownBy w' row := ⟨h.os, h.tape, h.output, h.size, fun k hk _ => h.block k hk⟩
theorem own_below {w w' : World} {B size n : Nat} {e : TypeId} {v : Value} {xs : List Value} (h : w.ownsRow B e size v n xs) (hb : Below w.heap.size w w') : w'.ownsRow B e size v n xs :=
  h.kept (Below.grownBy hb none) (by cases hv : v.ownBlock with | none => exact .inl rfl | some k => exact .inr (by simp))
theorem own_mono {w : World} {base base' : Nat} {e : TypeId} {size : Nat} {v : Value} {n : Nat} {xs : List Value} (h : w.ownsRow base e size v n xs) (hb : base' ≤ base) : w.ownsRow base' e size v n xs :=
  ⟨h.1, h.2.imp id fun ⟨g, cap, cur, h1, h2, h3⟩ => ⟨g, cap, cur, h1, Nat.le_trans hb h2, h3⟩⟩
theorem own_le {w : World} {B size n c : Nat} {e : TypeId} {a : Option Addr} {xs : List Value} (h : w.ownsRow B e size (.slice a n c) n xs) : n ≤ c := by
  rcases h.2 with ⟨hv, h0⟩ | ⟨g, cap, cur, hv, _, _, hnc, _⟩
  · omega
  · injection hv with h1 h2 h3; omega
theorem own_ne {w : World} {B size n : Nat} {e e' : TypeId} {v : Value} {xs cs : List Value} {b : Nat} (h : w.ownsRow B e size v n xs) (hb : Blk w b e' cs) (hne : e ≠ e') : v.ownBlock ≠ some b := by
  rcases h.2 with ⟨rfl, _⟩ | ⟨g, cap, cur, rfl, _, hg, _⟩
  · simp [Value.ownBlock]
  · intro h
    simp only [Value.ownBlock, Option.some.injEq] at h
    subst h
    unfold Blk at hb
    rw [hg] at hb
    simp only [Option.some.injEq, Obj.cells.injEq] at hb
    exact hne hb.2.1
theorem setCell_grown (w : World) (p : Addr) (u : Value) : w.grownBy (w.setCell p u) (some p.block) :=
  ⟨rfl, rfl, rfl, by simp [World.setCell], fun k _ hk => Below.heap_setCell _ _ _ _ (fun e => hk (by rw [e]))⟩
theorem own_set {w : World} {B size n : Nat} {e e' : TypeId} {v : Value} {xs cs : List Value} {b : Nat} (h : w.ownsRow B e size v n xs) (hb : Blk w b e' cs) (hne : e ≠ e') (j : Nat) (u : Value) : (w.setCell ⟨b, j, none⟩ u).ownsRow B e size v n xs :=
  h.kept (setCell_grown w ⟨b, j, none⟩ u) (.inr (own_ne h hb hne))
end Go.Proofs.YtcofknlcdgidpaaGreatDoor.VC
/-! ## Text -/
namespace Go.Proofs.YtcofknlcdgidpaaGreatDoor
open Go Go.RowKit Go.Proofs.YtcofknlcdgidpaaGreatDoor.VC
set_option linter.unusedVariables false
set_option maxRecDepth 100000

def txtB (t : List UInt8) : List UInt8 := numB t.length ++ t
theorem num_putText (t : List UInt8) (ht : t.length ≤ 9223372036854775000) (w0 : World) :
    Calls Tryz.prog 117 #[.string (S t)] w0 (fun e w => e = .returned (.string (S (txtB t))) ∧ Below w0.heap.size w0 w) := by
  apply num_PutText.calls
  have hsz : ((((S t).size : Nat)) : Int) = (t.length : Int) := rfl
  show Calls _ _ _ _ _
  rw [hsz, wrap_u64, Nat.mod_eq_of_lt (by omega)]
  refine (num_put t.length (by omega) w0).mono ?_
  rintro e w ⟨rfl, hb⟩
  have := numB_len10 (n := t.length) (by omega)
  exact ⟨_, rfl, by rw [S_size, S_size]; omega, by rw [S_append]; rfl, hb⟩

theorem zz_bits (n : Int) (h1 : -9223372036854775808 ≤ n) (h2 : n < 9223372036854775808) :
    Go.bits .xor .u64 (shlI .u64 (IntKind.wrap .u64 n) 1) (IntKind.wrap .u64 (shrI .i64 n 63)) = (zz n : Int) := by
  have hsh : ∀ m : Nat, shlI .u64 (m : Int) 1 = ((m * 2 % 18446744073709551616 : Nat) : Int) := fun m => by
    have := shl_nat (k := .u64) m (j := 1) (by decide)
    rw [wrap_u64] at this; simpa using this
  have hsr : shrI .i64 n 63 = n / 9223372036854775808 := by
    unfold shrI
    rw [show min ((63 : Int).toNat) (IntKind.bits .i64) = 63 from by decide, Int.fdiv_eq_ediv_of_nonneg _ (by decide)]
    rfl
  rw [hsr]
  by_cases h0 : 0 ≤ n
  · obtain ⟨m, rfl⟩ := Int.eq_ofNat_of_zero_le h0
    rw [show (m : Int) / 9223372036854775808 = ((0 : Nat) : Int) from by omega, wrap_u64, wrap_u64, hsh, Nat.mod_eq_of_lt (by omega), Nat.mod_eq_of_lt (by omega), bits_xor rfl (by show _ < 2 ^ 64; omega) (by decide)]
    simp [zz]; omega
  · obtain ⟨m, hm⟩ : ∃ m : Nat, n = -((m : Nat) : Int) - 1 := ⟨(-n - 1).toNat, by omega⟩
    subst hm
    have e1 : IntKind.wrap .u64 (-((m : Nat) : Int) - 1) = ((18446744073709551615 - m : Nat) : Int) := by rw [wrap_u64_int]; omega
    have e2 : IntKind.wrap .u64 ((-((m : Nat) : Int) - 1) / 9223372036854775808) = ((2 ^ 64 - 1 : Nat) : Int) := by
      rw [show (-((m : Nat) : Int) - 1) / 9223372036854775808 = -1 from by omega]; rfl
    rw [e1, e2, hsh, bits_xor rfl (by show _ < 2 ^ 64; omega) (by decide), xor_ones (by omega)]
    have : zz (-((m : Nat) : Int) - 1) = 2 * m + 1 := by unfold zz; rw [if_neg (by omega)]; omega
    rw [this]; omega
theorem num_putInt (n : Int) (h1 : -9223372036854775808 ≤ n) (h2 : n < 9223372036854775808) (w0 : World) :
    Calls Tryz.prog 119 #[.int .i64 n] w0 (fun e w => e = .returned (.string (S (numB (zz n)))) ∧ Below w0.heap.size w0 w) := by
  apply num_PutInt.calls
  show Calls _ _ _ _ _
  rw [zz_bits n h1 h2]
  refine (num_put _ (zz_lt h1 h2) w0).mono ?_
  rintro e w ⟨rfl, hb⟩
  exact ⟨_, rfl, rfl, hb⟩

/-- A text read off bytes: it and what is left, or an error's number. -/
def txtTake (most : Nat) (bs : List UInt8) : Except Nat (List UInt8 × List UInt8) :=
  match takeGo 0 0 bs with
  | none => .error 2
  | some (n, r) => if most < n then .error 7 else if r.length < n then .error 2 else .ok (r.take n, r.drop n)
def txtV : Except Nat (List UInt8 × List UInt8) → Value
  | .ok (a, r) => .tuple #[.string (S a), .string (S r), .int .i64 0]
  | .error k => .tuple #[.string ⟨#[]⟩, .string ⟨#[]⟩, .int .i64 k]
theorem takeGo_short {bs r : List UInt8} {n : Nat} (h : takeGo 0 0 bs = some (n, r)) : r.length < bs.length := takeGo_len _ _ _ _ _ h
theorem num_takeText (bs : List UInt8) (most : Nat) (hlen : bs.length < 9223372036854775808) (hm : most < 9223372036854775808) (w0 : World) :
    Calls Tryz.prog 172 #[.string (S bs), .int .i64 most] w0 (fun e w => e = .returned (txtV (txtTake most bs)) ∧ Below w0.heap.size w0 w) := by
  apply num_TakeText.calls
  refine (num_take bs hlen w0).mono ?_
  rintro e w ⟨rfl, hb⟩
  unfold txtTake
  cases ht : takeGo 0 0 bs with
  | none => exact ⟨_, _, _, rfl, boolT (by decide) ⟨rfl, hb⟩⟩
  | some p =>
    obtain ⟨n, r⟩ := p
    have hn := take_lt ht
    have hr := takeGo_short ht
    refine ⟨_, _, _, rfl, boolF (by decide) ?_⟩
    have em : IntKind.wrap .u64 (max2I (most : Int) 0) = (most : Int) := by
      have : max2I (most : Int) 0 = (most : Int) := by unfold max2I; omega
      rw [this, wrap_u64, Nat.mod_eq_of_lt (by omega)]
    have er : IntKind.wrap .u64 ((((S r).size : Nat)) : Int) = (r.length : Int) := by
      show IntKind.wrap .u64 ((r.length : Nat) : Int) = _
      rw [wrap_u64, Nat.mod_eq_of_lt (by omega)]
    rw [em, er]
    show boolV _ _ _
    by_cases h1 : most < n
    · refine boolT (by simp; omega) ⟨?_, hb⟩
      simp only [if_pos h1]; rfl
    · refine boolF (by simp; omega) ?_
      simp only [if_neg h1]
      by_cases h2 : r.length < n
      · refine boolT (by simp; omega) ⟨?_, hb⟩
        simp only [if_pos h2]; rfl
      · refine boolF (by simp; omega) ⟨fun W => Below w0.heap.size w0 W, fun w' h1 h2 h3 h4 => hb.trans (same_below _ h1 h2 h3 h4), ⟨by omega, by rw [S_size]; omega⟩, ⟨by omega, by rw [S_size]; omega⟩, fun w' hw' => ⟨?_, hw'⟩⟩
        simp only [if_neg h2]
        rw [S_extract, S_extract, S_size]
        rw [Int.toNat_natCast, List.drop_zero, Nat.sub_zero, List.take_of_length_le (l := r.drop n) (by simp)]; rfl

theorem unzz_bits (x : Nat) (h : x < 18446744073709551616) :
    Go.bits .xor .i64 (IntKind.wrap .i64 (shrI .u64 (x : Int) 1)) (IntKind.wrap .i64 (0 - (IntKind.wrap .i64 (Go.bits .and .u64 (x : Int) 1)))) = unzz x := by
  have e1 : shrI .u64 (x : Int) 1 = ((x / 2 : Nat) : Int) := by
    have := shr_nat (k := .u64) x (j := 1) (by decide); simpa using this
  have e2 : Go.bits .and .u64 (x : Int) 1 = ((x % 2 : Nat) : Int) := by
    rw [show (1 : Int) = ((1 : Nat) : Int) from rfl, bits_and rfl (show x < 2 ^ 64 by omega) (by decide), show (1 : Nat) = 2 ^ 1 - 1 from rfl, Nat.and_two_pow_sub_one_eq_mod]
  rw [e1, e2, wrap_i64 (by omega) (by omega), wrap_i64 (n := ((x % 2 : Nat) : Int)) (by omega) (by omega), wrap_i64 (by omega) (by omega)]
  show IntKind.wrap .i64 (((BitVec.ofInt 64 ((x / 2 : Nat) : Int) ^^^ BitVec.ofInt 64 (0 - ((x % 2 : Nat) : Int))).toNat : Nat) : Int) = _
  rw [BitVec.toNat_xor, BitVec.ofInt_natCast, BitVec.toNat_ofNat, Nat.mod_eq_of_lt (by omega)]
  by_cases hx : x % 2 = 0
  · rw [hx]
    have : (BitVec.ofInt 64 (0 - ((0 : Nat) : Int))).toNat = 0 := by decide
    rw [this, Nat.xor_zero, wrap_i64 (by omega) (by omega)]
    simp [unzz, hx]
  · have hx1 : x % 2 = 1 := by omega
    rw [hx1]
    have : (BitVec.ofInt 64 (0 - ((1 : Nat) : Int))).toNat = 2 ^ 64 - 1 := by decide
    rw [this, xor_ones (by omega), wrap_i64_eq]
    unfold unzz
    rw [if_neg hx]
    omega
def takeIntV : Option (Nat × List UInt8) → Value
  | some (n, r) => .tuple #[.int .i64 (unzz n), .string (S r), .int .i64 0]
  | none => .tuple #[.int .i64 0, .string ⟨#[]⟩, .int .i64 2]
theorem num_takeInt (bs : List UInt8) (hlen : bs.length < 9223372036854775808) (w0 : World) :
    Calls Tryz.prog 173 #[.string (S bs)] w0 (fun e w => e = .returned (takeIntV (takeGo 0 0 bs)) ∧ Below w0.heap.size w0 w) := by
  apply num_TakeInt.calls
  refine (num_take bs hlen w0).mono ?_
  rintro e w ⟨rfl, hb⟩
  cases ht : takeGo 0 0 bs with
  | none => exact ⟨0, _, _, rfl, by rw [show takeIntV none = .tuple #[.int .i64 (unzz 0), .string ⟨#[]⟩, .int .i64 2] from rfl, ← unzz_bits 0 (by decide)]; rfl, hb⟩
  | some p =>
    obtain ⟨n, r⟩ := p
    exact ⟨_, _, _, rfl, by rw [unzz_bits n (take_lt ht)]; rfl, hb⟩
end Go.Proofs.YtcofknlcdgidpaaGreatDoor
/-! ## Shelf -/
namespace Go.Proofs
open Go.Shelf
def Tryz.lays160_ren : Go.Shelf.Ren := ⟨fun | 160 => 112 | 232 => 161 | 231 => 160 | 227 => 162 | 234 => 164 | 233 => 163 | 236 => 166 | 235 => 165 | 228 => 207 | 271 => 210 | 151 => 209 | 197 => 208 | 120 => 232 | 152 => 231 | 260 => 230 | 137 => 111 | 119 => 238 | 224 => 239 | 225 => 240 | 217 => 159 | 266 => 206 | n => n, fun | 9 => 9 | 4 => 4 | 3 => 3 | 5 => 5 | 117 => 248 | 116 => 247 | 0 => 0 | 124 => 251 | 21 => 21 | 105 => 291 | 46 => 194 | 119 => 315 | 139 => 318 | 138 => 317 | n => n, fun | 3 => 2 | 4 => 3 | n => n⟩
theorem Tryz.lays160 : Go.Proofs.Lays.n160 Tryz.prog Tryz.lays160_ren := {
  mixed := by kernel_rfl
  f119 := Tryz.func238.trans (congrArg some (by kernel_rfl))
  f120 := Tryz.func232.trans (congrArg some (by kernel_rfl))
  f137 := Tryz.func111.trans (congrArg some (by kernel_rfl))
  f151 := Tryz.func209.trans (congrArg some (by kernel_rfl))
  f152 := Tryz.func231.trans (congrArg some (by kernel_rfl))
  f160 := Tryz.func112.trans (congrArg some (by kernel_rfl))
  f197 := Tryz.func208.trans (congrArg some (by kernel_rfl))
  f217 := Tryz.func159.trans (congrArg some (by kernel_rfl))
  f224 := Tryz.func239.trans (congrArg some (by kernel_rfl))
  f225 := Tryz.func240.trans (congrArg some (by kernel_rfl))
  f227 := Tryz.func162.trans (congrArg some (by kernel_rfl))
  f228 := Tryz.func207.trans (congrArg some (by kernel_rfl))
  f231 := Tryz.func160.trans (congrArg some (by kernel_rfl))
  f232 := Tryz.func161.trans (congrArg some (by kernel_rfl))
  f233 := Tryz.func163.trans (congrArg some (by kernel_rfl))
  f234 := Tryz.func164.trans (congrArg some (by kernel_rfl))
  f235 := Tryz.func165.trans (congrArg some (by kernel_rfl))
  f236 := Tryz.func166.trans (congrArg some (by kernel_rfl))
  f260 := Tryz.func230.trans (congrArg some (by kernel_rfl))
  f266 := Tryz.func206.trans (congrArg some (by kernel_rfl))
  f271 := Tryz.func210.trans (congrArg some (by kernel_rfl))
  t0 := Tryz.underlying0
  a0 := Tryz.isAgg0
  z0 := Tryz.sizeOf0
  v0 := Tryz.zeroValue0
  t3 := Tryz.underlying3
  a3 := Tryz.isAgg3
  z3 := Tryz.sizeOf3
  v3 := Tryz.zeroValue3
  t4 := Tryz.underlying4
  a4 := Tryz.isAgg4
  z4 := Tryz.sizeOf4
  v4 := Tryz.zeroValue4
  t5 := Tryz.underlying5
  a5 := Tryz.isAgg5
  z5 := Tryz.sizeOf5
  v5 := Tryz.zeroValue5
  t9 := Tryz.underlying9
  a9 := Tryz.isAgg9
  z9 := Tryz.sizeOf9
  v9 := Tryz.zeroValue9
  t21 := Tryz.underlying21
  a21 := Tryz.isAgg21
  z21 := Tryz.sizeOf21
  v21 := Tryz.zeroValue21
  t46 := Tryz.underlying194
  a46 := Tryz.isAgg194
  z46 := Tryz.sizeOf194
  v46 := Tryz.zeroValue194
  t105 := Tryz.underlying291
  a105 := Tryz.isAgg291
  z105 := Tryz.sizeOf291
  v105 := Tryz.zeroValue291
  t116 := Tryz.underlying247
  a116 := Tryz.isAgg247
  z116 := Tryz.sizeOf247
  t117 := Tryz.underlying248
  a117 := Tryz.isAgg248
  z117 := Tryz.sizeOf248
  v117 := Tryz.zeroValue248
  t119 := Tryz.underlying315
  a119 := Tryz.isAgg315
  z119 := Tryz.sizeOf315
  t124 := Tryz.underlying251
  a124 := Tryz.isAgg251
  z124 := Tryz.sizeOf251
  v124 := Tryz.zeroValue251
  t138 := Tryz.underlying317
  a138 := Tryz.isAgg317
  z138 := Tryz.sizeOf317
  v138 := Tryz.zeroValue317
  t139 := Tryz.underlying318
  a139 := Tryz.isAgg318
  z139 := Tryz.sizeOf318
  v139 := Tryz.zeroValue318
  g3 := by kernel_rfl
  g4 := by kernel_rfl }
def Tryz.lays137_ren : Go.Shelf.Ren := ⟨fun | 137 => 111 | 217 => 159 | 266 => 206 | n => n, fun | 9 => 9 | 5 => 5 | 3 => 3 | n => n, fun | n => n⟩
theorem Tryz.lays137 : Go.Proofs.Lays.n137 Tryz.prog Tryz.lays137_ren := {
  mixed := by kernel_rfl
  f137 := Tryz.func111.trans (congrArg some (by kernel_rfl))
  f217 := Tryz.func159.trans (congrArg some (by kernel_rfl))
  f266 := Tryz.func206.trans (congrArg some (by kernel_rfl))
  t3 := Tryz.underlying3
  a3 := Tryz.isAgg3
  z3 := Tryz.sizeOf3
  v3 := Tryz.zeroValue3
  t5 := Tryz.underlying5
  a5 := Tryz.isAgg5
  z5 := Tryz.sizeOf5
  v5 := Tryz.zeroValue5
  t9 := Tryz.underlying9
  a9 := Tryz.isAgg9
  z9 := Tryz.sizeOf9
  v9 := Tryz.zeroValue9 }
end Go.Proofs
/-! ## GlabelName -/
namespace Go.Proofs.YtcofknlcdgidpaaGreatDoor
open Go Go.Proofs.YtcofknlcdgidpaaGreatDoor.VC
set_option linter.unusedVariables false
set_option maxRecDepth 100000
set_option maxHeartbeats 0

/-! ### postroom/label.Name: function 79 -/
namespace label_Name
def t0 (R : Ending → World → Prop)  (s_0 : ByteArray) (w : World) : Prop := boolV (!(s_0.toList == (⟨#[]⟩ : ByteArray).toList)) (boolV (decide (((s_0.size : Nat) : Int) ≤ (20 : Int))) ((0 ≤ (0 : Int) ∧ (0 : Int) < s_0.size) ∧ (Calls Tryz.prog 111 #[.string ⟨#[97, 98, 99, 100, 101, 102, 103, 104, 105, 106, 107, 108, 109, 110, 111, 112, 113, 114, 115, 116, 117, 118, 119, 120, 121, 122, 95]⟩, .int .u8 ((byteAt s_0 (0 : Int).toNat).toNat : Int)] w (fun e1 w2 => ∃ x3 : Int, e1 = .returned (.int .i64 x3) ∧ (boolV (decide (x3 ≥ (0 : Int))) (Calls Tryz.prog 112 #[.string s_0, .string ⟨#[97, 98, 99, 100, 101, 102, 103, 104, 105, 106, 107, 108, 109, 110, 111, 112, 113, 114, 115, 116, 117, 118, 119, 120, 121, 122, 95, 48, 49, 50, 51, 52, 53, 54, 55, 56, 57]⟩] w2 (fun e4 w5 => ∃ s6 : ByteArray, e4 = .returned (.string s6) ∧ (R (.returned (.bool (s6.toList == (⟨#[]⟩ : ByteArray).toList))) w5))) (R (.returned (.bool false)) w2))))) (R (.returned (.bool false)) w)) (R (.returned (.bool false)) w)
def vc (R : Ending → World → Prop) (s_0 : ByteArray) (w : World) : Prop := t0 R  s_0 w
theorem calls (R : Ending → World → Prop) (s_0 : ByteArray) (w : World) (h : vc R s_0 w) : Calls Tryz.prog 79 #[.string s_0] w R :=
  calls_V Tryz.func79 (Eq.mpr (by kernel_rfl) (h))
end label_Name
end Go.Proofs.YtcofknlcdgidpaaGreatDoor
/-! ## Glabelfind -/
namespace Go.Proofs.YtcofknlcdgidpaaGreatDoor
open Go Go.Proofs.YtcofknlcdgidpaaGreatDoor.VC
set_option linter.unusedVariables false
set_option maxRecDepth 100000
set_option maxHeartbeats 0

/-! ### postroom/label.find: function 167 -/
namespace label_find
def t0 (R : Ending → World → Prop)  (l_0a : Option Addr) (l_0b : Nat) (l_0c : Nat) (name_1 : ByteArray) (w : World) : Prop := ∀ (b1 : Nat) (w2 : World), b1 = w.heap.size → w2 = World.alloc w (.cells #[.string name_1] 9) → Calls Tryz.prog 211 #[.slice l_0a l_0b l_0c, .func (.func 212) #[] #[.pointer (some ⟨b1, 0, none⟩)]] w2 (fun e3 w4 => ∃ x5 : Int, e3 = .returned (.int .i64 x5) ∧ (R (.returned (.int .i64 x5)) w4))
def vc (R : Ending → World → Prop) (l_0a : Option Addr) (l_0b : Nat) (l_0c : Nat) (name_1 : ByteArray) (w : World) : Prop := t0 R  l_0a l_0b l_0c name_1 w
theorem calls (R : Ending → World → Prop) (l_0a : Option Addr) (l_0b : Nat) (l_0c : Nat) (name_1 : ByteArray) (w : World) (h : vc R l_0a l_0b l_0c name_1 w) : Calls Tryz.prog 167 #[.slice l_0a l_0b l_0c, .string name_1] w R :=
  calls_V Tryz.func167 (Eq.mpr (by kernel_rfl) (h))
end label_find
end Go.Proofs.YtcofknlcdgidpaaGreatDoor
/-! ## Glabelfind1 -/
namespace Go.Proofs.YtcofknlcdgidpaaGreatDoor
open Go Go.Proofs.YtcofknlcdgidpaaGreatDoor.VC
set_option linter.unusedVariables false
set_option maxRecDepth 100000
set_option maxHeartbeats 0

/-! ### postroom/label.find$1: function 212 -/
namespace label_find_1
def t0 (R : Ending → World → Prop)  (p_0a : ByteArray) (p_0b : ByteArray) (x_1 : Option Addr) (w : World) : Prop := ∀ (b1 : Nat) (w2 : World), b1 = w.heap.size → w2 = World.alloc w (.cells #[.string p_0a, .string p_0b] 112) → ∃ s3 : ByteArray, w2.cell? ⟨b1, 0, none⟩ = some (.string s3) ∧ (someV x_1 (fun p4 => ∃ s5 : ByteArray, w2.cell? p4 = some (.string s5) ∧ (R (.returned (.bool (s3.toList == s5.toList))) w2)))
def vc (R : Ending → World → Prop) (p_0a : ByteArray) (p_0b : ByteArray) (x_1 : Option Addr) (w : World) : Prop := t0 R  p_0a p_0b x_1 w
theorem calls (R : Ending → World → Prop) (p_0a : ByteArray) (p_0b : ByteArray) (x_1 : Option Addr) (w : World) (h : vc R p_0a p_0b x_1 w) : Calls Tryz.prog 212 #[.agg #[.string p_0a, .string p_0b], .pointer x_1] w R :=
  calls_V Tryz.func212 (Eq.mpr (by kernel_rfl) (h))
end label_find_1
end Go.Proofs.YtcofknlcdgidpaaGreatDoor
/-! ## GslicesIndexFuncapiPairapiPair -/
namespace Go.Proofs.YtcofknlcdgidpaaGreatDoor
open Go Go.Proofs.YtcofknlcdgidpaaGreatDoor.VC
set_option linter.unusedVariables false
set_option maxRecDepth 100000
set_option maxHeartbeats 0

/-! ### slices.IndexFunc[[]postroom/api.Pair,postroom/api.Pair]: function 211 -/
namespace slices_IndexFunc_api_Pair_api_Pair
def t1 (R : Ending → World → Prop)  (Back0 : Int → List Value → World → Prop)  (s_0a : Option Addr) (s_0b : Nat) (s_0c : Nat) (f_1 : Value) (x_7 : Int) (x_8 : Int) (g : List Value) (w : World) : Prop := boolV (decide (x_8 < x_7)) (someV s_0a (fun p1 => (0 ≤ x_8 ∧ x_8 < (s_0b : Nat)) ∧ (∃ s2 : ByteArray, ∃ s3 : ByteArray, (w.cell? (p1.add (x_8.toNat * 2)) = some (.string s2) ∧ w.cell? ((p1.add (x_8.toNat * 2)).add 1) = some (.string s3)) ∧ (funcV f_1 (fun g6 first7 captured8 => goodCall Tryz.prog g6 (Calls Tryz.prog g6 (first7.toList ++ ([.agg #[.string s2, .string s3]] : List Value) ++ captured8.toList).toArray w (fun e4 w5 => ∃ t9 : Bool, e4 = .returned (.bool t9) ∧ (boolV t9 (R (.returned (.int .i64 x_8)) w5) (Back0 (IntKind.wrap .i64 (x_8 + 1)) [nth g 0, nth g 1, nth g 2, .int .i64 x_8, nth g 4, .bool (decide (x_8 < x_7)), .int .i64 x_8, f_1, .slice s_0a s_0b s_0c, .int .i64 x_8, .pointer (some (p1.add (x_8.toNat * 2))), .agg #[.string s2, .string s3], .bool t9, nth g 13, .int .i64 (IntKind.wrap .i64 (x_8 + 1))] w5))))))))) (R (.returned (.int .i64 (-1))) w)
def W0 (R : Ending → World → Prop)  (s_0a : Option Addr) (s_0b : Nat) (s_0c : Nat) (f_1 : Value) (x_7 : Int) (x_8 : Int) (w : World) : Prop := ∃ (I : Nat → Int → World → Prop) (n : Nat), I n x_8 w ∧ ∀ (n : Nat) (x_8 : Int) (g : List Value) (w : World), I n x_8 w → ∀ (Back0 : Int → List Value → World → Prop), (∀ (m : Nat) (x_8 : Int) (g : List Value) (w : World), m < n → I m x_8 w → Back0 x_8 g w) → t1 R  Back0  s_0a s_0b s_0c f_1 x_7 x_8 g w
def t0 (R : Ending → World → Prop) (L0 : (Option Addr) → Nat → Nat → Value → Int → Int → List Value → World → Prop) (s_0a : Option Addr) (s_0b : Nat) (s_0c : Nat) (f_1 : Value) (w : World) : Prop := L0 s_0a s_0b s_0c f_1 ((s_0b : Nat) : Int) 0 [undef, undef, .int .i64 0, undef, .slice s_0a s_0b s_0c, undef, undef, undef, undef, undef, undef, undef, undef, undef, undef] w
def vc (R : Ending → World → Prop) (s_0a : Option Addr) (s_0b : Nat) (s_0c : Nat) (f_1 : Value) (w : World) : Prop := ∀ (L0 : (Option Addr) → Nat → Nat → Value → Int → Int → List Value → World → Prop), (∀ s_0a s_0b s_0c f_1 x_7 x_8 g w, W0 R s_0a s_0b s_0c f_1 x_7 x_8 w → L0 s_0a s_0b s_0c f_1 x_7 x_8 g w) → t0 R L0 s_0a s_0b s_0c f_1 w
theorem at0 (R : Ending → World → Prop) (s_0a : Option Addr) (s_0b : Nat) (s_0c : Nat) (f_1 : Value) (x_7 : Int) (x_8 : Int) (g : List Value) (w : World) (h : W0 R  s_0a s_0b s_0c f_1 x_7 x_8 w) : atV Tryz.prog (bodyC Tryz.f211) [true, false, true, false] (retQ Tryz.prog Tryz.f211 R) [.slice s_0a s_0b s_0c, f_1, nth g 0, nth g 1, nth g 2, nth g 3, nth g 4, .int .i64 x_7, .int .i64 x_8, nth g 5, nth g 6, nth g 7, nth g 8, nth g 9, nth g 10, nth g 11, nth g 12, nth g 13, nth g 14] w := by
  obtain ⟨I, n0, h0, hs⟩ := h
  refine atV_loop (by kernel_rfl) (fun n s w => ∃ (x_8 : Int) (g : List Value), s = [.slice s_0a s_0b s_0c, f_1, nth g 0, nth g 1, nth g 2, nth g 3, nth g 4, .int .i64 x_7, .int .i64 x_8, nth g 5, nth g 6, nth g 7, nth g 8, nth g 9, nth g 10, nth g 11, nth g 12, nth g 13, nth g 14] ∧ I n x_8 w) n0 ⟨_, _, rfl, h0⟩ ?_
  rintro n s w ⟨x_8, g, rfl, hI⟩
  exact Eq.mpr (by kernel_rfl) (hs n x_8 g w hI (fun x_8 g w => (backQ (fun n s w => ∃ (x_8 : Int) (g : List Value), s = [.slice s_0a s_0b s_0c, f_1, nth g 0, nth g 1, nth g 2, nth g 3, nth g 4, .int .i64 x_7, .int .i64 x_8, nth g 5, nth g 6, nth g 7, nth g 8, nth g 9, nth g 10, nth g 11, nth g 12, nth g 13, nth g 14] ∧ I n x_8 w) n (ctxQ Tryz.prog (bodyC Tryz.f211) [true, false, true, false] (retQ Tryz.prog Tryz.f211 R))) .normal [.slice s_0a s_0b s_0c, f_1, nth g 0, nth g 1, nth g 2, nth g 3, nth g 4, .int .i64 x_7, .int .i64 x_8, nth g 5, nth g 6, nth g 7, nth g 8, nth g 9, nth g 10, nth g 11, nth g 12, nth g 13, nth g 14] w) (fun m x_8 g w hm hI => ⟨m, hm, x_8, g, rfl, hI⟩))
theorem calls (R : Ending → World → Prop) (s_0a : Option Addr) (s_0b : Nat) (s_0c : Nat) (f_1 : Value) (w : World) (h : vc R s_0a s_0b s_0c f_1 w) : Calls Tryz.prog 211 #[.slice s_0a s_0b s_0c, f_1] w R :=
  calls_V Tryz.func211 (Eq.mpr (by kernel_rfl) (h (fun s_0a s_0b s_0c f_1 x_7 x_8 g w => atV Tryz.prog (bodyC Tryz.f211) [true, false, true, false] (retQ Tryz.prog Tryz.f211 R) [.slice s_0a s_0b s_0c, f_1, nth g 0, nth g 1, nth g 2, nth g 3, nth g 4, .int .i64 x_7, .int .i64 x_8, nth g 5, nth g 6, nth g 7, nth g 8, nth g 9, nth g 10, nth g 11, nth g 12, nth g 13, nth g 14] w) (fun s_0a s_0b s_0c f_1 x_7 x_8 g w h => at0 R s_0a s_0b s_0c f_1 x_7 x_8 g w h)))
end slices_IndexFunc_api_Pair_api_Pair
end Go.Proofs.YtcofknlcdgidpaaGreatDoor
