/- Part 3 of a proof by parts: contracts of functions that the statement reaches, by the text that each is of. Conditions: as each states them. -/
import Derived.Test.YtcofknlcdgidpaaGreatDoorProg
import Derived.KernelRfl
import Derived.Laws.OwnMore
import Derived.Laws.IdiomCopy
import Derived.Test.YtcofknlcdgidpaaGreatDoorZE2
/-! ## Agent -/
namespace Go.Proofs.YtcofknlcdgidpaaGreatDoor
open Go Go.RowKit Go.Proofs.YtcofknlcdgidpaaGreatDoor.VC
set_option linter.unusedVariables false
set_option maxRecDepth 100000

structure Cfg where
  budget : Int
  segment : Int
  batch : Int
  timeout : Int
  base : Int
  most : Int
  shards : Int
def Cfg.cells (c : Cfg) : List Value := [.int .i64 c.budget, .int .i64 c.segment, .int .i64 c.batch, .int .u64 c.timeout, .int .u64 c.base, .int .u64 c.most, .int .i64 c.shards]
def Cfg.val (c : Cfg) : Value := .agg #[.int .i64 c.budget, .int .i64 c.segment, .int .i64 c.batch, .int .u64 c.timeout, .int .u64 c.base, .int .u64 c.most, .int .i64 c.shards]
def spoolOK (c : Cfg) : Bool := !decide (c.segment < 1) && !decide (c.segment > c.budget) && !decide (c.budget < 2016)
def senderOK (c : Cfg) : Bool := !decide (c.batch < 1) && !decide (c.batch > 100) && !(c.timeout == 0) && !(c.base == 0) && !decide (c.most < c.base)
def cfgOK (c : Cfg) : Bool := spoolOK c && senderOK c && !decide (c.shards < 1) && !decide (c.shards > 8)
def errNo (b : Bool) : Int := if b then 0 else 1
theorem spool_check (c : Cfg) (w0 : World) : Calls Tryz.prog 33 #[.agg #[.int .i64 c.budget, .int .i64 c.segment]] w0 (fun e w => e = .returned (.int .i64 (errNo (spoolOK c))) ∧ Below w0.heap.size w0 w) := by
  apply spool_Check.calls
  unfold spool_Check.vc spool_Check.t0
  refine allocV (cs := [.int .i64 c.budget, .int .i64 c.segment]) ?_
  intro w2 h hb hs
  unfold spoolOK
  refine ⟨_, h.cell (j := 1) rfl, ?_⟩
  cases h1 : decide (c.segment < 1)
  · refine ⟨_, h.cell (j := 1) rfl, _, h.cell (j := 0) rfl, ?_⟩
    cases h2 : decide (c.segment > c.budget)
    · refine ⟨_, h.cell (j := 0) rfl, ?_⟩
      cases h3 : decide (c.budget < 2016)
      · exact ⟨rfl, hb⟩
      · exact ⟨rfl, hb⟩
    · exact ⟨rfl, hb⟩
  · exact ⟨rfl, hb⟩
theorem sender_check (c : Cfg) (w0 : World) : Calls Tryz.prog 34 #[.agg #[.int .i64 c.batch, .int .u64 c.timeout, .int .u64 c.base, .int .u64 c.most]] w0 (fun e w => e = .returned (.int .i64 (errNo (senderOK c))) ∧ Below w0.heap.size w0 w) := by
  apply sender_Check.calls
  unfold sender_Check.vc sender_Check.t0
  refine allocV (cs := [.int .i64 c.batch, .int .u64 c.timeout, .int .u64 c.base, .int .u64 c.most]) ?_
  intro w2 h hb hs
  unfold senderOK
  refine ⟨_, h.cell (j := 0) rfl, ?_⟩
  cases h1 : decide (c.batch < 1)
  · refine ⟨_, h.cell (j := 0) rfl, ?_⟩
    cases h2 : decide (c.batch > 100)
    · refine ⟨_, h.cell (j := 1) rfl, ?_⟩
      cases h3 : (c.timeout == 0)
      · refine ⟨_, h.cell (j := 2) rfl, ?_⟩
        cases h4 : (c.base == 0)
        · refine ⟨_, h.cell (j := 3) rfl, _, h.cell (j := 2) rfl, ?_⟩
          cases h5 : decide (c.most < c.base)
          · exact ⟨rfl, hb⟩
          · exact ⟨rfl, hb⟩
        · exact ⟨rfl, hb⟩
      · exact ⟨rfl, hb⟩
    · exact ⟨rfl, hb⟩
  · exact ⟨rfl, hb⟩
theorem agent_check (c : Cfg) (w0 : World) : Calls Tryz.prog 8 #[c.val] w0 (fun e w => e = .returned (.int .i64 (errNo (cfgOK c))) ∧ Below w0.heap.size w0 w) := by
  apply agent_Check.calls
  unfold agent_Check.vc agent_Check.t0
  refine allocV (cs := c.cells) ?_
  intro w2 h hb hs
  refine ⟨_, _, ⟨h.cell (j := 0) rfl, h.cell (j := 1) rfl⟩, (spool_check c w2).mono ?_⟩
  rintro e w6 ⟨rfl, hb6⟩
  have h6 := h.below hb6 h.lt
  have hb6' := hb.trans (hb6.mono hb.size)
  refine ⟨_, rfl, ?_⟩
  unfold cfgOK
  cases hs1 : spoolOK c
  · exact ⟨rfl, hb6'⟩
  refine ⟨_, _, _, _, ⟨h6.cell (j := 2) rfl, h6.cell (j := 3) rfl, h6.cell (j := 4) rfl, h6.cell (j := 5) rfl⟩, (sender_check c w6).mono ?_⟩
  rintro e w13 ⟨rfl, hb13⟩
  have h13 := h6.below hb13 h6.lt
  have hb13' := hb6'.trans (hb13.mono hb6'.size)
  refine ⟨_, rfl, ?_⟩
  cases hs2 : senderOK c
  · exact ⟨rfl, hb13'⟩
  refine ⟨_, h13.cell (j := 6) rfl, ?_⟩
  cases h1 : decide (c.shards < 1)
  · refine ⟨_, h13.cell (j := 6) rfl, ?_⟩
    cases h2 : decide (c.shards > 8)
    · exact ⟨rfl, hb13'⟩
    · exact ⟨rfl, hb13'⟩
  · exact ⟨rfl, hb13'⟩

/-! ### Shards -/
def hashStep (h : Int) (b : UInt8) : Int := IntKind.wrap .u64 ((Go.bits .xor .u64 h (IntKind.wrap .u64 ((b.toNat : Nat) : Int))) * 1099511628211)
def hashT (s : Txt) : Int := s.foldl hashStep 14695981039346656037
theorem shard_hash (s : Txt) (hs : s.length < 9223372036854775807) (w0 : World) : Calls Tryz.prog 110 #[.string (S s)] w0 (fun e w => e = .returned (.int .u64 (hashT s)) ∧ w = w0) := by
  apply shard_Hash.calls
  intro L0 hL
  have hsz : (((S s).size : Nat) : Int) = s.length := rfl
  refine hL _ _ _ _ _ _ ⟨fun m h x w => ∃ i : Nat, x = (i : Int) ∧ i ≤ s.length ∧ h = (s.take i).foldl hashStep 14695981039346656037 ∧ m = s.length - i ∧ w = w0, _, ⟨0, rfl, by omega, rfl, rfl, rfl⟩, ?_⟩
  rintro m h x g w ⟨i, rfl, hi, rfl, rfl, rfl⟩ Back hback
  unfold shard_Hash.t1
  by_cases hlt : i < s.length
  · have hb : byteAt (S s) (i : Int).toNat = s[i] := by rw [Int.toNat_natCast, byteAt_S, List.getD_eq_getElem?_getD, List.getElem?_eq_getElem hlt]; rfl
    rw [hb]
    refine boolT (by simp [hsz]; omega) ⟨⟨by omega, by rw [hsz]; omega⟩, hback (s.length - (i + 1)) _ _ _ _ (by omega) ⟨i + 1, ?_, by omega, ?_, rfl, rfl⟩⟩
    · rw [wrap_i64 (by omega) (by omega)]; omega
    · rw [List.take_add_one, List.getElem?_eq_getElem hlt, List.foldl_append]; rfl
  · refine boolF (by simp [hsz]; omega) ⟨?_, rfl⟩
    rw [List.take_of_length_le (by omega)]; rfl
def shardOf (s : Txt) (n : Int) : Int := if n < 1 then 0 else if n > 8 then 0 else IntKind.wrap .i64 (Int.tmod (hashT s) n)
theorem shard_of (s : Txt) (hs : s.length < 9223372036854775807) (n : Int) (w0 : World) : Calls Tryz.prog 78 #[.string (S s), .int .i64 n] w0 (fun e w => e = .returned (.int .i64 (shardOf s n)) ∧ w = w0) := by
  apply shard_Of.calls
  unfold shard_Of.vc shard_Of.t0
  by_cases h1 : n < 1
  · exact boolT (by simpa using h1) ⟨by rw [shardOf, if_pos h1], rfl⟩
  refine boolF (by simpa using h1) ?_
  by_cases h2 : n > 8
  · exact boolT (by simpa using h2) ⟨by rw [shardOf, if_neg h1, if_pos h2], rfl⟩
  refine boolF (by simpa using h2) ((shard_hash s hs w0).mono ?_)
  rintro e w ⟨rfl, rfl⟩
  have hw : IntKind.wrap .u64 n = n := by rw [wrap_u64_int]; omega
  rw [hw]
  refine ⟨_, rfl, nzV_iff.mpr ⟨by omega, ?_, rfl⟩⟩
  rw [shardOf, if_neg h1, if_neg h2]

/-! ### Entries as bytes -/
def entB (x : Ent) : List UInt8 := labB x.labels ++ smpB x.samples
theorem smpCheck_len {l : List (Nat × Int)} (h : smpCheck l = 0) : 0 < l.length ∧ l.length ≤ 20 := by
  unfold smpCheck at h
  split at h
  · cases h
  · omega
theorem smpB_len {l : List (Nat × Int)} (hv : ∀ x ∈ l, x.1 < 18446744073709551616 ∧ -9223372036854775808 ≤ x.2 ∧ x.2 < 9223372036854775808) (h : l.length ≤ 20) : (smpB l).length ≤ 1000 := by
  cases l with
  | nil => simp [smpB]
  | cons x r =>
    obtain ⟨h1, h2, h3⟩ := hv x (by simp)
    have n1 := numB_len10 (n := r.length + 1) (by simp at h; omega)
    have n2 := numB_len10 h1
    have n3 := numB_len10 (zz_lt h2 h3)
    have n4 := smpPutGo_len r (IntKind.wrap .i64 (x.1 : Int)) 0 x.2
    simp [smpB] at *; omega
theorem labBs_len : ∀ (l : List (Txt × Txt)), (∀ p ∈ l, p.1.length ≤ 20 ∧ p.2.length ≤ 40) → (labBs l).length ≤ 80 * l.length
  | [], _ => by simp [labBs]
  | p :: r, h => by
    have h1 := txtB_len p.1 (by have := (h p (by simp)).1; omega)
    have h2 := txtB_len p.2 (by have := (h p (by simp)).2; omega)
    have h3 := labBs_len r (fun q hq => h q (by simp [hq]))
    have h4 := h p (by simp)
    simp [labBs]; omega
theorem labB_len {l : List (Txt × Txt)} (h : labCheck l = 0) : (labB l).length ≤ 700 := by
  obtain ⟨h8, ho⟩ := labCheck_ok h
  have := labBs_len l (fun p hp => (ho p hp).2)
  have n1 := numB_len10 (n := l.length) (by omega)
  simp [labB]; omega
/-- An entry of which labels and samples are in their kinds' bounds; labels: one at most, or wrong ones. -/
structure EntOK (x : Ent) : Prop where
  one : x.labels.length ≤ 1 ∨ labCheck x.labels ≠ 0
  vals : ∀ s ∈ x.samples, s.1 < 18446744073709551616 ∧ -9223372036854775808 ≤ s.2 ∧ s.2 < 9223372036854775808
def entPutR (w0 : World) (x : Ent) (e : Ending) (w : World) : Prop := Below w0.heap.size w0 w ∧ e = .returned (if entCheck x = 0 then .tuple #[.string (S (entB x)), .int .i64 0] else .tuple #[.string ⟨#[]⟩, .int .i64 (entCheck x)])
theorem entry_put (x : Ent) (hx : EntOK x) (a : Option Addr) (n c : Nat) (b : Option Addr) (m d : Nat) (w0 : World) (h : EntAt w0 x a n c b m d) :
    Calls Tryz.prog 43 #[.agg #[.slice a n c, .slice b m d]] w0 (entPutR w0 x) := by
  apply entry_Put.calls
  unfold entry_Put.vc entry_Put.t0
  refine allocV (cs := [.slice a n c, .slice b m d]) ?_
  intro w2 hblk hb2 hs2
  have h2 := h.below hb2 (Nat.le_refl _)
  refine ⟨_, _, _, _, _, _, ⟨hblk.cell (j := 0) rfl, hblk.cell (j := 1) rfl⟩, (entry_check x a n c b m d w2 h2).mono ?_⟩
  rintro e w10 ⟨rfl, hb10⟩
  have hb10' := hb2.trans (hb10.mono hb2.size)
  have hblk10 := hblk.below hb10 hblk.lt
  have h10 := h.below hb10' (Nat.le_refl _)
  refine ⟨_, rfl, ?_⟩
  by_cases h0 : entCheck x = 0
  · have hl0 : labCheck x.labels = 0 := by
      unfold entCheck at h0; split at h0
      · assumption
      · exact h0
    have hs0 : smpCheck x.samples = 0 := by
      unfold entCheck at h0; rw [if_pos hl0] at h0; exact h0
    rw [h0]
    refine boolF rfl ⟨_, _, _, hblk10.cell (j := 0) rfl, ?_⟩
    obtain rfl := h10.hl
    obtain rfl := h10.hm
    refine (label_put x.labels hx.one h10.hn h10.hs a c h10.hc w10 h10.hlr).mono ?_
    rintro e w16 ⟨hb16, rfl⟩
    have hb16' := hb10'.trans (hb16.mono hb10'.size)
    have hblk16 := hblk10.below hb16 hblk10.lt
    have h16 := h.below hb16' (Nat.le_refl _)
    rw [if_pos hl0]
    refine ⟨_, _, rfl, _, _, _, hblk16.cell (j := 1) rfl, (sample_put x.samples h16.hmn hx.vals b d h16.hd w16 h16.hsr).mono ?_⟩
    rintro e w23 ⟨hb23, rfl⟩
    have hb23' := hb16'.trans (hb23.mono hb16'.size)
    rw [if_pos hs0]
    have l1 := labB_len hl0
    have l2 := smpB_len hx.vals (smpCheck_len hs0).2
    refine ⟨_, _, rfl, by show (labB _).length + (smpB _).length ≤ _; omega, hb23', ?_⟩
    rw [S_append, if_pos h0]; rfl
  · exact boolT (by simp; omega) ⟨hb10', by rw [if_neg h0]⟩
theorem entry_series (x : Ent) (hx : EntOK x) (a : Option Addr) (n c : Nat) (b : Option Addr) (m d : Nat) (w0 : World) (h : EntAt w0 x a n c b m d) :
    Calls Tryz.prog 46 #[.agg #[.slice a n c, .slice b m d]] w0 (labPutR w0 x.labels) := by
  apply entry_Series.calls
  unfold entry_Series.vc entry_Series.t0
  refine allocV (cs := [.slice a n c, .slice b m d]) ?_
  intro w2 hblk hb2 hs2
  have h2 := h.below hb2 (Nat.le_refl _)
  obtain rfl := h2.hl
  refine ⟨_, _, _, hblk.cell (j := 0) rfl, (label_put x.labels hx.one h2.hn h2.hs a c h2.hc w2 h2.hlr).mono ?_⟩
  rintro e w7 ⟨hb7, rfl⟩
  have hb7' := hb2.trans (hb7.mono hb2.size)
  by_cases h0 : labCheck x.labels = 0
  · rw [if_pos h0]; exact ⟨_, _, rfl, hb7', by rw [if_pos h0]⟩
  · rw [if_neg h0]; exact ⟨_, _, rfl, hb7', by rw [if_neg h0]⟩
end Go.Proofs.YtcofknlcdgidpaaGreatDoor
/-! ## GslicesCloneledgerDestledgerDest -/
namespace Go.Proofs.YtcofknlcdgidpaaGreatDoor
open Go Go.Proofs.YtcofknlcdgidpaaGreatDoor.VC
set_option linter.unusedVariables false
set_option maxRecDepth 100000
set_option maxHeartbeats 0

/-! ### slices.Clone[[]postroom/ledger.Dest,postroom/ledger.Dest]: function 35 -/
namespace slices_Clone_ledger_Dest_ledger_Dest
def t0 (R : Ending → World → Prop)  (s_0a : Option Addr) (s_0b : Nat) (s_0c : Nat) (w : World) : Prop := boolV s_0a.isNone (R (.returned (.slice none 0 0)) w) (∀ (b1 : Nat) (w2 : World), b1 = w.heap.size → w2 = World.alloc w (.cells #[] 63) → runV Tryz.prog (Builtin.append_ #[35, 35] 35 #[.slice (some ⟨b1, 0, none⟩) 0 0, .slice s_0a s_0b s_0c]) w2 (fun v3 w4 => ∃ (a5 : Option Addr) (n6 c7 : Nat), v3 = .slice a5 n6 c7 ∧ (R (.returned (.slice a5 n6 c7)) w4)))
def vc (R : Ending → World → Prop) (s_0a : Option Addr) (s_0b : Nat) (s_0c : Nat) (w : World) : Prop := t0 R  s_0a s_0b s_0c w
theorem calls (R : Ending → World → Prop) (s_0a : Option Addr) (s_0b : Nat) (s_0c : Nat) (w : World) (h : vc R s_0a s_0b s_0c w) : Calls Tryz.prog 35 #[.slice s_0a s_0b s_0c] w R :=
  calls_V Tryz.func35 (Eq.mpr (by kernel_rfl) (h))
end slices_Clone_ledger_Dest_ledger_Dest
end Go.Proofs.YtcofknlcdgidpaaGreatDoor
/-! ## GslicesCloneuint64uint64 -/
namespace Go.Proofs.YtcofknlcdgidpaaGreatDoor
open Go Go.Proofs.YtcofknlcdgidpaaGreatDoor.VC
set_option linter.unusedVariables false
set_option maxRecDepth 100000
set_option maxHeartbeats 0

/-! ### slices.Clone[[]uint64,uint64]: function 36 -/
namespace slices_Clone_uint64_uint64
def t0 (R : Ending → World → Prop)  (s_0a : Option Addr) (s_0b : Nat) (s_0c : Nat) (w : World) : Prop := boolV s_0a.isNone (R (.returned (.slice none 0 0)) w) (∀ (b1 : Nat) (w2 : World), b1 = w.heap.size → w2 = World.alloc w (.cells #[] 24) → runV Tryz.prog (Builtin.append_ #[61, 61] 61 #[.slice (some ⟨b1, 0, none⟩) 0 0, .slice s_0a s_0b s_0c]) w2 (fun v3 w4 => ∃ (a5 : Option Addr) (n6 c7 : Nat), v3 = .slice a5 n6 c7 ∧ (R (.returned (.slice a5 n6 c7)) w4)))
def vc (R : Ending → World → Prop) (s_0a : Option Addr) (s_0b : Nat) (s_0c : Nat) (w : World) : Prop := t0 R  s_0a s_0b s_0c w
theorem calls (R : Ending → World → Prop) (s_0a : Option Addr) (s_0b : Nat) (s_0c : Nat) (w : World) (h : vc R s_0a s_0b s_0c w) : Calls Tryz.prog 36 #[.slice s_0a s_0b s_0c] w R :=
  calls_V Tryz.func36 (Eq.mpr (by kernel_rfl) (h))
end slices_Clone_uint64_uint64
end Go.Proofs.YtcofknlcdgidpaaGreatDoor
/-! ## GslicesBinarySearchuint64uint64 -/
namespace Go.Proofs.YtcofknlcdgidpaaGreatDoor
open Go Go.Proofs.YtcofknlcdgidpaaGreatDoor.VC
set_option linter.unusedVariables false
set_option maxRecDepth 100000
set_option maxHeartbeats 0

/-! ### slices.BinarySearch[[]uint64,uint64]: function 90 -/
namespace slices_BinarySearch_uint64_uint64
def t1 (R : Ending → World → Prop)  (Back0 : Int → Int → List Value → World → Prop)  (x_0a : Option Addr) (x_0b : Nat) (x_0c : Nat) (target_1 : Int) (n_6 : Int) (i_7 : Int) (j_8 : Int) (g : List Value) (w : World) : Prop := boolV (decide (i_7 < j_8)) (someV x_0a (fun p1 => (0 ≤ (IntKind.wrap .i64 (shrI .u64 (IntKind.wrap .u64 (IntKind.wrap .i64 (i_7 + j_8))) 1)) ∧ (IntKind.wrap .i64 (shrI .u64 (IntKind.wrap .u64 (IntKind.wrap .i64 (i_7 + j_8))) 1)) < (x_0b : Nat)) ∧ (∃ x2 : Int, w.cell? (p1.add ((IntKind.wrap .i64 (shrI .u64 (IntKind.wrap .u64 (IntKind.wrap .i64 (i_7 + j_8))) 1)).toNat * 1)) = some (.int .u64 x2) ∧ (Calls Tryz.prog 127 #[.int .u64 x2, .int .u64 target_1] w (fun e3 w4 => ∃ t5 : Bool, e3 = .returned (.bool t5) ∧ (boolV t5 (Back0 (IntKind.wrap .i64 ((IntKind.wrap .i64 (shrI .u64 (IntKind.wrap .u64 (IntKind.wrap .i64 (i_7 + j_8))) 1)) + 1)) j_8 [nth g 0, nth g 1, nth g 2, nth g 3, .int .i64 (IntKind.wrap .i64 (shrI .u64 (IntKind.wrap .u64 (IntKind.wrap .i64 (i_7 + j_8))) 1)), nth g 5, nth g 6, nth g 7, .int .i64 i_7, .int .i64 j_8, .bool (decide (i_7 < j_8)), .int .i64 i_7, .int .i64 j_8, .int .i64 (IntKind.wrap .i64 (i_7 + j_8)), .int .u64 (IntKind.wrap .u64 (IntKind.wrap .i64 (i_7 + j_8))), .int .u64 (shrI .u64 (IntKind.wrap .u64 (IntKind.wrap .i64 (i_7 + j_8))) 1), .int .i64 (IntKind.wrap .i64 (shrI .u64 (IntKind.wrap .u64 (IntKind.wrap .i64 (i_7 + j_8))) 1)), .slice x_0a x_0b x_0c, .int .i64 (IntKind.wrap .i64 (shrI .u64 (IntKind.wrap .u64 (IntKind.wrap .i64 (i_7 + j_8))) 1)), .pointer (some (p1.add ((IntKind.wrap .i64 (shrI .u64 (IntKind.wrap .u64 (IntKind.wrap .i64 (i_7 + j_8))) 1)).toNat * 1))), .int .u64 x2, .int .u64 target_1, .bool t5, .int .i64 (IntKind.wrap .i64 (shrI .u64 (IntKind.wrap .u64 (IntKind.wrap .i64 (i_7 + j_8))) 1)), .int .i64 (IntKind.wrap .i64 ((IntKind.wrap .i64 (shrI .u64 (IntKind.wrap .u64 (IntKind.wrap .i64 (i_7 + j_8))) 1)) + 1)), nth g 25, nth g 26, nth g 27, nth g 28, nth g 29, nth g 30, nth g 31, nth g 32, nth g 33, nth g 34, nth g 35, nth g 36, nth g 37, nth g 38, nth g 39, nth g 40, nth g 41, nth g 42, nth g 43, nth g 44, nth g 45, nth g 46, nth g 47, nth g 48] w4) (Back0 i_7 (IntKind.wrap .i64 (shrI .u64 (IntKind.wrap .u64 (IntKind.wrap .i64 (i_7 + j_8))) 1)) [nth g 0, nth g 1, nth g 2, nth g 3, .int .i64 (IntKind.wrap .i64 (shrI .u64 (IntKind.wrap .u64 (IntKind.wrap .i64 (i_7 + j_8))) 1)), nth g 5, nth g 6, nth g 7, .int .i64 i_7, .int .i64 j_8, .bool (decide (i_7 < j_8)), .int .i64 i_7, .int .i64 j_8, .int .i64 (IntKind.wrap .i64 (i_7 + j_8)), .int .u64 (IntKind.wrap .u64 (IntKind.wrap .i64 (i_7 + j_8))), .int .u64 (shrI .u64 (IntKind.wrap .u64 (IntKind.wrap .i64 (i_7 + j_8))) 1), .int .i64 (IntKind.wrap .i64 (shrI .u64 (IntKind.wrap .u64 (IntKind.wrap .i64 (i_7 + j_8))) 1)), .slice x_0a x_0b x_0c, .int .i64 (IntKind.wrap .i64 (shrI .u64 (IntKind.wrap .u64 (IntKind.wrap .i64 (i_7 + j_8))) 1)), .pointer (some (p1.add ((IntKind.wrap .i64 (shrI .u64 (IntKind.wrap .u64 (IntKind.wrap .i64 (i_7 + j_8))) 1)).toNat * 1))), .int .u64 x2, .int .u64 target_1, .bool t5, nth g 23, nth g 24, .int .i64 (IntKind.wrap .i64 (shrI .u64 (IntKind.wrap .u64 (IntKind.wrap .i64 (i_7 + j_8))) 1)), nth g 26, nth g 27, nth g 28, nth g 29, nth g 30, nth g 31, nth g 32, nth g 33, nth g 34, nth g 35, nth g 36, nth g 37, nth g 38, nth g 39, nth g 40, nth g 41, nth g 42, nth g 43, nth g 44, nth g 45, nth g 46, nth g 47, nth g 48] w4))))))) (boolV (decide (i_7 < n_6)) (someV x_0a (fun p6 => (0 ≤ i_7 ∧ i_7 < (x_0b : Nat)) ∧ (∃ x7 : Int, w.cell? (p6.add (i_7.toNat * 1)) = some (.int .u64 x7) ∧ (boolV (x7 == target_1) (R (.returned (.tuple #[.int .i64 i_7, .bool true])) w) (someV x_0a (fun p8 => (0 ≤ i_7 ∧ i_7 < (x_0b : Nat)) ∧ (∃ x9 : Int, w.cell? (p8.add (i_7.toNat * 1)) = some (.int .u64 x9) ∧ (Calls Tryz.prog 128 #[.int .u64 x9] w (fun e10 w11 => ∃ t12 : Bool, e10 = .returned (.bool t12) ∧ (boolV t12 (Calls Tryz.prog 128 #[.int .u64 target_1] w11 (fun e13 w14 => ∃ t15 : Bool, e13 = .returned (.bool t15) ∧ (R (.returned (.tuple #[.int .i64 i_7, .bool t15])) w14))) (R (.returned (.tuple #[.int .i64 i_7, .bool false])) w11))))))))))) (R (.returned (.tuple #[.int .i64 i_7, .bool false])) w))
def W0 (R : Ending → World → Prop)  (x_0a : Option Addr) (x_0b : Nat) (x_0c : Nat) (target_1 : Int) (n_6 : Int) (i_7 : Int) (j_8 : Int) (w : World) : Prop := ∃ (I : Nat → Int → Int → World → Prop) (n : Nat), I n i_7 j_8 w ∧ ∀ (n : Nat) (i_7 : Int) (j_8 : Int) (g : List Value) (w : World), I n i_7 j_8 w → ∀ (Back0 : Int → Int → List Value → World → Prop), (∀ (m : Nat) (i_7 : Int) (j_8 : Int) (g : List Value) (w : World), m < n → I m i_7 j_8 w → Back0 i_7 j_8 g w) → t1 R  Back0  x_0a x_0b x_0c target_1 n_6 i_7 j_8 g w
def t0 (R : Ending → World → Prop) (L0 : (Option Addr) → Nat → Nat → Int → Int → Int → Int → List Value → World → Prop) (x_0a : Option Addr) (x_0b : Nat) (x_0c : Nat) (target_1 : Int) (w : World) : Prop := L0 x_0a x_0b x_0c target_1 ((x_0b : Nat) : Int) 0 ((x_0b : Nat) : Int) [undef, undef, .int .i64 0, .bool false, undef, .slice x_0a x_0b x_0c, .int .i64 ((x_0b : Nat) : Int), .int .i64 ((x_0b : Nat) : Int), undef, undef, undef, undef, undef, undef, undef, undef, undef, undef, undef, undef, undef, undef, undef, undef, undef, undef, undef, undef, undef, undef, undef, undef, undef, undef, undef, undef, undef, undef, undef, undef, undef, undef, undef, undef, undef, undef, undef, undef, undef] w
def vc (R : Ending → World → Prop) (x_0a : Option Addr) (x_0b : Nat) (x_0c : Nat) (target_1 : Int) (w : World) : Prop := ∀ (L0 : (Option Addr) → Nat → Nat → Int → Int → Int → Int → List Value → World → Prop), (∀ x_0a x_0b x_0c target_1 n_6 i_7 j_8 g w, W0 R x_0a x_0b x_0c target_1 n_6 i_7 j_8 w → L0 x_0a x_0b x_0c target_1 n_6 i_7 j_8 g w) → t0 R L0 x_0a x_0b x_0c target_1 w
theorem at0 (R : Ending → World → Prop) (x_0a : Option Addr) (x_0b : Nat) (x_0c : Nat) (target_1 : Int) (n_6 : Int) (i_7 : Int) (j_8 : Int) (g : List Value) (w : World) (h : W0 R  x_0a x_0b x_0c target_1 n_6 i_7 j_8 w) : atV Tryz.prog (bodyC Tryz.f90) [true, true, true, false, false] (retQ Tryz.prog Tryz.f90 R) [.slice x_0a x_0b x_0c, .int .u64 target_1, nth g 0, nth g 1, nth g 2, nth g 3, .int .i64 n_6, .int .i64 i_7, .int .i64 j_8, nth g 4, nth g 5, nth g 6, nth g 7, nth g 8, nth g 9, nth g 10, nth g 11, nth g 12, nth g 13, nth g 14, nth g 15, nth g 16, nth g 17, nth g 18, nth g 19, nth g 20, nth g 21, nth g 22, nth g 23, nth g 24, nth g 25, nth g 26, nth g 27, nth g 28, nth g 29, nth g 30, nth g 31, nth g 32, nth g 33, nth g 34, nth g 35, nth g 36, nth g 37, nth g 38, nth g 39, nth g 40, nth g 41, nth g 42, nth g 43, nth g 44, nth g 45, nth g 46, nth g 47, nth g 48] w := by
  obtain ⟨I, n0, h0, hs⟩ := h
  refine atV_loop (by kernel_rfl) (fun n s w => ∃ (i_7 : Int) (j_8 : Int) (g : List Value), s = [.slice x_0a x_0b x_0c, .int .u64 target_1, nth g 0, nth g 1, nth g 2, nth g 3, .int .i64 n_6, .int .i64 i_7, .int .i64 j_8, nth g 4, nth g 5, nth g 6, nth g 7, nth g 8, nth g 9, nth g 10, nth g 11, nth g 12, nth g 13, nth g 14, nth g 15, nth g 16, nth g 17, nth g 18, nth g 19, nth g 20, nth g 21, nth g 22, nth g 23, nth g 24, nth g 25, nth g 26, nth g 27, nth g 28, nth g 29, nth g 30, nth g 31, nth g 32, nth g 33, nth g 34, nth g 35, nth g 36, nth g 37, nth g 38, nth g 39, nth g 40, nth g 41, nth g 42, nth g 43, nth g 44, nth g 45, nth g 46, nth g 47, nth g 48] ∧ I n i_7 j_8 w) n0 ⟨_, _, _, rfl, h0⟩ ?_
  rintro n s w ⟨i_7, j_8, g, rfl, hI⟩
  exact Eq.mpr (by kernel_rfl) (hs n i_7 j_8 g w hI (fun i_7 j_8 g w => (backQ (fun n s w => ∃ (i_7 : Int) (j_8 : Int) (g : List Value), s = [.slice x_0a x_0b x_0c, .int .u64 target_1, nth g 0, nth g 1, nth g 2, nth g 3, .int .i64 n_6, .int .i64 i_7, .int .i64 j_8, nth g 4, nth g 5, nth g 6, nth g 7, nth g 8, nth g 9, nth g 10, nth g 11, nth g 12, nth g 13, nth g 14, nth g 15, nth g 16, nth g 17, nth g 18, nth g 19, nth g 20, nth g 21, nth g 22, nth g 23, nth g 24, nth g 25, nth g 26, nth g 27, nth g 28, nth g 29, nth g 30, nth g 31, nth g 32, nth g 33, nth g 34, nth g 35, nth g 36, nth g 37, nth g 38, nth g 39, nth g 40, nth g 41, nth g 42, nth g 43, nth g 44, nth g 45, nth g 46, nth g 47, nth g 48] ∧ I n i_7 j_8 w) n (ctxQ Tryz.prog (bodyC Tryz.f90) [true, true, true, false, false] (retQ Tryz.prog Tryz.f90 R))) .normal [.slice x_0a x_0b x_0c, .int .u64 target_1, nth g 0, nth g 1, nth g 2, nth g 3, .int .i64 n_6, .int .i64 i_7, .int .i64 j_8, nth g 4, nth g 5, nth g 6, nth g 7, nth g 8, nth g 9, nth g 10, nth g 11, nth g 12, nth g 13, nth g 14, nth g 15, nth g 16, nth g 17, nth g 18, nth g 19, nth g 20, nth g 21, nth g 22, nth g 23, nth g 24, nth g 25, nth g 26, nth g 27, nth g 28, nth g 29, nth g 30, nth g 31, nth g 32, nth g 33, nth g 34, nth g 35, nth g 36, nth g 37, nth g 38, nth g 39, nth g 40, nth g 41, nth g 42, nth g 43, nth g 44, nth g 45, nth g 46, nth g 47, nth g 48] w) (fun m i_7 j_8 g w hm hI => ⟨m, hm, i_7, j_8, g, rfl, hI⟩))
theorem calls (R : Ending → World → Prop) (x_0a : Option Addr) (x_0b : Nat) (x_0c : Nat) (target_1 : Int) (w : World) (h : vc R x_0a x_0b x_0c target_1 w) : Calls Tryz.prog 90 #[.slice x_0a x_0b x_0c, .int .u64 target_1] w R :=
  calls_V Tryz.func90 (Eq.mpr (by kernel_rfl) (h (fun x_0a x_0b x_0c target_1 n_6 i_7 j_8 g w => atV Tryz.prog (bodyC Tryz.f90) [true, true, true, false, false] (retQ Tryz.prog Tryz.f90 R) [.slice x_0a x_0b x_0c, .int .u64 target_1, nth g 0, nth g 1, nth g 2, nth g 3, .int .i64 n_6, .int .i64 i_7, .int .i64 j_8, nth g 4, nth g 5, nth g 6, nth g 7, nth g 8, nth g 9, nth g 10, nth g 11, nth g 12, nth g 13, nth g 14, nth g 15, nth g 16, nth g 17, nth g 18, nth g 19, nth g 20, nth g 21, nth g 22, nth g 23, nth g 24, nth g 25, nth g 26, nth g 27, nth g 28, nth g 29, nth g 30, nth g 31, nth g 32, nth g 33, nth g 34, nth g 35, nth g 36, nth g 37, nth g 38, nth g 39, nth g 40, nth g 41, nth g 42, nth g 43, nth g 44, nth g 45, nth g 46, nth g 47, nth g 48] w) (fun x_0a x_0b x_0c target_1 n_6 i_7 j_8 g w h => at0 R x_0a x_0b x_0c target_1 n_6 i_7 j_8 g w h)))
end slices_BinarySearch_uint64_uint64
end Go.Proofs.YtcofknlcdgidpaaGreatDoor
/-! ## GslicesInsertuint64uint64 -/
namespace Go.Proofs.YtcofknlcdgidpaaGreatDoor
open Go Go.Proofs.YtcofknlcdgidpaaGreatDoor.VC
set_option linter.unusedVariables false
set_option maxRecDepth 100000
set_option maxHeartbeats 0

/-! ### slices.Insert[[]uint64,uint64]: function 158 -/
namespace slices_Insert_uint64_uint64
def t0 (R : Ending → World → Prop)  (s_0a : Option Addr) (s_0b : Nat) (s_0c : Nat) (i_1 : Int) (v_2a : Option Addr) (v_2b : Nat) (v_2c : Nat) (w : World) : Prop := (0 ≤ i_1 ∧ i_1 ≤ (s_0b : Nat)) ∧ ∀ a1, a1 = sliceAddr s_0a s_0c i_1.toNat 1 → boolV (((v_2b : Nat) : Int) == (0 : Int)) (R (.returned (.slice s_0a s_0b s_0c)) w) (boolV (i_1 == ((s_0b : Nat) : Int)) (runV Tryz.prog (Builtin.append_ #[61, 61] 61 #[.slice s_0a s_0b s_0c, .slice v_2a v_2b v_2c]) w (fun v2 w3 => ∃ (a4 : Option Addr) (n5 c6 : Nat), v2 = .slice a4 n5 c6 ∧ (R (.returned (.slice a4 n5 c6)) w3))) (boolV (decide ((IntKind.wrap .i64 (((s_0b : Nat) : Int) + ((v_2b : Nat) : Int))) > ((s_0c : Nat) : Int))) ((0 ≤ i_1 ∧ i_1 ≤ (s_0c : Nat)) ∧ (runV Tryz.prog (Builtin.append_ #[61, 3] 61 #[.slice s_0a i_1.toNat s_0c, .int .i64 (IntKind.wrap .i64 ((IntKind.wrap .i64 (((s_0b : Nat) : Int) + ((v_2b : Nat) : Int))) - i_1))]) w (fun v7 w8 => ∃ (a9 : Option Addr) (n10 c11 : Nat), v7 = .slice a9 n10 c11 ∧ ((0 ≤ i_1 ∧ i_1 ≤ (n10 : Nat)) ∧ ∀ a12, a12 = sliceAddr a9 c11 i_1.toNat 1 → runV Tryz.prog (Builtin.copy_ #[61, 61] 3 #[.slice a12 (n10 - i_1.toNat) (c11 - i_1.toNat), .slice v_2a v_2b v_2c]) w8 (fun v13 w14 => ∃ x15 : Int, v13 = .int .i64 x15 ∧ (∃ S16 : World → Prop, (∀ w17 : World, w17.heap = w14.heap → w17.tape = w14.tape → w17.os = w14.os → w17.output = w14.output → S16 w17 ∧ ((0 ≤ (IntKind.wrap .i64 (i_1 + ((v_2b : Nat) : Int))) ∧ (IntKind.wrap .i64 (i_1 + ((v_2b : Nat) : Int))) ≤ (n10 : Nat)) ∧ ∀ a18, a18 = sliceAddr a9 c11 ((IntKind.wrap .i64 (i_1 + ((v_2b : Nat) : Int))).toNat) 1 → (0 ≤ i_1 ∧ i_1 ≤ (s_0b : Nat)) ∧ ∀ a19, a19 = sliceAddr s_0a s_0c i_1.toNat 1 → runV Tryz.prog (Builtin.copy_ #[61, 61] 3 #[.slice a18 (n10 - (IntKind.wrap .i64 (i_1 + ((v_2b : Nat) : Int))).toNat) (c11 - (IntKind.wrap .i64 (i_1 + ((v_2b : Nat) : Int))).toNat), .slice a19 (s_0b - i_1.toNat) (s_0c - i_1.toNat)]) w17 (fun v20 w21 => ∃ x22 : Int, v20 = .int .i64 x22 ∧ (R (.returned (.slice a9 n10 c11)) w21)))))))))) ((0 ≤ (IntKind.wrap .i64 (((s_0b : Nat) : Int) + ((v_2b : Nat) : Int))) ∧ (IntKind.wrap .i64 (((s_0b : Nat) : Int) + ((v_2b : Nat) : Int))) ≤ (s_0c : Nat)) ∧ ((0 ≤ (IntKind.wrap .i64 (i_1 + ((v_2b : Nat) : Int))) ∧ (IntKind.wrap .i64 (i_1 + ((v_2b : Nat) : Int))) ≤ (((IntKind.wrap .i64 (((s_0b : Nat) : Int) + ((v_2b : Nat) : Int))).toNat) : Nat)) ∧ ∀ a23, a23 = sliceAddr s_0a s_0c ((IntKind.wrap .i64 (i_1 + ((v_2b : Nat) : Int))).toNat) 1 → externV Tryz.prog 204 [.slice v_2a v_2b v_2c, .slice a23 (((IntKind.wrap .i64 (((s_0b : Nat) : Int) + ((v_2b : Nat) : Int))).toNat) - (IntKind.wrap .i64 (i_1 + ((v_2b : Nat) : Int))).toNat) (s_0c - (IntKind.wrap .i64 (i_1 + ((v_2b : Nat) : Int))).toNat)] w (fun v26 w25 => ∃ t27 : Bool, v26 = .bool t27 ∧ (boolV (!t27) (∃ S28 : World → Prop, (∀ w29 : World, w29.heap = w25.heap → w29.tape = w25.tape → w29.os = w25.os → w29.output = w25.output → S28 w29 ∧ ((0 ≤ (IntKind.wrap .i64 (i_1 + ((v_2b : Nat) : Int))) ∧ (IntKind.wrap .i64 (i_1 + ((v_2b : Nat) : Int))) ≤ (((IntKind.wrap .i64 (((s_0b : Nat) : Int) + ((v_2b : Nat) : Int))).toNat) : Nat)) ∧ ∀ a30, a30 = sliceAddr s_0a s_0c ((IntKind.wrap .i64 (i_1 + ((v_2b : Nat) : Int))).toNat) 1 → (0 ≤ i_1 ∧ i_1 ≤ (((IntKind.wrap .i64 (((s_0b : Nat) : Int) + ((v_2b : Nat) : Int))).toNat) : Nat)) ∧ ∀ a31, a31 = sliceAddr s_0a s_0c i_1.toNat 1 → runV Tryz.prog (Builtin.copy_ #[61, 61] 3 #[.slice a30 (((IntKind.wrap .i64 (((s_0b : Nat) : Int) + ((v_2b : Nat) : Int))).toNat) - (IntKind.wrap .i64 (i_1 + ((v_2b : Nat) : Int))).toNat) (s_0c - (IntKind.wrap .i64 (i_1 + ((v_2b : Nat) : Int))).toNat), .slice a31 (((IntKind.wrap .i64 (((s_0b : Nat) : Int) + ((v_2b : Nat) : Int))).toNat) - i_1.toNat) (s_0c - i_1.toNat)]) w29 (fun v32 w33 => ∃ x34 : Int, v32 = .int .i64 x34 ∧ ((0 ≤ i_1 ∧ i_1 ≤ (((IntKind.wrap .i64 (((s_0b : Nat) : Int) + ((v_2b : Nat) : Int))).toNat) : Nat)) ∧ ∀ a35, a35 = sliceAddr s_0a s_0c i_1.toNat 1 → runV Tryz.prog (Builtin.copy_ #[61, 61] 3 #[.slice a35 (((IntKind.wrap .i64 (((s_0b : Nat) : Int) + ((v_2b : Nat) : Int))).toNat) - i_1.toNat) (s_0c - i_1.toNat), .slice v_2a v_2b v_2c]) w33 (fun v36 w37 => ∃ x38 : Int, v36 = .int .i64 x38 ∧ (R (.returned (.slice s_0a ((IntKind.wrap .i64 (((s_0b : Nat) : Int) + ((v_2b : Nat) : Int))).toNat) s_0c)) w37))))))) ((0 ≤ ((s_0b : Nat) : Int) ∧ ((s_0b : Nat) : Int) ≤ (((IntKind.wrap .i64 (((s_0b : Nat) : Int) + ((v_2b : Nat) : Int))).toNat) : Nat)) ∧ ∀ a39, a39 = sliceAddr s_0a s_0c (((s_0b : Nat) : Int).toNat) 1 → runV Tryz.prog (Builtin.copy_ #[61, 61] 3 #[.slice a39 (((IntKind.wrap .i64 (((s_0b : Nat) : Int) + ((v_2b : Nat) : Int))).toNat) - ((s_0b : Nat) : Int).toNat) (s_0c - ((s_0b : Nat) : Int).toNat), .slice v_2a v_2b v_2c]) w25 (fun v40 w41 => ∃ x42 : Int, v40 = .int .i64 x42 ∧ ((0 ≤ i_1 ∧ i_1 ≤ (((IntKind.wrap .i64 (((s_0b : Nat) : Int) + ((v_2b : Nat) : Int))).toNat) : Nat)) ∧ ∀ a43, a43 = sliceAddr s_0a s_0c i_1.toNat 1 → Calls Tryz.prog 205 #[.slice a43 (((IntKind.wrap .i64 (((s_0b : Nat) : Int) + ((v_2b : Nat) : Int))).toNat) - i_1.toNat) (s_0c - i_1.toNat), .int .i64 ((v_2b : Nat) : Int)] w41 (fun e44 w45 => e44 = .returned (.tuple #[]) ∧ (R (.returned (.slice s_0a ((IntKind.wrap .i64 (((s_0b : Nat) : Int) + ((v_2b : Nat) : Int))).toNat) s_0c)) w45)))))))))))
def vc (R : Ending → World → Prop) (s_0a : Option Addr) (s_0b : Nat) (s_0c : Nat) (i_1 : Int) (v_2a : Option Addr) (v_2b : Nat) (v_2c : Nat) (w : World) : Prop := t0 R  s_0a s_0b s_0c i_1 v_2a v_2b v_2c w
theorem calls (R : Ending → World → Prop) (s_0a : Option Addr) (s_0b : Nat) (s_0c : Nat) (i_1 : Int) (v_2a : Option Addr) (v_2b : Nat) (v_2c : Nat) (w : World) (h : vc R s_0a s_0b s_0c i_1 v_2a v_2b v_2c w) : Calls Tryz.prog 158 #[.slice s_0a s_0b s_0c, .int .i64 i_1, .slice v_2a v_2b v_2c] w R :=
  calls_V Tryz.func158 (Eq.mpr (by kernel_rfl) (h))
end slices_Insert_uint64_uint64
end Go.Proofs.YtcofknlcdgidpaaGreatDoor
/-! ## GcmpLessuint64 -/
namespace Go.Proofs.YtcofknlcdgidpaaGreatDoor
open Go Go.Proofs.YtcofknlcdgidpaaGreatDoor.VC
set_option linter.unusedVariables false
set_option maxRecDepth 100000
set_option maxHeartbeats 0

/-! ### cmp.Less[uint64]: function 127 -/
namespace cmp_Less_uint64
def t0 (R : Ending → World → Prop)  (x_0 : Int) (y_1 : Int) (w : World) : Prop := Calls Tryz.prog 175 #[.int .u64 x_0] w (fun e1 w2 => ∃ t3 : Bool, e1 = .returned (.bool t3) ∧ (boolV t3 (Calls Tryz.prog 175 #[.int .u64 y_1] w2 (fun e4 w5 => ∃ t6 : Bool, e4 = .returned (.bool t6) ∧ (boolV (!t6) (R (.returned (.bool true)) w5) (R (.returned (.bool (decide (x_0 < y_1)))) w5)))) (R (.returned (.bool (decide (x_0 < y_1)))) w2)))
def vc (R : Ending → World → Prop) (x_0 : Int) (y_1 : Int) (w : World) : Prop := t0 R  x_0 y_1 w
theorem calls (R : Ending → World → Prop) (x_0 : Int) (y_1 : Int) (w : World) (h : vc R x_0 y_1 w) : Calls Tryz.prog 127 #[.int .u64 x_0, .int .u64 y_1] w R :=
  calls_V Tryz.func127 (Eq.mpr (by kernel_rfl) (h))
end cmp_Less_uint64
end Go.Proofs.YtcofknlcdgidpaaGreatDoor
/-! ## GcmpisNaNuint64 -/
namespace Go.Proofs.YtcofknlcdgidpaaGreatDoor
open Go Go.Proofs.YtcofknlcdgidpaaGreatDoor.VC
set_option linter.unusedVariables false
set_option maxRecDepth 100000
set_option maxHeartbeats 0

/-! ### cmp.isNaN[uint64]: function 175 -/
namespace cmp_isNaN_uint64
def t0 (R : Ending → World → Prop)  (x_0 : Int) (w : World) : Prop := R (.returned (.bool (x_0 != x_0))) w
def vc (R : Ending → World → Prop) (x_0 : Int) (w : World) : Prop := t0 R  x_0 w
theorem calls (R : Ending → World → Prop) (x_0 : Int) (w : World) (h : vc R x_0 w) : Calls Tryz.prog 175 #[.int .u64 x_0] w R :=
  calls_V Tryz.func175 (Eq.mpr (by kernel_rfl) (h))
end cmp_isNaN_uint64
end Go.Proofs.YtcofknlcdgidpaaGreatDoor
/-! ## GslicesisNaNuint64 -/
namespace Go.Proofs.YtcofknlcdgidpaaGreatDoor
open Go Go.Proofs.YtcofknlcdgidpaaGreatDoor.VC
set_option linter.unusedVariables false
set_option maxRecDepth 100000
set_option maxHeartbeats 0

/-! ### slices.isNaN[uint64]: function 128 -/
namespace slices_isNaN_uint64
def t0 (R : Ending → World → Prop)  (x_0 : Int) (w : World) : Prop := R (.returned (.bool (x_0 != x_0))) w
def vc (R : Ending → World → Prop) (x_0 : Int) (w : World) : Prop := t0 R  x_0 w
theorem calls (R : Ending → World → Prop) (x_0 : Int) (w : World) (h : vc R x_0 w) : Calls Tryz.prog 128 #[.int .u64 x_0] w R :=
  calls_V Tryz.func128 (Eq.mpr (by kernel_rfl) (h))
end slices_isNaN_uint64
end Go.Proofs.YtcofknlcdgidpaaGreatDoor
/-! ## Sl -/
namespace Go.Proofs.YtcofknlcdgidpaaGreatDoor
open Go Go.RowKit Go.Proofs.YtcofknlcdgidpaaGreatDoor.VC
set_option linter.unusedVariables false
set_option maxRecDepth 100000

/-- An append of a row that is read onto a row that the call owns. -/
theorem appendS {P : Program} {w : World} {B : Nat} {t ty e : TypeId} {size : Nat} (hT : sliceT P t e size = true) {v : Value} {n : Nat} {xs : List Value}
    (hown : w.ownsRow B e size v n xs) (hB : B ≤ w.heap.size) {g o m c : Nat} {news : List Value} (hrow : RowAt w (some ⟨g, o, none⟩) news) (hl : news.length = m * size) (h1 : ∀ u ∈ news, u.oneCell' = true) (hn : n + m ≤ 4294967296)
    {K : Value → World → Prop}
    (hK : ∀ a' c' w', w'.ownsRow B e size (.slice a' (n + m) c') (n + m) (xs ++ news) → Below B w w' → w.grownBy w' v.ownBlock → K (.slice a' (n + m) c') w') :
    runV P (Builtin.append_ #[t, t] ty #[v, .slice (some ⟨g, o, none⟩) m c]) w K := by
  obtain ⟨ht, i, z, hi, hz, hs, hzs, hsz, hby⟩ := sliceT_get hT
  have hmax : (4294967296 : Nat) ≤ maxLen := by decide
  have hb : (n + m) * i.bytes ≤ 140737488355328 := Nat.le_trans (Nat.mul_le_mul hn hby) (by decide)
  obtain ⟨v', w', hr, ho, hg, hnil⟩ := run_append_own (P := P) (w := w) B t ty e i z size i.bytes ht hi hz hs rfl hzs hsz v n xs hown ⟨g, o, none⟩ m c news hl
    (fun j u hj => by
      rw [Addr_add]
      rcases hrow with rfl | ⟨g', o', h1, h⟩
      · simp at hj
      · cases h1; exact h j u hj) h1 (Nat.le_trans hn hmax) hb hB
  obtain ⟨a', c', rfl⟩ : ∃ a c, v' = .slice a (n + m) c := by
    rcases ho.2 with ⟨hv, h0⟩ | ⟨g, cap, cur, hv, _⟩
    · exact ⟨_, _, by rw [hv, h0]⟩
    · exact ⟨_, _, hv⟩
  exact runV_ok hr (hK _ _ _ ho ((Below.refl B w).grown hg hB (fun k hk => (hown.lt k hk).1)) hg)
/-- The condition of 'slices.Clone'. -/
theorem cloneV {t e : TypeId} {size : Nat} (hT : sliceT Tryz.prog t e size = true) {a : Option Addr} {n c : Nat} {cs : List Value} {w : World} (hrow : RowAt w a cs) (hl : cs.length = n * size) (hsz : 0 < size) (h1 : ∀ u ∈ cs, u.oneCell' = true) (hn : n ≤ 4294967296)
    {R : Ending → World → Prop} (hR : ∀ a' c' w', w'.ownsRow w.heap.size e size (.slice a' n c') n cs → Below w.heap.size w w' → R (.returned (.slice a' n c')) w') :
    boolV a.isNone (R (.returned (.slice none 0 0)) w) (∀ (b1 : Nat) (w2 : World), b1 = w.heap.size → w2 = World.alloc w (.cells #[] e) → runV Tryz.prog (Builtin.append_ #[t, t] t #[.slice (some ⟨b1, 0, none⟩) 0 0, .slice a n c]) w2 (fun v3 w4 => ∃ (a5 : Option Addr) (n6 c7 : Nat), v3 = .slice a5 n6 c7 ∧ (R (.returned (.slice a5 n6 c7)) w4))) := by
  cases a with
  | none =>
    have hcs : cs = [] := by
      rcases hrow with h | ⟨g, o, h, _⟩
      · exact h
      · cases h
    have hn0 : n = 0 := by
      subst hcs
      rcases Nat.mul_eq_zero.mp hl.symm with h | h
      · exact h
      · omega
    subst hcs; subst hn0
    exact boolT rfl (hR none 0 w (World.ownsRow_nil _ _ _ _) (Below.refl _ _))
  | some p =>
    refine boolF rfl ?_
    rintro b1 w2 rfl rfl
    have hb := (Below.refl w.heap.size w).alloc (Nat.le_refl _) (.cells #[] e)
    have hown : (w.alloc (.cells #[] e)).ownsRow w.heap.size e size (.slice (some ⟨w.heap.size, 0, none⟩) 0 0) 0 [] := World.ownsRow_made w #[] 0 (Nat.le_refl _) (by decide) (by simp)
    rcases hrow with rfl | ⟨g, o, h, hc⟩
    · have hn0 : n = 0 := by
        rcases Nat.mul_eq_zero.mp hl.symm with h | h
        · exact h
        · omega
      subst hn0
      obtain ⟨g, o, s⟩ := p
      obtain ⟨ht, i, z, hi, hz, hs, hzs, hsz', hby⟩ := sliceT_get hT
      obtain ⟨v', w', hr, ho, hg, hnil⟩ := run_append_own (P := Tryz.prog) (w := w.alloc (.cells #[] e)) w.heap.size t t e i z size i.bytes ht hi hz hs rfl hzs hsz' _ 0 [] hown ⟨g, o, s⟩ 0 c [] (by simp) (by simp) (by simp) (by decide) (by simp) hb.size
      obtain ⟨a', c', rfl⟩ : ∃ a c, v' = .slice a 0 c := by
        rcases ho.2 with ⟨hv, h0⟩ | ⟨g, cap, cur, hv, _⟩
        · exact ⟨_, _, hv⟩
        · exact ⟨_, _, hv⟩
      refine runV_ok hr ⟨_, _, _, rfl, hR _ _ _ ho (hb.trans ((Below.refl _ _).grown hg hb.size (fun k hk => (hown.lt k hk).1)))⟩
    · obtain rfl : p = ⟨g, o, none⟩ := by injection h
      refine appendS hT hown hb.size ((show RowAt w (some ⟨g, o, none⟩) cs from .inr ⟨g, o, rfl, hc⟩).below hb (Nat.le_refl _)) hl h1 (by omega) ?_
      intro a' c' w' ho hb' hg
      rw [Nat.zero_add] at ho ⊢
      exact ⟨_, _, _, rfl, hR _ _ _ (by simpa using ho) (hb.trans hb')⟩

/-! ### Numbers in a row -/
def u64Cs (l : List Nat) : List Value := l.map (fun (n : Nat) => Value.int .u64 (n : Int))
theorem u64Cs_len (l : List Nat) : (u64Cs l).length = l.length := by simp [u64Cs]
theorem u64Cs_append (a b : List Nat) : u64Cs (a ++ b) = u64Cs a ++ u64Cs b := by simp [u64Cs]
theorem u64Cs_one (l : List Nat) : ∀ u ∈ u64Cs l, u.oneCell' = true := by
  intro u hu; simp only [u64Cs, List.mem_map] at hu; obtain ⟨n, _, rfl⟩ := hu; rfl
theorem rowU64 {w : World} {a : Option Addr} {l : List Nat} (h : RowAt w a (u64Cs l)) {i n : Nat} (hi : l[i]? = some n) : ∃ q, a = some q ∧ w.cell? (q.add (i * 1)) = some (.int .u64 n) := by
  have h0 : (u64Cs l)[i]? = some (.int .u64 n) := by simp [u64Cs, hi]
  obtain ⟨g, o, rfl, hc⟩ := h.some_ h0
  exact ⟨_, rfl, by rw [Nat.mul_one, Addr_add]; exact hc _ _ h0⟩
theorem slices_clone_u64 (l : List Nat) (hl : l.length ≤ 4294967296) (a : Option Addr) (c : Nat) (w0 : World) (hrow : RowAt w0 a (u64Cs l)) :
    Calls Tryz.prog 36 #[.slice a l.length c] w0 (fun e w => ∃ a' c', e = .returned (.slice a' l.length c') ∧ w.ownsRow w0.heap.size 24 1 (.slice a' l.length c') l.length (u64Cs l) ∧ Below w0.heap.size w0 w) := by
  apply slices_Clone_uint64_uint64.calls
  unfold slices_Clone_uint64_uint64.vc slices_Clone_uint64_uint64.t0
  exact cloneV (R := fun e w => ∃ a' c', e = .returned (.slice a' l.length c') ∧ w.ownsRow w0.heap.size 24 1 (.slice a' l.length c') l.length (u64Cs l) ∧ Below w0.heap.size w0 w) (size := 1) (by kernel_rfl) hrow (by rw [u64Cs_len]; omega) (by decide) (u64Cs_one l) hl fun a' c' w' ho hb => ⟨_, _, rfl, ho, hb⟩
theorem cmp_less_u64 (x y : Int) (w0 : World) : Calls Tryz.prog 127 #[.int .u64 x, .int .u64 y] w0 (fun e w => e = .returned (.bool (decide (x < y))) ∧ w = w0) := by
  apply cmp_Less_uint64.calls
  refine Calls.mono (R := fun e w => e = .returned (.bool false) ∧ w = w0) ?_ ?_
  · apply cmp_isNaN_uint64.calls
    unfold cmp_isNaN_uint64.vc cmp_isNaN_uint64.t0
    simp
  · rintro e w ⟨rfl, rfl⟩
    exact ⟨_, rfl, boolF rfl ⟨rfl, rfl⟩⟩
/-- The place that halving comes to. -/
def bsGo (l : List Nat) (t : Nat) : Nat → Nat → Nat → Nat
  | 0, i, _ => i
  | k + 1, i, j => if i < j then (if l.getD ((i + j) / 2) 0 < t then bsGo l t k ((i + j) / 2 + 1) j else bsGo l t k i ((i + j) / 2)) else i
def bsI (l : List Nat) (t : Nat) : Nat := bsGo l t l.length 0 l.length
theorem bsGo_done (l : List Nat) (t : Nat) : ∀ k i j, ¬ i < j → bsGo l t k i j = i
  | 0, _, _, _ => rfl
  | k + 1, i, j, h => by rw [bsGo, if_neg h]
theorem bsGo_le (l : List Nat) (t : Nat) : ∀ k i j, i ≤ j → bsGo l t k i j ≤ j
  | 0, i, j, h => h
  | k + 1, i, j, h => by
    rw [bsGo]; split
    · split
      · exact bsGo_le l t k _ _ (by omega)
      · have := bsGo_le l t k i ((i + j) / 2) (by omega); omega
    · exact h
theorem slices_bs (l : List Nat) (hl : l.length < 4294967296) (t : Nat) (a : Option Addr) (c : Nat) (w0 : World) (hrow : RowAt w0 a (u64Cs l)) :
    Calls Tryz.prog 90 #[.slice a l.length c, .int .u64 t] w0 (fun e w => e = .returned (.tuple #[.int .i64 (bsI l t : Nat), .bool (l[bsI l t]? == some t)]) ∧ w = w0) := by
  apply slices_BinarySearch_uint64_uint64.calls
  intro L0 hL
  refine hL _ _ _ _ _ _ _ _ _ ?_
  refine ⟨fun m x y w => ∃ i j k : Nat, x = (i : Int) ∧ y = (j : Int) ∧ i ≤ j ∧ j ≤ l.length ∧ j - i ≤ k ∧ bsGo l t k i j = bsI l t ∧ m = j - i ∧ w = w0, _, ⟨0, l.length, l.length, rfl, rfl, by omega, by omega, by omega, rfl, rfl, rfl⟩, ?_⟩
  rintro m x y g w ⟨i, j, k, rfl, rfl, hij, hj, hk, hgo, rfl, rfl⟩ Back hback
  unfold slices_BinarySearch_uint64_uint64.t1
  by_cases hlt : i < j
  · obtain ⟨k, rfl⟩ : ∃ k', k = k' + 1 := ⟨k - 1, by omega⟩
    rw [bsGo, if_pos hlt] at hgo
    have hh : IntKind.wrap .i64 (shrI .u64 (IntKind.wrap .u64 (IntKind.wrap .i64 ((i : Int) + (j : Int)))) 1) = (((i + j) / 2 : Nat) : Int) := by
      rw [show ((i : Int) + (j : Int)) = ((i + j : Nat) : Int) from by omega, wrap_i64 (n := ((i + j : Nat) : Int)) (by omega) (by omega), wrap_u64, Nat.mod_eq_of_lt (by omega)]
      have := shr_nat (k := .u64) (i + j) (j := 1) (by decide)
      rw [show ((1 : Nat) : Int) = 1 from rfl] at this
      rw [this, wrap_i64 (by omega) (by omega)]
    rw [hh]
    have hlt2 : (i + j) / 2 < l.length := by omega
    have hli : l[(i + j) / 2]? = some l[(i + j) / 2] := List.getElem?_eq_getElem hlt2
    have hgd : l.getD ((i + j) / 2) 0 = l[(i + j) / 2] := by rw [List.getD_eq_getElem?_getD, hli]; rfl
    rw [hgd] at hgo
    obtain ⟨q, hq, c0⟩ := rowU64 hrow hli
    refine boolT (by simp; omega) (someV_some hq ⟨⟨by omega, by omega⟩, _, c0, (cmp_less_u64 _ _ w).mono ?_⟩)
    rintro e w' ⟨rfl, rfl⟩
    refine ⟨_, rfl, ?_⟩
    by_cases hc : l[(i + j) / 2] < t
    · rw [if_pos hc] at hgo
      refine boolT (by simpa using hc) (hback (j - ((i + j) / 2 + 1)) _ _ _ _ (by omega) ⟨(i + j) / 2 + 1, j, k, ?_, rfl, by omega, hj, by omega, hgo, rfl, rfl⟩)
      rw [wrap_i64 (by omega) (by omega)]; omega
    · rw [if_neg hc] at hgo
      exact boolF (by simpa using hc) (hback ((i + j) / 2 - i) _ _ _ _ (by omega) ⟨i, (i + j) / 2, k, rfl, rfl, by omega, by omega, by omega, hgo, rfl, rfl⟩)
  · rw [bsGo_done _ _ _ _ _ hlt] at hgo
    subst hgo
    refine boolF (by simp; omega) ?_
    by_cases hn : bsI l t < l.length
    · have hli : l[bsI l t]? = some l[bsI l t] := List.getElem?_eq_getElem hn
      obtain ⟨q, hq, c0⟩ := rowU64 hrow hli
      refine boolT (by simp; omega) (someV_some hq ⟨⟨by omega, by omega⟩, _, c0, ?_⟩)
      by_cases he : l[bsI l t] = t
      · refine boolT (by simp [he]) ⟨by rw [hli, he]; simp, rfl⟩
      · refine boolF (by simp; omega) (someV_some hq ⟨⟨by omega, by omega⟩, _, c0, ?_⟩)
        refine Calls.mono (R := fun e w' => e = .returned (.bool false) ∧ w' = w) ?_ ?_
        · apply slices_isNaN_uint64.calls
          unfold slices_isNaN_uint64.vc slices_isNaN_uint64.t0
          simp
        · rintro e w' ⟨rfl, rfl⟩
          refine ⟨_, rfl, boolF rfl ⟨?_, rfl⟩⟩
          rw [hli]; simp [he]
    · refine boolF (by simp; omega) ⟨?_, rfl⟩
      rw [List.getElem?_eq_none (by omega)]; simp
/-- slices.Insert of one number at the end. -/
theorem slices_insert_end (l : List Nat) (hl : l.length < 4294967295) (t B : Nat) (a : Option Addr) (c : Nat) (w0 : World) (g c' : Nat) (hown : w0.ownsRow B 24 1 (.slice a l.length c) l.length (u64Cs l)) (hB : B ≤ w0.heap.size) (hv : Blk w0 g 24 [.int .u64 t]) :
    Calls Tryz.prog 158 #[.slice a l.length c, .int .i64 (l.length : Nat), .slice (some ⟨g, 0, none⟩) 1 c'] w0 (fun e w => ∃ a' c', e = .returned (.slice a' (l.length + 1) c') ∧ w.ownsRow B 24 1 (.slice a' (l.length + 1) c') (l.length + 1) (u64Cs (l ++ [t])) ∧ Below B w0 w ∧ w0.grownBy w (Value.ownBlock (.slice a l.length c))) := by
  apply slices_Insert_uint64_uint64.calls
  unfold slices_Insert_uint64_uint64.vc slices_Insert_uint64_uint64.t0
  refine ⟨⟨by omega, by omega⟩, ?_⟩
  rintro a1 rfl
  refine boolF rfl (boolT (by simp) ?_)
  refine appendS (size := 1) (by kernel_rfl) hown hB (RowAt.of_blk hv) (by rfl) (by simp [Value.oneCell']) (by omega) ?_
  intro a' c'' w' ho hb hg
  exact ⟨_, _, _, rfl, _, _, rfl, by rw [u64Cs_append]; exact ho, hb, hg⟩
end Go.Proofs.YtcofknlcdgidpaaGreatDoor
/-! ## Gledgerplace -/
namespace Go.Proofs.YtcofknlcdgidpaaGreatDoor
open Go Go.Proofs.YtcofknlcdgidpaaGreatDoor.VC
set_option linter.unusedVariables false
set_option maxRecDepth 100000
set_option maxHeartbeats 0

/-! ### postroom/ledger.place: function 53 -/
namespace ledger_place
def t0 (R : Ending → World → Prop)  (l_0a : Option Addr) (l_0b : Nat) (l_0c : Nat) (name_1 : ByteArray) (w : World) : Prop := ∀ (b1 : Nat) (w2 : World), b1 = w.heap.size → w2 = World.alloc w (.cells #[.string name_1] 9) → Calls Tryz.prog 88 #[.slice l_0a l_0b l_0c, .func (.func 89) #[] #[.pointer (some ⟨b1, 0, none⟩)]] w2 (fun e3 w4 => ∃ x5 : Int, e3 = .returned (.int .i64 x5) ∧ (R (.returned (.int .i64 x5)) w4))
def vc (R : Ending → World → Prop) (l_0a : Option Addr) (l_0b : Nat) (l_0c : Nat) (name_1 : ByteArray) (w : World) : Prop := t0 R  l_0a l_0b l_0c name_1 w
theorem calls (R : Ending → World → Prop) (l_0a : Option Addr) (l_0b : Nat) (l_0c : Nat) (name_1 : ByteArray) (w : World) (h : vc R l_0a l_0b l_0c name_1 w) : Calls Tryz.prog 53 #[.slice l_0a l_0b l_0c, .string name_1] w R :=
  calls_V Tryz.func53 (Eq.mpr (by kernel_rfl) (h))
end ledger_place
end Go.Proofs.YtcofknlcdgidpaaGreatDoor
/-! ## Gledgerplace1 -/
namespace Go.Proofs.YtcofknlcdgidpaaGreatDoor
open Go Go.Proofs.YtcofknlcdgidpaaGreatDoor.VC
set_option linter.unusedVariables false
set_option maxRecDepth 100000
set_option maxHeartbeats 0

/-! ### postroom/ledger.place$1: function 89 -/
namespace ledger_place_1
def t0 (R : Ending → World → Prop)  (d_0a : ByteArray) (d_0b : Int) (d_0c : Int) (d_0d : Option Addr) (d_0e : Nat) (d_0f : Nat) (d_0g : Int) (d_0h : Int) (d_0i : Int) (x_1 : Option Addr) (w : World) : Prop := ∀ (b1 : Nat) (w2 : World), b1 = w.heap.size → w2 = World.alloc w (.cells #[.string d_0a, .int .u64 d_0b, .int .u64 d_0c, .slice d_0d d_0e d_0f, .int .u64 d_0g, .int .u64 d_0h, .int .u64 d_0i] 63) → ∃ s3 : ByteArray, w2.cell? ⟨b1, 0, none⟩ = some (.string s3) ∧ (someV x_1 (fun p4 => ∃ s5 : ByteArray, w2.cell? p4 = some (.string s5) ∧ (R (.returned (.bool (s3.toList == s5.toList))) w2)))
def vc (R : Ending → World → Prop) (d_0a : ByteArray) (d_0b : Int) (d_0c : Int) (d_0d : Option Addr) (d_0e : Nat) (d_0f : Nat) (d_0g : Int) (d_0h : Int) (d_0i : Int) (x_1 : Option Addr) (w : World) : Prop := t0 R  d_0a d_0b d_0c d_0d d_0e d_0f d_0g d_0h d_0i x_1 w
theorem calls (R : Ending → World → Prop) (d_0a : ByteArray) (d_0b : Int) (d_0c : Int) (d_0d : Option Addr) (d_0e : Nat) (d_0f : Nat) (d_0g : Int) (d_0h : Int) (d_0i : Int) (x_1 : Option Addr) (w : World) (h : vc R d_0a d_0b d_0c d_0d d_0e d_0f d_0g d_0h d_0i x_1 w) : Calls Tryz.prog 89 #[.agg #[.string d_0a, .int .u64 d_0b, .int .u64 d_0c, .slice d_0d d_0e d_0f, .int .u64 d_0g, .int .u64 d_0h, .int .u64 d_0i], .pointer x_1] w R :=
  calls_V Tryz.func89 (Eq.mpr (by kernel_rfl) (h))
end ledger_place_1
end Go.Proofs.YtcofknlcdgidpaaGreatDoor
/-! ## GslicesIndexFuncledgerDestledgerDest -/
namespace Go.Proofs.YtcofknlcdgidpaaGreatDoor
open Go Go.Proofs.YtcofknlcdgidpaaGreatDoor.VC
set_option linter.unusedVariables false
set_option maxRecDepth 100000
set_option maxHeartbeats 0

/-! ### slices.IndexFunc[[]postroom/ledger.Dest,postroom/ledger.Dest]: function 88 -/
namespace slices_IndexFunc_ledger_Dest_ledger_Dest
def t1 (R : Ending → World → Prop)  (Back0 : Int → List Value → World → Prop)  (s_0a : Option Addr) (s_0b : Nat) (s_0c : Nat) (f_1 : Value) (x_7 : Int) (x_8 : Int) (g : List Value) (w : World) : Prop := boolV (decide (x_8 < x_7)) (someV s_0a (fun p1 => (0 ≤ x_8 ∧ x_8 < (s_0b : Nat)) ∧ (∃ s2 : ByteArray, ∃ x3 : Int, ∃ x4 : Int, ∃ (a5 : Option Addr) (n6 c7 : Nat), ∃ x8 : Int, ∃ x9 : Int, ∃ x10 : Int, (w.cell? (p1.add (x_8.toNat * 7)) = some (.string s2) ∧ w.cell? ((p1.add (x_8.toNat * 7)).add 1) = some (.int .u64 x3) ∧ w.cell? ((p1.add (x_8.toNat * 7)).add 2) = some (.int .u64 x4) ∧ w.cell? ((p1.add (x_8.toNat * 7)).add 3) = some (.slice a5 n6 c7) ∧ w.cell? ((p1.add (x_8.toNat * 7)).add 4) = some (.int .u64 x8) ∧ w.cell? ((p1.add (x_8.toNat * 7)).add 5) = some (.int .u64 x9) ∧ w.cell? ((p1.add (x_8.toNat * 7)).add 6) = some (.int .u64 x10)) ∧ (funcV f_1 (fun g13 first14 captured15 => goodCall Tryz.prog g13 (Calls Tryz.prog g13 (first14.toList ++ ([.agg #[.string s2, .int .u64 x3, .int .u64 x4, .slice a5 n6 c7, .int .u64 x8, .int .u64 x9, .int .u64 x10]] : List Value) ++ captured15.toList).toArray w (fun e11 w12 => ∃ t16 : Bool, e11 = .returned (.bool t16) ∧ (boolV t16 (R (.returned (.int .i64 x_8)) w12) (Back0 (IntKind.wrap .i64 (x_8 + 1)) [nth g 0, nth g 1, nth g 2, .int .i64 x_8, nth g 4, .bool (decide (x_8 < x_7)), .int .i64 x_8, f_1, .slice s_0a s_0b s_0c, .int .i64 x_8, .pointer (some (p1.add (x_8.toNat * 7))), .agg #[.string s2, .int .u64 x3, .int .u64 x4, .slice a5 n6 c7, .int .u64 x8, .int .u64 x9, .int .u64 x10], .bool t16, nth g 13, .int .i64 (IntKind.wrap .i64 (x_8 + 1))] w12))))))))) (R (.returned (.int .i64 (-1))) w)
def W0 (R : Ending → World → Prop)  (s_0a : Option Addr) (s_0b : Nat) (s_0c : Nat) (f_1 : Value) (x_7 : Int) (x_8 : Int) (w : World) : Prop := ∃ (I : Nat → Int → World → Prop) (n : Nat), I n x_8 w ∧ ∀ (n : Nat) (x_8 : Int) (g : List Value) (w : World), I n x_8 w → ∀ (Back0 : Int → List Value → World → Prop), (∀ (m : Nat) (x_8 : Int) (g : List Value) (w : World), m < n → I m x_8 w → Back0 x_8 g w) → t1 R  Back0  s_0a s_0b s_0c f_1 x_7 x_8 g w
def t0 (R : Ending → World → Prop) (L0 : (Option Addr) → Nat → Nat → Value → Int → Int → List Value → World → Prop) (s_0a : Option Addr) (s_0b : Nat) (s_0c : Nat) (f_1 : Value) (w : World) : Prop := L0 s_0a s_0b s_0c f_1 ((s_0b : Nat) : Int) 0 [undef, undef, .int .i64 0, undef, .slice s_0a s_0b s_0c, undef, undef, undef, undef, undef, undef, undef, undef, undef, undef] w
def vc (R : Ending → World → Prop) (s_0a : Option Addr) (s_0b : Nat) (s_0c : Nat) (f_1 : Value) (w : World) : Prop := ∀ (L0 : (Option Addr) → Nat → Nat → Value → Int → Int → List Value → World → Prop), (∀ s_0a s_0b s_0c f_1 x_7 x_8 g w, W0 R s_0a s_0b s_0c f_1 x_7 x_8 w → L0 s_0a s_0b s_0c f_1 x_7 x_8 g w) → t0 R L0 s_0a s_0b s_0c f_1 w
theorem at0 (R : Ending → World → Prop) (s_0a : Option Addr) (s_0b : Nat) (s_0c : Nat) (f_1 : Value) (x_7 : Int) (x_8 : Int) (g : List Value) (w : World) (h : W0 R  s_0a s_0b s_0c f_1 x_7 x_8 w) : atV Tryz.prog (bodyC Tryz.f88) [true, false, true, false] (retQ Tryz.prog Tryz.f88 R) [.slice s_0a s_0b s_0c, f_1, nth g 0, nth g 1, nth g 2, nth g 3, nth g 4, .int .i64 x_7, .int .i64 x_8, nth g 5, nth g 6, nth g 7, nth g 8, nth g 9, nth g 10, nth g 11, nth g 12, nth g 13, nth g 14] w := by
  obtain ⟨I, n0, h0, hs⟩ := h
  refine atV_loop (by kernel_rfl) (fun n s w => ∃ (x_8 : Int) (g : List Value), s = [.slice s_0a s_0b s_0c, f_1, nth g 0, nth g 1, nth g 2, nth g 3, nth g 4, .int .i64 x_7, .int .i64 x_8, nth g 5, nth g 6, nth g 7, nth g 8, nth g 9, nth g 10, nth g 11, nth g 12, nth g 13, nth g 14] ∧ I n x_8 w) n0 ⟨_, _, rfl, h0⟩ ?_
  rintro n s w ⟨x_8, g, rfl, hI⟩
  exact Eq.mpr (by kernel_rfl) (hs n x_8 g w hI (fun x_8 g w => (backQ (fun n s w => ∃ (x_8 : Int) (g : List Value), s = [.slice s_0a s_0b s_0c, f_1, nth g 0, nth g 1, nth g 2, nth g 3, nth g 4, .int .i64 x_7, .int .i64 x_8, nth g 5, nth g 6, nth g 7, nth g 8, nth g 9, nth g 10, nth g 11, nth g 12, nth g 13, nth g 14] ∧ I n x_8 w) n (ctxQ Tryz.prog (bodyC Tryz.f88) [true, false, true, false] (retQ Tryz.prog Tryz.f88 R))) .normal [.slice s_0a s_0b s_0c, f_1, nth g 0, nth g 1, nth g 2, nth g 3, nth g 4, .int .i64 x_7, .int .i64 x_8, nth g 5, nth g 6, nth g 7, nth g 8, nth g 9, nth g 10, nth g 11, nth g 12, nth g 13, nth g 14] w) (fun m x_8 g w hm hI => ⟨m, hm, x_8, g, rfl, hI⟩))
theorem calls (R : Ending → World → Prop) (s_0a : Option Addr) (s_0b : Nat) (s_0c : Nat) (f_1 : Value) (w : World) (h : vc R s_0a s_0b s_0c f_1 w) : Calls Tryz.prog 88 #[.slice s_0a s_0b s_0c, f_1] w R :=
  calls_V Tryz.func88 (Eq.mpr (by kernel_rfl) (h (fun s_0a s_0b s_0c f_1 x_7 x_8 g w => atV Tryz.prog (bodyC Tryz.f88) [true, false, true, false] (retQ Tryz.prog Tryz.f88 R) [.slice s_0a s_0b s_0c, f_1, nth g 0, nth g 1, nth g 2, nth g 3, nth g 4, .int .i64 x_7, .int .i64 x_8, nth g 5, nth g 6, nth g 7, nth g 8, nth g 9, nth g 10, nth g 11, nth g 12, nth g 13, nth g 14] w) (fun s_0a s_0b s_0c f_1 x_7 x_8 g w h => at0 R s_0a s_0b s_0c f_1 x_7 x_8 g w h)))
end slices_IndexFunc_ledger_Dest_ledger_Dest
end Go.Proofs.YtcofknlcdgidpaaGreatDoor
/-! ## GledgerNew -/
namespace Go.Proofs.YtcofknlcdgidpaaGreatDoor
open Go Go.Proofs.YtcofknlcdgidpaaGreatDoor.VC
set_option linter.unusedVariables false
set_option maxRecDepth 100000
set_option maxHeartbeats 0

/-! ### postroom/ledger.New: function 32 -/
namespace ledger_New
def t0 (R : Ending → World → Prop)   (w : World) : Prop := ∀ (b1 : Nat) (w2 : World), b1 = w.heap.size → w2 = World.alloc w (.cells #[.int .u64 0, .int .u64 0, .slice none 0 0] 37) → Writable w2 ⟨b1, 0, none⟩ 3 ∧ ∀ w3 : World, w3 = World.setCell (World.setCell (World.setCell w2 ⟨b1, 0, none⟩ (.int .u64 1)) ⟨b1, 1, none⟩ (.int .u64 1)) ⟨b1, 2, none⟩ (.slice none 0 0) → ∃ x4 : Int, ∃ x5 : Int, ∃ (a6 : Option Addr) (n7 c8 : Nat), (w3.cell? ⟨b1, 0, none⟩ = some (.int .u64 x4) ∧ w3.cell? ⟨b1, 1, none⟩ = some (.int .u64 x5) ∧ w3.cell? ⟨b1, 2, none⟩ = some (.slice a6 n7 c8)) ∧ (R (.returned (.agg #[.int .u64 x4, .int .u64 x5, .slice a6 n7 c8])) w3)
def vc (R : Ending → World → Prop)  (w : World) : Prop := t0 R   w
theorem calls (R : Ending → World → Prop)  (w : World) (h : vc R  w) : Calls Tryz.prog 32 #[] w R :=
  calls_V Tryz.func32 (Eq.mpr (by kernel_rfl) (h))
end ledger_New
end Go.Proofs.YtcofknlcdgidpaaGreatDoor
/-! ## GledgerAdd -/
namespace Go.Proofs.YtcofknlcdgidpaaGreatDoor
open Go Go.Proofs.YtcofknlcdgidpaaGreatDoor.VC
set_option linter.unusedVariables false
set_option maxRecDepth 100000
set_option maxHeartbeats 0

/-! ### postroom/ledger.Add: function 48 -/
namespace ledger_Add
def t0 (R : Ending → World → Prop)  (l_0a : Int) (l_0b : Int) (l_0c : Option Addr) (l_0d : Nat) (l_0e : Nat) (w : World) : Prop := ∀ (b1 : Nat) (w2 : World), b1 = w.heap.size → w2 = World.alloc w (.cells #[.int .u64 l_0a, .int .u64 l_0b, .slice l_0c l_0d l_0e] 37) → ∀ (b3 : Nat) (w4 : World), b3 = w2.heap.size → w4 = World.alloc w2 (.cells #[.int .u64 0, .int .u64 0, .slice none 0 0] 37) → ∃ x5 : Int, w4.cell? ⟨b1, 1, none⟩ = some (.int .u64 x5) ∧ (Writable w4 ⟨b1, 1, none⟩ 1 ∧ ∀ w6 : World, w6 = World.setCell w4 ⟨b1, 1, none⟩ (.int .u64 (IntKind.wrap .u64 (x5 + 1))) → ∃ (a7 : Option Addr) (n8 c9 : Nat), w6.cell? ⟨b1, 2, none⟩ = some (.slice a7 n8 c9) ∧ (Calls Tryz.prog 35 #[.slice a7 n8 c9] w6 (fun e10 w11 => ∃ (a12 : Option Addr) (n13 c14 : Nat), e10 = .returned (.slice a12 n13 c14) ∧ (Writable w11 ⟨b1, 2, none⟩ 1 ∧ ∀ w15 : World, w15 = World.setCell w11 ⟨b1, 2, none⟩ (.slice a12 n13 c14) → ∃ x16 : Int, ∃ x17 : Int, ∃ (a18 : Option Addr) (n19 c20 : Nat), (w15.cell? ⟨b1, 0, none⟩ = some (.int .u64 x16) ∧ w15.cell? ⟨b1, 1, none⟩ = some (.int .u64 x17) ∧ w15.cell? ⟨b1, 2, none⟩ = some (.slice a18 n19 c20)) ∧ (Writable w15 ⟨b3, 0, none⟩ 3 ∧ ∀ w21 : World, w21 = World.setCell (World.setCell (World.setCell w15 ⟨b3, 0, none⟩ (.int .u64 x16)) ⟨b3, 1, none⟩ (.int .u64 x17)) ⟨b3, 2, none⟩ (.slice a18 n19 c20) → ∃ x22 : Int, ∃ x23 : Int, ∃ (a24 : Option Addr) (n25 c26 : Nat), (w21.cell? ⟨b3, 0, none⟩ = some (.int .u64 x22) ∧ w21.cell? ⟨b3, 1, none⟩ = some (.int .u64 x23) ∧ w21.cell? ⟨b3, 2, none⟩ = some (.slice a24 n25 c26)) ∧ (R (.returned (.agg #[.int .u64 x22, .int .u64 x23, .slice a24 n25 c26])) w21))))))
def vc (R : Ending → World → Prop) (l_0a : Int) (l_0b : Int) (l_0c : Option Addr) (l_0d : Nat) (l_0e : Nat) (w : World) : Prop := t0 R  l_0a l_0b l_0c l_0d l_0e w
theorem calls (R : Ending → World → Prop) (l_0a : Int) (l_0b : Int) (l_0c : Option Addr) (l_0d : Nat) (l_0e : Nat) (w : World) (h : vc R l_0a l_0b l_0c l_0d l_0e w) : Calls Tryz.prog 48 #[.agg #[.int .u64 l_0a, .int .u64 l_0b, .slice l_0c l_0d l_0e]] w R :=
  calls_V Tryz.func48 (Eq.mpr (by kernel_rfl) (h))
end ledger_Add
end Go.Proofs.YtcofknlcdgidpaaGreatDoor
/-! ## Led -/
namespace Go.Proofs.YtcofknlcdgidpaaGreatDoor
open Go Go.RowKit Go.Proofs.YtcofknlcdgidpaaGreatDoor.VC
set_option linter.unusedVariables false
set_option maxRecDepth 100000

structure Dest where
  name : Txt
  since : Nat
  low : Nat
  above : List Nat
  acked : Nat
  evicted : Nat
  rejected : Nat
/-- A destination, and where its numbers lie. -/
structure DestL where
  d : Dest
  a : Option Addr
  c : Nat
def DestL.cells (x : DestL) : List Value := [.string (S x.d.name), .int .u64 x.d.since, .int .u64 x.d.low, .slice x.a x.d.above.length x.c, .int .u64 x.d.acked, .int .u64 x.d.evicted, .int .u64 x.d.rejected]
def DestL.val (x : DestL) : Value := .agg #[.string (S x.d.name), .int .u64 x.d.since, .int .u64 x.d.low, .slice x.a x.d.above.length x.c, .int .u64 x.d.acked, .int .u64 x.d.evicted, .int .u64 x.d.rejected]
def destCs (l : List DestL) : List Value := l.flatMap DestL.cells
theorem destCs_len (l : List DestL) : (destCs l).length = l.length * 7 := flat_len DestL.cells 7 (fun _ => rfl) l
theorem destCs_snoc (l : List DestL) (x : DestL) : destCs (l ++ [x]) = destCs l ++ x.cells := by simp [destCs]
theorem destCs_one (l : List DestL) : ∀ u ∈ destCs l, u.oneCell' = true := by
  intro u hu
  simp only [destCs, List.mem_flatMap] at hu
  obtain ⟨x, _, hu⟩ := hu
  simp only [DestL.cells, List.mem_cons, List.not_mem_nil, or_false] at hu
  rcases hu with rfl | rfl | rfl | rfl | rfl | rfl | rfl <;> rfl
/-- Each destination's numbers lie in their place. -/
def AboveAt (w : World) (l : List DestL) : Prop := ∀ x ∈ l, x.d.above.length ≤ x.c ∧ x.d.above.length < 4294967296 ∧ RowAt w x.a (u64Cs x.d.above)
theorem AboveAt.below {w w' : World} {l : List DestL} (h : AboveAt w l) {B : Nat} (hb : Below B w w') (hB : w.heap.size ≤ B) : AboveAt w' l := fun x hx => ⟨(h x hx).1, (h x hx).2.1, (h x hx).2.2.below hb hB⟩
theorem AboveAt.sub {w : World} {l l' : List DestL} (h : AboveAt w l) (hs : ∀ x ∈ l', x ∈ l) : AboveAt w l' := fun x hx => h x (hs x hx)
def Reads7 (w : World) (q : Addr) (x : DestL) : Prop := w.cell? q = some (.string (S x.d.name)) ∧ w.cell? (q.add 1) = some (.int .u64 x.d.since) ∧ w.cell? (q.add 2) = some (.int .u64 x.d.low) ∧ w.cell? (q.add 3) = some (.slice x.a x.d.above.length x.c) ∧ w.cell? (q.add 4) = some (.int .u64 x.d.acked) ∧ w.cell? (q.add 5) = some (.int .u64 x.d.evicted) ∧ w.cell? (q.add 6) = some (.int .u64 x.d.rejected)
theorem rowDest {w : World} {a : Option Addr} {l : List DestL} (h : RowAt w a (destCs l)) {i : Nat} {x : DestL} (hi : l[i]? = some x) : ∃ q, a = some q ∧ Reads7 w (q.add (i * 7)) x := by
  have k := fun j (hj : j < 7) => flat_get DestL.cells 7 (fun _ => rfl) l i j x hi hj
  obtain ⟨g, o, rfl, hc⟩ := h.some_ (j := i * 7) (u := .string (S x.d.name)) (k 0 (by decide))
  refine ⟨_, rfl, ?_, ?_, ?_, ?_, ?_, ?_, ?_⟩ <;> simp only [Addr_add, Nat.add_assoc]
  · exact hc _ _ (k 0 (by decide))
  · exact hc _ _ (k 1 (by decide))
  · exact hc _ _ (k 2 (by decide))
  · exact hc _ _ (k 3 (by decide))
  · exact hc _ _ (k 4 (by decide))
  · exact hc _ _ (k 5 (by decide))
  · exact hc _ _ (k 6 (by decide))

/-! ### Variables of three and of seven cells -/
theorem var3V {w : World} {ty : TypeId} {z0 z1 z2 a b c : Value} {K : Nat → World → Prop} (h : ∀ w6, Blk w6 w.heap.size ty [a, b, c] → Below w.heap.size w w6 → w6.heap.size = w.heap.size + 1 → K w.heap.size w6) :
    ∀ (b4 : Nat) (w5 : World), b4 = w.heap.size → w5 = World.alloc w (.cells #[z0, z1, z2] ty) → Writable w5 ⟨b4, 0, none⟩ 3 ∧ ∀ w6 : World, w6 = World.setCell (World.setCell (World.setCell w5 ⟨b4, 0, none⟩ a) ⟨b4, 1, none⟩ b) ⟨b4, 2, none⟩ c → K b4 w6 := by
  rintro b4 w5 rfl rfl
  have hblk := Blk.new w ty [z0, z1, z2]
  have hb := (Below.refl w.heap.size w).alloc (Nat.le_refl _) (.cells #[z0, z1, z2] ty)
  refine ⟨hblk.writable (Nat.le_refl 3), ?_⟩
  rintro w6 rfl
  exact h _ (((hblk.set 0 a).set 1 b).set 2 c) (((hb.setCell (p := ⟨w.heap.size, 0, none⟩) (Nat.le_refl _) a).setCell (p := ⟨w.heap.size, 1, none⟩) (Nat.le_refl _) b).setCell (p := ⟨w.heap.size, 2, none⟩) (Nat.le_refl _) c) (by simp [World.setCell])
theorem var7V {w : World} {ty : TypeId} {z0 z1 z2 z3 z4 z5 z6 a b c d e f g : Value} {K : Nat → World → Prop} (h : ∀ w6, Blk w6 w.heap.size ty [a, b, c, d, e, f, g] → Below w.heap.size w w6 → w6.heap.size = w.heap.size + 1 → K w.heap.size w6) :
    ∀ (b4 : Nat) (w5 : World), b4 = w.heap.size → w5 = World.alloc w (.cells #[z0, z1, z2, z3, z4, z5, z6] ty) → Writable w5 ⟨b4, 0, none⟩ 7 ∧ ∀ w6 : World, w6 = World.setCell (World.setCell (World.setCell (World.setCell (World.setCell (World.setCell (World.setCell w5 ⟨b4, 0, none⟩ a) ⟨b4, 1, none⟩ b) ⟨b4, 2, none⟩ c) ⟨b4, 3, none⟩ d) ⟨b4, 4, none⟩ e) ⟨b4, 5, none⟩ f) ⟨b4, 6, none⟩ g → K b4 w6 := by
  rintro b4 w5 rfl rfl
  have hblk := Blk.new w ty [z0, z1, z2, z3, z4, z5, z6]
  have hb := (Below.refl w.heap.size w).alloc (Nat.le_refl _) (.cells #[z0, z1, z2, z3, z4, z5, z6] ty)
  refine ⟨hblk.writable (Nat.le_refl 7), ?_⟩
  rintro w6 rfl
  have hl := Nat.le_refl w.heap.size
  exact h _ (((((((hblk.set 0 a).set 1 b).set 2 c).set 3 d).set 4 e).set 5 f).set 6 g)
    (((((((hb.setCell (p := ⟨w.heap.size, 0, none⟩) hl a).setCell (p := ⟨w.heap.size, 1, none⟩) hl b).setCell (p := ⟨w.heap.size, 2, none⟩) hl c).setCell (p := ⟨w.heap.size, 3, none⟩) hl d).setCell (p := ⟨w.heap.size, 4, none⟩) hl e).setCell (p := ⟨w.heap.size, 5, none⟩) hl f).setCell (p := ⟨w.heap.size, 6, none⟩) hl g) (by simp [World.setCell])
/-- A store into the one block b. -/
theorem gset {w w' : World} {b : Nat} (h : w.grownBy w' (some b)) (j : Nat) (v : Value) : w.grownBy (w'.setCell ⟨b, j, none⟩ v) (some b) :=
  ⟨h.os, h.tape, h.output, by have := h.size; simpa [World.setCell] using this, fun k hk hne => (heap_setCell_other w' ⟨b, j, none⟩ k v (fun e => hne (by rw [e]))).trans (h.block k hk hne)⟩
theorem grown_refl (w : World) (row : Option Nat) : w.grownBy w row := ⟨rfl, rfl, rfl, Nat.le_refl _, fun _ _ _ => rfl⟩
theorem st3V {w : World} {ty : TypeId} {blk : Nat} {x y z a b c : Value} (hb : Blk w blk ty [x, y, z]) {K : World → Prop} (h : ∀ w6, Blk w6 blk ty [a, b, c] → w.grownBy w6 (some blk) → w6.heap.size = w.heap.size → K w6) :
    Writable w ⟨blk, 0, none⟩ 3 ∧ ∀ w6 : World, w6 = World.setCell (World.setCell (World.setCell w ⟨blk, 0, none⟩ a) ⟨blk, 1, none⟩ b) ⟨blk, 2, none⟩ c → K w6 := by
  refine ⟨hb.writable (Nat.le_refl 3), ?_⟩
  rintro w6 rfl
  exact h _ (((hb.set 0 a).set 1 b).set 2 c) (gset (gset (gset (grown_refl w _) 0 a) 1 b) 2 c) (by simp [World.setCell])
theorem st7V {w : World} {ty : TypeId} {blk : Nat} {z0 z1 z2 z3 z4 z5 z6 a b c d e f g : Value} (hb : Blk w blk ty [z0, z1, z2, z3, z4, z5, z6]) {K : World → Prop} (h : ∀ w6, Blk w6 blk ty [a, b, c, d, e, f, g] → w.grownBy w6 (some blk) → w6.heap.size = w.heap.size → K w6) :
    Writable w ⟨blk, 0, none⟩ 7 ∧ ∀ w6 : World, w6 = World.setCell (World.setCell (World.setCell (World.setCell (World.setCell (World.setCell (World.setCell w ⟨blk, 0, none⟩ a) ⟨blk, 1, none⟩ b) ⟨blk, 2, none⟩ c) ⟨blk, 3, none⟩ d) ⟨blk, 4, none⟩ e) ⟨blk, 5, none⟩ f) ⟨blk, 6, none⟩ g → K w6 := by
  refine ⟨hb.writable (Nat.le_refl 7), ?_⟩
  rintro w6 rfl
  exact h _ (((((((hb.set 0 a).set 1 b).set 2 c).set 3 d).set 4 e).set 5 f).set 6 g) (gset (gset (gset (gset (gset (gset (gset (grown_refl w _) 0 a) 1 b) 2 c) 3 d) 4 e) 5 f) 6 g) (by simp [World.setCell])
theorem below_grown {B : Nat} {a w w' : World} (h : Below B a w) {b : Nat} (hg : w.grownBy w' (some b)) (hBw : B ≤ w.heap.size) (hb : B ≤ b) : Below B a w' := h.grown hg hBw (fun k e => by cases e; exact hb)

/-! ### Places -/
def placeP (l : List Dest) (name : Txt) : Int := match l.findIdx? (fun d => d.name == name) with | some i => i | none => -1
def ds (l : List DestL) : List Dest := l.map DestL.d
theorem ds_len (l : List DestL) : (ds l).length = l.length := by simp [ds]
theorem ledger_place1 (x : DestL) (name : Txt) (q : Addr) (w0 : World) (hq : w0.cell? q = some (.string (S name))) :
    Calls Tryz.prog 89 #[x.val, .pointer (some q)] w0 (fun e w => e = .returned (.bool (x.d.name == name)) ∧ Below w0.heap.size w0 w) := by
  apply ledger_place_1.calls
  unfold ledger_place_1.vc ledger_place_1.t0
  refine allocV (cs := x.cells) ?_
  intro w2 hblk hb hs
  refine ⟨S x.d.name, hblk.cell (j := 0) rfl, someV_some rfl ⟨S name, ?_, ?_, hb⟩⟩
  · exact (hb.cell (World.block_lt_of_cell? w0 _ hq)).trans hq
  · rw [S_toList, S_toList]
theorem indexFunc_dest (P : DestL → Bool) (g : Nat) (cap : Array Value) (l : List DestL) (hl : l.length < 9223372036854775807) (a : Option Addr) (c : Nat) (w0 : World) (hrow : RowAt w0 a (destCs l)) (hg : callable Tryz.prog g = true)
    (hf : ∀ p w, p ∈ l → Below w0.heap.size w0 w → Calls Tryz.prog g (#[p.val] ++ cap) w (fun e w' => e = .returned (.bool (P p)) ∧ Below w.heap.size w w')) :
    Calls Tryz.prog 88 #[.slice a l.length c, .func (.func g) #[] cap] w0 (fun e w => e = .returned (.int .i64 (match l.findIdx? P with | some i => (i : Int) | none => -1)) ∧ Below w0.heap.size w0 w) := by
  apply slices_IndexFunc_ledger_Dest_ledger_Dest.calls
  intro L0 hL
  apply hL
  refine ⟨fun m x w => ∃ i : Nat, x = (i : Int) ∧ i ≤ l.length ∧ m = l.length - i ∧ (∀ j, j < i → ∀ p, l[j]? = some p → P p = false) ∧ Below w0.heap.size w0 w, _, ⟨0, rfl, by omega, rfl, by omega, Below.refl _ _⟩, ?_⟩
  rintro m x g' w ⟨i, rfl, hi, rfl, hno, hbel⟩ Back hback
  unfold slices_IndexFunc_ledger_Dest_ledger_Dest.t1
  by_cases hlt : i < l.length
  · have hli : l[i]? = some l[i] := List.getElem?_eq_getElem hlt
    obtain ⟨q, rfl, hr⟩ := rowDest (hrow.below hbel (Nat.le_refl _)) hli
    refine boolT (by simp; omega) (someV_some rfl ⟨⟨by omega, by omega⟩, _, _, _, _, _, _, _, _, _, hr, ?_⟩)
    have := hf l[i] w (List.getElem_mem hlt) hbel
    refine funcV_call (args := [l[i].val]) hg ?_
    refine Calls.mono (R := fun e w' => e = .returned (.bool (P l[i])) ∧ Below w.heap.size w w') ?_ ?_
    · have e : (#[l[i].val] ++ cap) = ([l[i].val] ++ cap.toList).toArray := by
        apply Array.ext'; simp
      rw [e] at this; exact this
    rintro e w1 ⟨rfl, hb1⟩
    refine ⟨_, rfl, ?_⟩
    have hb1' := hbel.trans (hb1.mono hbel.size)
    by_cases hp : P l[i] = true
    · refine boolT hp ⟨?_, hb1'⟩
      have : l.findIdx? P = some i := by
        rw [List.findIdx?_eq_some_iff_getElem]
        exact ⟨hlt, hp, fun j hj => by simpa using hno j hj _ (List.getElem?_eq_getElem (by omega))⟩
      rw [this]
    · refine boolF (by simpa using hp) (hback (l.length - (i + 1)) _ _ _ (by omega) ⟨i + 1, ?_, by omega, rfl, ?_, hb1'⟩)
      · rw [wrap_i64 (by omega) (by omega)]; omega
      · intro j hj p hjp
        by_cases hji : j = i
        · subst hji; rw [hli] at hjp; cases hjp; simpa using hp
        · exact hno j (by omega) p hjp
  · refine boolF (by simp; omega) ⟨?_, hbel⟩
    have : l.findIdx? P = none := by
      rw [List.findIdx?_eq_none_iff]
      intro x hx
      obtain ⟨j, hj, rfl⟩ := List.mem_iff_getElem.1 hx
      exact hno j (by omega) _ (List.getElem?_eq_getElem hj)
    rw [this]
theorem ledger_place_ (l : List DestL) (hl : l.length < 9223372036854775807) (name : Txt) (a : Option Addr) (c : Nat) (w0 : World) (hrow : RowAt w0 a (destCs l)) :
    Calls Tryz.prog 53 #[.slice a l.length c, .string (S name)] w0 (fun e w => e = .returned (.int .i64 (placeP (ds l) name)) ∧ Below w0.heap.size w0 w) := by
  apply ledger_place.calls
  unfold ledger_place.vc ledger_place.t0
  refine allocV (cs := [.string (S name)]) ?_
  intro w2 hblk hb0 hs
  refine (indexFunc_dest (fun x => x.d.name == name) 89 #[.pointer (some ⟨w0.heap.size, 0, none⟩)] l hl a c _ (hrow.below hb0 (Nat.le_refl _)) (by kernel_rfl) ?_).mono ?_
  · intro p w hp hb
    exact ledger_place1 p name _ w ((hblk.below hb hblk.lt).cell rfl)
  · rintro e w ⟨rfl, hb⟩
    refine ⟨_, rfl, ?_, hb0.trans (hb.mono hb0.size)⟩
    unfold placeP ds
    rw [List.findIdx?_map]
    rfl
theorem clone_dest (l : List DestL) (hl : l.length ≤ 4294967296) (a : Option Addr) (c : Nat) (w0 : World) (hrow : RowAt w0 a (destCs l)) :
    Calls Tryz.prog 35 #[.slice a l.length c] w0 (fun e w => ∃ a' c', e = .returned (.slice a' l.length c') ∧ w.ownsRow w0.heap.size 63 7 (.slice a' l.length c') l.length (destCs l) ∧ Below w0.heap.size w0 w) := by
  apply slices_Clone_ledger_Dest_ledger_Dest.calls
  unfold slices_Clone_ledger_Dest_ledger_Dest.vc slices_Clone_ledger_Dest_ledger_Dest.t0
  exact cloneV (R := fun e w => ∃ a' c', e = .returned (.slice a' l.length c') ∧ w.ownsRow w0.heap.size 63 7 (.slice a' l.length c') l.length (destCs l) ∧ Below w0.heap.size w0 w) (size := 7) (by kernel_rfl) hrow (destCs_len l) (by decide) (destCs_one l) hl fun a' c' w' ho hb => ⟨_, _, rfl, ho, hb⟩
theorem ledger_new (w0 : World) : Calls Tryz.prog 32 #[] w0 (fun e w => e = .returned (.agg #[.int .u64 1, .int .u64 1, .slice none 0 0]) ∧ Below w0.heap.size w0 w) := by
  apply ledger_New.calls
  unfold ledger_New.vc ledger_New.t0
  exact var3V fun w6 hblk hb hs => ⟨_, _, _, _, _, ⟨hblk.cell (j := 0) rfl, hblk.cell (j := 1) rfl, hblk.cell (j := 2) rfl⟩, rfl, hb⟩
/-- ledger.Add: one entry more; the destinations are the same, in a new row. -/
theorem ledger_add (first next : Nat) (hnx : next < 18446744073709551615) (l : List DestL) (hl : l.length ≤ 4294967296) (a : Option Addr) (c : Nat) (w0 : World) (hrow : RowAt w0 a (destCs l)) :
    Calls Tryz.prog 48 #[.agg #[.int .u64 first, .int .u64 next, .slice a l.length c]] w0 (fun e w => ∃ a' c', e = .returned (.agg #[.int .u64 first, .int .u64 (next + 1 : Nat), .slice a' l.length c']) ∧ w.ownsRow w0.heap.size 63 7 (.slice a' l.length c') l.length (destCs l) ∧ Below w0.heap.size w0 w) := by
  apply ledger_Add.calls
  unfold ledger_Add.vc ledger_Add.t0
  refine allocV (cs := [.int .u64 first, .int .u64 next, .slice a l.length c]) ?_
  intro w2 h1 hb2 hs2
  refine allocV (cs := [.int .u64 0, .int .u64 0, .slice none 0 0]) ?_
  intro w4 h3 hb4 hs4
  have hb4' := hb2.trans (hb4.mono hb2.size)
  have h1' := h1.below hb4 h1.lt
  refine ⟨_, h1'.cell (j := 1) rfl, h1'.writable (o := 1) (by simp), ?_⟩
  rintro w6 rfl
  have hw : IntKind.wrap .u64 ((next : Int) + 1) = ((next + 1 : Nat) : Int) := by rw [show ((next : Int) + 1) = ((next + 1 : Nat) : Int) from by omega, wrap_u64, Nat.mod_eq_of_lt (by omega)]
  rw [hw]
  have h16 := h1'.set 1 (.int .u64 ((next + 1 : Nat) : Int))
  have h36 := h3.other (p := ⟨w0.heap.size, 1, none⟩) (by simp; omega) (.int .u64 ((next + 1 : Nat) : Int))
  have hb6 := hb4'.setCell (p := ⟨w0.heap.size, 1, none⟩) (Nat.le_refl _) (.int .u64 ((next + 1 : Nat) : Int))
  refine ⟨_, _, _, h16.cell (j := 2) rfl, (clone_dest l hl a c _ (hrow.below hb6 (Nat.le_refl _))).mono ?_⟩
  rintro e w11 ⟨a', c', rfl, ho, hb11⟩
  have h111 := h16.below hb11 h16.lt
  have h311 := h36.below hb11 h36.lt
  have hb11' := hb6.trans (hb11.mono hb6.size)
  refine ⟨_, _, _, rfl, h111.writable (o := 2) (by simp), ?_⟩
  rintro w15 rfl
  have h115 := h111.set 2 (.slice a' l.length c')
  have h315 := h311.other (p := ⟨w0.heap.size, 2, none⟩) (by simp; omega) (.slice a' l.length c')
  have ho15 := own_set ho h111 (by decide) 2 (.slice a' l.length c')
  have hb15 := hb11'.setCell (p := ⟨w0.heap.size, 2, none⟩) (Nat.le_refl _) (.slice a' l.length c')
  refine ⟨_, _, _, _, _, ⟨h115.cell (j := 0) rfl, h115.cell (j := 1) rfl, h115.cell (j := 2) rfl⟩, st3V h315 ?_⟩
  intro w21 hblk hg hs
  refine ⟨_, _, _, _, _, ⟨hblk.cell (j := 0) rfl, hblk.cell (j := 1) rfl, hblk.cell (j := 2) rfl⟩, _, _, rfl, ?_, ?_⟩
  · exact own_mono (ho15.kept hg (.inr (own_ne ho15 h315 (by decide)))) hb6.size
  · exact below_grown hb15 hg hb15.size (by omega)
end Go.Proofs.YtcofknlcdgidpaaGreatDoor
/-! ## GledgerJoin -/
namespace Go.Proofs.YtcofknlcdgidpaaGreatDoor
open Go Go.Proofs.YtcofknlcdgidpaaGreatDoor.VC
set_option linter.unusedVariables false
set_option maxRecDepth 100000
set_option maxHeartbeats 0

/-! ### postroom/ledger.Join: function 42 -/
namespace ledger_Join
def t0 (R : Ending → World → Prop)  (l_0a : Int) (l_0b : Int) (l_0c : Option Addr) (l_0d : Nat) (l_0e : Nat) (name_1 : ByteArray) (w : World) : Prop := ∀ (b1 : Nat) (w2 : World), b1 = w.heap.size → w2 = World.alloc w (.cells #[.int .u64 l_0a, .int .u64 l_0b, .slice l_0c l_0d l_0e] 37) → ∀ (b3 : Nat) (w4 : World), b3 = w2.heap.size → w4 = World.alloc w2 (.cells #[.int .u64 0, .int .u64 0, .slice none 0 0] 37) → Calls Tryz.prog 79 #[.string name_1] w4 (fun e5 w6 => ∃ t7 : Bool, e5 = .returned (.bool t7) ∧ (boolV (!t7) (Writable w6 ⟨b3, 0, none⟩ 3 ∧ ∀ w8 : World, w8 = World.setCell (World.setCell (World.setCell w6 ⟨b3, 0, none⟩ (.int .u64 0)) ⟨b3, 1, none⟩ (.int .u64 0)) ⟨b3, 2, none⟩ (.slice none 0 0) → ∃ x9 : Int, ∃ x10 : Int, ∃ (a11 : Option Addr) (n12 c13 : Nat), (w8.cell? ⟨b3, 0, none⟩ = some (.int .u64 x9) ∧ w8.cell? ⟨b3, 1, none⟩ = some (.int .u64 x10) ∧ w8.cell? ⟨b3, 2, none⟩ = some (.slice a11 n12 c13)) ∧ (R (.returned (.tuple #[.agg #[.int .u64 x9, .int .u64 x10, .slice a11 n12 c13], .int .i64 3])) w8)) (∃ (a14 : Option Addr) (n15 c16 : Nat), w6.cell? ⟨b1, 2, none⟩ = some (.slice a14 n15 c16) ∧ (Calls Tryz.prog 53 #[.slice a14 n15 c16, .string name_1] w6 (fun e17 w18 => ∃ x19 : Int, e17 = .returned (.int .i64 x19) ∧ (boolV (decide (x19 ≥ (0 : Int))) (Writable w18 ⟨b3, 0, none⟩ 3 ∧ ∀ w20 : World, w20 = World.setCell (World.setCell (World.setCell w18 ⟨b3, 0, none⟩ (.int .u64 0)) ⟨b3, 1, none⟩ (.int .u64 0)) ⟨b3, 2, none⟩ (.slice none 0 0) → ∃ x21 : Int, ∃ x22 : Int, ∃ (a23 : Option Addr) (n24 c25 : Nat), (w20.cell? ⟨b3, 0, none⟩ = some (.int .u64 x21) ∧ w20.cell? ⟨b3, 1, none⟩ = some (.int .u64 x22) ∧ w20.cell? ⟨b3, 2, none⟩ = some (.slice a23 n24 c25)) ∧ (R (.returned (.tuple #[.agg #[.int .u64 x21, .int .u64 x22, .slice a23 n24 c25], .int .i64 4])) w20)) (∃ (a26 : Option Addr) (n27 c28 : Nat), w18.cell? ⟨b1, 2, none⟩ = some (.slice a26 n27 c28) ∧ (boolV (decide (((n27 : Nat) : Int) ≥ (4 : Int))) (Writable w18 ⟨b3, 0, none⟩ 3 ∧ ∀ w29 : World, w29 = World.setCell (World.setCell (World.setCell w18 ⟨b3, 0, none⟩ (.int .u64 0)) ⟨b3, 1, none⟩ (.int .u64 0)) ⟨b3, 2, none⟩ (.slice none 0 0) → ∃ x30 : Int, ∃ x31 : Int, ∃ (a32 : Option Addr) (n33 c34 : Nat), (w29.cell? ⟨b3, 0, none⟩ = some (.int .u64 x30) ∧ w29.cell? ⟨b3, 1, none⟩ = some (.int .u64 x31) ∧ w29.cell? ⟨b3, 2, none⟩ = some (.slice a32 n33 c34)) ∧ (R (.returned (.tuple #[.agg #[.int .u64 x30, .int .u64 x31, .slice a32 n33 c34], .int .i64 6])) w29)) (∃ S35 : World → Prop, (∀ w36 : World, w36.heap = w18.heap → w36.tape = w18.tape → w36.os = w18.os → w36.output = w18.output → S35 w36 ∧ (∃ (a37 : Option Addr) (n38 c39 : Nat), (∀ w, S35 w → w.cell? ⟨b1, 2, none⟩ = some (.slice a37 n38 c39)) ∧ (∃ x40 : Int, (∀ w, S35 w → w.cell? ⟨b1, 1, none⟩ = some (.int .u64 x40)) ∧ (∃ x41 : Int, (∀ w, S35 w → w.cell? ⟨b1, 1, none⟩ = some (.int .u64 x41)) ∧ ((Calls Tryz.prog 35 #[.slice a37 n38 c39] w36 (fun e42 w43 => ∃ (a44 : Option Addr) (n45 c46 : Nat), e42 = .returned (.slice a44 n45 c46) ∧ (S35 w43 ∧ (∀ (b47 : Nat) (w48 : World), b47 = w43.heap.size → w48 = World.alloc w43 (.cells #[.string name_1, .int .u64 x40, .int .u64 x41, .slice none 0 0, .int .u64 0, .int .u64 0, .int .u64 0] 63) → S35 w48 ∧ (runV Tryz.prog (Builtin.append_ #[35, 35] 35 #[.slice a44 n45 c46, .slice (some ⟨b47, 0, none⟩) 1 1]) w48 (fun v49 w50 => ∃ (a51 : Option Addr) (n52 c53 : Nat), v49 = .slice a51 n52 c53 ∧ (S35 w50 ∧ (Writable w50 ⟨b1, 2, none⟩ 1 ∧ ∀ w54 : World, w54 = World.setCell w50 ⟨b1, 2, none⟩ (.slice a51 n52 c53) → ∃ x55 : Int, ∃ x56 : Int, ∃ (a57 : Option Addr) (n58 c59 : Nat), (w54.cell? ⟨b1, 0, none⟩ = some (.int .u64 x55) ∧ w54.cell? ⟨b1, 1, none⟩ = some (.int .u64 x56) ∧ w54.cell? ⟨b1, 2, none⟩ = some (.slice a57 n58 c59)) ∧ (Writable w54 ⟨b3, 0, none⟩ 3 ∧ ∀ w60 : World, w60 = World.setCell (World.setCell (World.setCell w54 ⟨b3, 0, none⟩ (.int .u64 x55)) ⟨b3, 1, none⟩ (.int .u64 x56)) ⟨b3, 2, none⟩ (.slice a57 n58 c59) → ∃ x61 : Int, ∃ x62 : Int, ∃ (a63 : Option Addr) (n64 c65 : Nat), (w60.cell? ⟨b3, 0, none⟩ = some (.int .u64 x61) ∧ w60.cell? ⟨b3, 1, none⟩ = some (.int .u64 x62) ∧ w60.cell? ⟨b3, 2, none⟩ = some (.slice a63 n64 c65)) ∧ (R (.returned (.tuple #[.agg #[.int .u64 x61, .int .u64 x62, .slice a63 n64 c65], .int .i64 0])) w60)))))))))) ∧ (∀ (b66 : Nat) (w67 : World), b66 = w36.heap.size → w67 = World.alloc w36 (.cells #[.string name_1, .int .u64 x40, .int .u64 x41, .slice none 0 0, .int .u64 0, .int .u64 0, .int .u64 0] 63) → S35 w67 ∧ (Calls Tryz.prog 35 #[.slice a37 n38 c39] w67 (fun e68 w69 => ∃ (a70 : Option Addr) (n71 c72 : Nat), e68 = .returned (.slice a70 n71 c72) ∧ (S35 w69 ∧ (runV Tryz.prog (Builtin.append_ #[35, 35] 35 #[.slice a70 n71 c72, .slice (some ⟨b66, 0, none⟩) 1 1]) w69 (fun v73 w74 => ∃ (a75 : Option Addr) (n76 c77 : Nat), v73 = .slice a75 n76 c77 ∧ (S35 w74 ∧ (Writable w74 ⟨b1, 2, none⟩ 1 ∧ ∀ w78 : World, w78 = World.setCell w74 ⟨b1, 2, none⟩ (.slice a75 n76 c77) → ∃ x79 : Int, ∃ x80 : Int, ∃ (a81 : Option Addr) (n82 c83 : Nat), (w78.cell? ⟨b1, 0, none⟩ = some (.int .u64 x79) ∧ w78.cell? ⟨b1, 1, none⟩ = some (.int .u64 x80) ∧ w78.cell? ⟨b1, 2, none⟩ = some (.slice a81 n82 c83)) ∧ (Writable w78 ⟨b3, 0, none⟩ 3 ∧ ∀ w84 : World, w84 = World.setCell (World.setCell (World.setCell w78 ⟨b3, 0, none⟩ (.int .u64 x79)) ⟨b3, 1, none⟩ (.int .u64 x80)) ⟨b3, 2, none⟩ (.slice a81 n82 c83) → ∃ x85 : Int, ∃ x86 : Int, ∃ (a87 : Option Addr) (n88 c89 : Nat), (w84.cell? ⟨b3, 0, none⟩ = some (.int .u64 x85) ∧ w84.cell? ⟨b3, 1, none⟩ = some (.int .u64 x86) ∧ w84.cell? ⟨b3, 2, none⟩ = some (.slice a87 n88 c89)) ∧ (R (.returned (.tuple #[.agg #[.int .u64 x85, .int .u64 x86, .slice a87 n88 c89], .int .i64 0])) w84))))))))))))))))))))))))
def vc (R : Ending → World → Prop) (l_0a : Int) (l_0b : Int) (l_0c : Option Addr) (l_0d : Nat) (l_0e : Nat) (name_1 : ByteArray) (w : World) : Prop := t0 R  l_0a l_0b l_0c l_0d l_0e name_1 w
theorem calls (R : Ending → World → Prop) (l_0a : Int) (l_0b : Int) (l_0c : Option Addr) (l_0d : Nat) (l_0e : Nat) (name_1 : ByteArray) (w : World) (h : vc R l_0a l_0b l_0c l_0d l_0e name_1 w) : Calls Tryz.prog 42 #[.agg #[.int .u64 l_0a, .int .u64 l_0b, .slice l_0c l_0d l_0e], .string name_1] w R :=
  calls_V Tryz.func42 (Eq.mpr (by kernel_rfl) (h))
end ledger_Join
end Go.Proofs.YtcofknlcdgidpaaGreatDoor
/-! ## GledgerFind -/
namespace Go.Proofs.YtcofknlcdgidpaaGreatDoor
open Go Go.Proofs.YtcofknlcdgidpaaGreatDoor.VC
set_option linter.unusedVariables false
set_option maxRecDepth 100000
set_option maxHeartbeats 0

/-! ### postroom/ledger.Find: function 54 -/
namespace ledger_Find
def t0 (R : Ending → World → Prop)  (l_0a : Int) (l_0b : Int) (l_0c : Option Addr) (l_0d : Nat) (l_0e : Nat) (name_1 : ByteArray) (w : World) : Prop := ∀ (b1 : Nat) (w2 : World), b1 = w.heap.size → w2 = World.alloc w (.cells #[.int .u64 l_0a, .int .u64 l_0b, .slice l_0c l_0d l_0e] 37) → ∀ (b3 : Nat) (w4 : World), b3 = w2.heap.size → w4 = World.alloc w2 (.cells #[.string ByteArray.empty, .int .u64 0, .int .u64 0, .slice none 0 0, .int .u64 0, .int .u64 0, .int .u64 0] 63) → ∃ (a5 : Option Addr) (n6 c7 : Nat), w4.cell? ⟨b1, 2, none⟩ = some (.slice a5 n6 c7) ∧ (Calls Tryz.prog 53 #[.slice a5 n6 c7, .string name_1] w4 (fun e8 w9 => ∃ x10 : Int, e8 = .returned (.int .i64 x10) ∧ (boolV (decide (x10 < (0 : Int))) (Writable w9 ⟨b3, 0, none⟩ 7 ∧ ∀ w11 : World, w11 = World.setCell (World.setCell (World.setCell (World.setCell (World.setCell (World.setCell (World.setCell w9 ⟨b3, 0, none⟩ (.string ByteArray.empty)) ⟨b3, 1, none⟩ (.int .u64 0)) ⟨b3, 2, none⟩ (.int .u64 0)) ⟨b3, 3, none⟩ (.slice none 0 0)) ⟨b3, 4, none⟩ (.int .u64 0)) ⟨b3, 5, none⟩ (.int .u64 0)) ⟨b3, 6, none⟩ (.int .u64 0) → ∃ s12 : ByteArray, ∃ x13 : Int, ∃ x14 : Int, ∃ (a15 : Option Addr) (n16 c17 : Nat), ∃ x18 : Int, ∃ x19 : Int, ∃ x20 : Int, (w11.cell? ⟨b3, 0, none⟩ = some (.string s12) ∧ w11.cell? ⟨b3, 1, none⟩ = some (.int .u64 x13) ∧ w11.cell? ⟨b3, 2, none⟩ = some (.int .u64 x14) ∧ w11.cell? ⟨b3, 3, none⟩ = some (.slice a15 n16 c17) ∧ w11.cell? ⟨b3, 4, none⟩ = some (.int .u64 x18) ∧ w11.cell? ⟨b3, 5, none⟩ = some (.int .u64 x19) ∧ w11.cell? ⟨b3, 6, none⟩ = some (.int .u64 x20)) ∧ (R (.returned (.tuple #[.agg #[.string s12, .int .u64 x13, .int .u64 x14, .slice a15 n16 c17, .int .u64 x18, .int .u64 x19, .int .u64 x20], .bool false])) w11)) (∃ (a21 : Option Addr) (n22 c23 : Nat), w9.cell? ⟨b1, 2, none⟩ = some (.slice a21 n22 c23) ∧ (someV a21 (fun p24 => (0 ≤ x10 ∧ x10 < (n22 : Nat)) ∧ (∃ s25 : ByteArray, ∃ x26 : Int, ∃ x27 : Int, ∃ (a28 : Option Addr) (n29 c30 : Nat), ∃ x31 : Int, ∃ x32 : Int, ∃ x33 : Int, (w9.cell? (p24.add (x10.toNat * 7)) = some (.string s25) ∧ w9.cell? ((p24.add (x10.toNat * 7)).add 1) = some (.int .u64 x26) ∧ w9.cell? ((p24.add (x10.toNat * 7)).add 2) = some (.int .u64 x27) ∧ w9.cell? ((p24.add (x10.toNat * 7)).add 3) = some (.slice a28 n29 c30) ∧ w9.cell? ((p24.add (x10.toNat * 7)).add 4) = some (.int .u64 x31) ∧ w9.cell? ((p24.add (x10.toNat * 7)).add 5) = some (.int .u64 x32) ∧ w9.cell? ((p24.add (x10.toNat * 7)).add 6) = some (.int .u64 x33)) ∧ (∀ (b34 : Nat) (w35 : World), b34 = w9.heap.size → w35 = World.alloc w9 (.cells #[.string ByteArray.empty, .int .u64 0, .int .u64 0, .slice none 0 0, .int .u64 0, .int .u64 0, .int .u64 0] 63) → Writable w35 ⟨b34, 0, none⟩ 7 ∧ ∀ w36 : World, w36 = World.setCell (World.setCell (World.setCell (World.setCell (World.setCell (World.setCell (World.setCell w35 ⟨b34, 0, none⟩ (.string s25)) ⟨b34, 1, none⟩ (.int .u64 x26)) ⟨b34, 2, none⟩ (.int .u64 x27)) ⟨b34, 3, none⟩ (.slice a28 n29 c30)) ⟨b34, 4, none⟩ (.int .u64 x31)) ⟨b34, 5, none⟩ (.int .u64 x32)) ⟨b34, 6, none⟩ (.int .u64 x33) → ∃ (a37 : Option Addr) (n38 c39 : Nat), w36.cell? ⟨b34, 3, none⟩ = some (.slice a37 n38 c39) ∧ (Calls Tryz.prog 36 #[.slice a37 n38 c39] w36 (fun e40 w41 => ∃ (a42 : Option Addr) (n43 c44 : Nat), e40 = .returned (.slice a42 n43 c44) ∧ (Writable w41 ⟨b34, 3, none⟩ 1 ∧ ∀ w45 : World, w45 = World.setCell w41 ⟨b34, 3, none⟩ (.slice a42 n43 c44) → ∃ s46 : ByteArray, ∃ x47 : Int, ∃ x48 : Int, ∃ (a49 : Option Addr) (n50 c51 : Nat), ∃ x52 : Int, ∃ x53 : Int, ∃ x54 : Int, (w45.cell? ⟨b34, 0, none⟩ = some (.string s46) ∧ w45.cell? ⟨b34, 1, none⟩ = some (.int .u64 x47) ∧ w45.cell? ⟨b34, 2, none⟩ = some (.int .u64 x48) ∧ w45.cell? ⟨b34, 3, none⟩ = some (.slice a49 n50 c51) ∧ w45.cell? ⟨b34, 4, none⟩ = some (.int .u64 x52) ∧ w45.cell? ⟨b34, 5, none⟩ = some (.int .u64 x53) ∧ w45.cell? ⟨b34, 6, none⟩ = some (.int .u64 x54)) ∧ (Writable w45 ⟨b3, 0, none⟩ 7 ∧ ∀ w55 : World, w55 = World.setCell (World.setCell (World.setCell (World.setCell (World.setCell (World.setCell (World.setCell w45 ⟨b3, 0, none⟩ (.string s46)) ⟨b3, 1, none⟩ (.int .u64 x47)) ⟨b3, 2, none⟩ (.int .u64 x48)) ⟨b3, 3, none⟩ (.slice a49 n50 c51)) ⟨b3, 4, none⟩ (.int .u64 x52)) ⟨b3, 5, none⟩ (.int .u64 x53)) ⟨b3, 6, none⟩ (.int .u64 x54) → ∃ s56 : ByteArray, ∃ x57 : Int, ∃ x58 : Int, ∃ (a59 : Option Addr) (n60 c61 : Nat), ∃ x62 : Int, ∃ x63 : Int, ∃ x64 : Int, (w55.cell? ⟨b3, 0, none⟩ = some (.string s56) ∧ w55.cell? ⟨b3, 1, none⟩ = some (.int .u64 x57) ∧ w55.cell? ⟨b3, 2, none⟩ = some (.int .u64 x58) ∧ w55.cell? ⟨b3, 3, none⟩ = some (.slice a59 n60 c61) ∧ w55.cell? ⟨b3, 4, none⟩ = some (.int .u64 x62) ∧ w55.cell? ⟨b3, 5, none⟩ = some (.int .u64 x63) ∧ w55.cell? ⟨b3, 6, none⟩ = some (.int .u64 x64)) ∧ (R (.returned (.tuple #[.agg #[.string s56, .int .u64 x57, .int .u64 x58, .slice a59 n60 c61, .int .u64 x62, .int .u64 x63, .int .u64 x64], .bool true])) w55)))))))))))))
def vc (R : Ending → World → Prop) (l_0a : Int) (l_0b : Int) (l_0c : Option Addr) (l_0d : Nat) (l_0e : Nat) (name_1 : ByteArray) (w : World) : Prop := t0 R  l_0a l_0b l_0c l_0d l_0e name_1 w
theorem calls (R : Ending → World → Prop) (l_0a : Int) (l_0b : Int) (l_0c : Option Addr) (l_0d : Nat) (l_0e : Nat) (name_1 : ByteArray) (w : World) (h : vc R l_0a l_0b l_0c l_0d l_0e name_1 w) : Calls Tryz.prog 54 #[.agg #[.int .u64 l_0a, .int .u64 l_0b, .slice l_0c l_0d l_0e], .string name_1] w R :=
  calls_V Tryz.func54 (Eq.mpr (by kernel_rfl) (h))
end ledger_Find
end Go.Proofs.YtcofknlcdgidpaaGreatDoor
/-! ## GledgerPending -/
namespace Go.Proofs.YtcofknlcdgidpaaGreatDoor
open Go Go.Proofs.YtcofknlcdgidpaaGreatDoor.VC
set_option linter.unusedVariables false
set_option maxRecDepth 100000
set_option maxHeartbeats 0

/-! ### postroom/ledger.Pending: function 22 -/
namespace ledger_Pending
def t1 (R : Ending → World → Prop)  (Back0 : (Option Addr) → Nat → Nat → Int → List Value → World → Prop)  (l_2 : Nat) (d_5 : Nat) (is_6 : Bool) (out_7a : Option Addr) (out_7b : Nat) (out_7c : Nat) (seq_8 : Int) (g : List Value) (w : World) : Prop := boolV is_6 (∃ x1 : Int, w.cell? ⟨l_2, 1, none⟩ = some (.int .u64 x1) ∧ (boolV (decide (seq_8 < x1)) (∃ s2 : ByteArray, ∃ x3 : Int, ∃ x4 : Int, ∃ (a5 : Option Addr) (n6 c7 : Nat), ∃ x8 : Int, ∃ x9 : Int, ∃ x10 : Int, (w.cell? ⟨d_5, 0, none⟩ = some (.string s2) ∧ w.cell? ⟨d_5, 1, none⟩ = some (.int .u64 x3) ∧ w.cell? ⟨d_5, 2, none⟩ = some (.int .u64 x4) ∧ w.cell? ⟨d_5, 3, none⟩ = some (.slice a5 n6 c7) ∧ w.cell? ⟨d_5, 4, none⟩ = some (.int .u64 x8) ∧ w.cell? ⟨d_5, 5, none⟩ = some (.int .u64 x9) ∧ w.cell? ⟨d_5, 6, none⟩ = some (.int .u64 x10)) ∧ (∃ x11 : Int, w.cell? ⟨l_2, 1, none⟩ = some (.int .u64 x11) ∧ (Calls Tryz.prog 55 #[.agg #[.string s2, .int .u64 x3, .int .u64 x4, .slice a5 n6 c7, .int .u64 x8, .int .u64 x9, .int .u64 x10], .int .u64 seq_8, .int .u64 x11] w (fun e12 w13 => ∃ t14 : Bool, e12 = .returned (.bool t14) ∧ (boolV t14 (∀ (b15 : Nat) (w16 : World), b15 = w13.heap.size → w16 = World.alloc w13 (.cells #[.int .u64 seq_8] 24) → runV Tryz.prog (Builtin.append_ #[61, 61] 61 #[.slice out_7a out_7b out_7c, .slice (some ⟨b15, 0, none⟩) 1 1]) w16 (fun v17 w18 => ∃ (a19 : Option Addr) (n20 c21 : Nat), v17 = .slice a19 n20 c21 ∧ (Back0 a19 n20 c21 (IntKind.wrap .u64 (seq_8 + 1)) [nth g 0, nth g 1, nth g 2, nth g 3, nth g 4, nth g 5, nth g 6, nth g 7, nth g 8, nth g 9, nth g 10, nth g 11, .bool is_6, .bool true, .int .u64 seq_8, .pointer (some ⟨l_2, 1, none⟩), .int .u64 x1, .bool (decide (seq_8 < x1)), .bool (decide (seq_8 < x1)), .int .u64 seq_8, .int .u64 (IntKind.wrap .u64 (seq_8 + 1)), .agg #[.string s2, .int .u64 x3, .int .u64 x4, .slice a5 n6 c7, .int .u64 x8, .int .u64 x9, .int .u64 x10], .int .u64 seq_8, .pointer (some ⟨l_2, 1, none⟩), .int .u64 x11, .bool t14, .slice out_7a out_7b out_7c, .int .u64 seq_8, .slice (some ⟨b15, 0, none⟩) 1 1, .slice a19 n20 c21, nth g 30] w18))) (Back0 out_7a out_7b out_7c (IntKind.wrap .u64 (seq_8 + 1)) [nth g 0, nth g 1, nth g 2, nth g 3, nth g 4, nth g 5, nth g 6, nth g 7, nth g 8, nth g 9, nth g 10, nth g 11, .bool is_6, .bool true, .int .u64 seq_8, .pointer (some ⟨l_2, 1, none⟩), .int .u64 x1, .bool (decide (seq_8 < x1)), .bool (decide (seq_8 < x1)), .int .u64 seq_8, .int .u64 (IntKind.wrap .u64 (seq_8 + 1)), .agg #[.string s2, .int .u64 x3, .int .u64 x4, .slice a5 n6 c7, .int .u64 x8, .int .u64 x9, .int .u64 x10], .int .u64 seq_8, .pointer (some ⟨l_2, 1, none⟩), .int .u64 x11, .bool t14, nth g 26, nth g 27, nth g 28, nth g 29, nth g 30] w13)))))) (R (.returned (.slice out_7a out_7b out_7c)) w))) (R (.returned (.slice out_7a out_7b out_7c)) w)
def W0 (R : Ending → World → Prop)  (l_2 : Nat) (d_5 : Nat) (is_6 : Bool) (out_7a : Option Addr) (out_7b : Nat) (out_7c : Nat) (seq_8 : Int) (w : World) : Prop := ∃ (I : Nat → (Option Addr) → Nat → Nat → Int → World → Prop) (n : Nat), I n out_7a out_7b out_7c seq_8 w ∧ ∀ (n : Nat) (out_7a : Option Addr) (out_7b : Nat) (out_7c : Nat) (seq_8 : Int) (g : List Value) (w : World), I n out_7a out_7b out_7c seq_8 w → ∀ (Back0 : (Option Addr) → Nat → Nat → Int → List Value → World → Prop), (∀ (m : Nat) (out_7a : Option Addr) (out_7b : Nat) (out_7c : Nat) (seq_8 : Int) (g : List Value) (w : World), m < n → I m out_7a out_7b out_7c seq_8 w → Back0 out_7a out_7b out_7c seq_8 g w) → t1 R  Back0  l_2 d_5 is_6 out_7a out_7b out_7c seq_8 g w
def t0 (R : Ending → World → Prop) (L0 : Nat → Nat → Bool → (Option Addr) → Nat → Nat → Int → List Value → World → Prop) (l_0a : Int) (l_0b : Int) (l_0c : Option Addr) (l_0d : Nat) (l_0e : Nat) (name_1 : ByteArray) (w : World) : Prop := ∀ (b1 : Nat) (w2 : World), b1 = w.heap.size → w2 = World.alloc w (.cells #[.int .u64 l_0a, .int .u64 l_0b, .slice l_0c l_0d l_0e] 37) → ∃ x3 : Int, ∃ x4 : Int, ∃ (a5 : Option Addr) (n6 c7 : Nat), (w2.cell? ⟨b1, 0, none⟩ = some (.int .u64 x3) ∧ w2.cell? ⟨b1, 1, none⟩ = some (.int .u64 x4) ∧ w2.cell? ⟨b1, 2, none⟩ = some (.slice a5 n6 c7)) ∧ (Calls Tryz.prog 54 #[.agg #[.int .u64 x3, .int .u64 x4, .slice a5 n6 c7], .string name_1] w2 (fun e8 w9 => ∃ s10 : ByteArray, ∃ x11 : Int, ∃ x12 : Int, ∃ (a13 : Option Addr) (n14 c15 : Nat), ∃ x16 : Int, ∃ x17 : Int, ∃ x18 : Int, ∃ t19 : Bool, e8 = .returned (.tuple #[.agg #[.string s10, .int .u64 x11, .int .u64 x12, .slice a13 n14 c15, .int .u64 x16, .int .u64 x17, .int .u64 x18], .bool t19]) ∧ (∀ (b20 : Nat) (w21 : World), b20 = w9.heap.size → w21 = World.alloc w9 (.cells #[.string ByteArray.empty, .int .u64 0, .int .u64 0, .slice none 0 0, .int .u64 0, .int .u64 0, .int .u64 0] 63) → Writable w21 ⟨b20, 0, none⟩ 7 ∧ ∀ w22 : World, w22 = World.setCell (World.setCell (World.setCell (World.setCell (World.setCell (World.setCell (World.setCell w21 ⟨b20, 0, none⟩ (.string s10)) ⟨b20, 1, none⟩ (.int .u64 x11)) ⟨b20, 2, none⟩ (.int .u64 x12)) ⟨b20, 3, none⟩ (.slice a13 n14 c15)) ⟨b20, 4, none⟩ (.int .u64 x16)) ⟨b20, 5, none⟩ (.int .u64 x17)) ⟨b20, 6, none⟩ (.int .u64 x18) → ∃ x23 : Int, w22.cell? ⟨b20, 2, none⟩ = some (.int .u64 x23) ∧ (L0 b1 b20 t19 none 0 0 x23 [.agg #[.int .u64 l_0a, .int .u64 l_0b, .slice l_0c l_0d l_0e], .string name_1, undef, .slice none 0 0, .tuple #[.agg #[.string s10, .int .u64 x11, .int .u64 x12, .slice a13 n14 c15, .int .u64 x16, .int .u64 x17, .int .u64 x18], .bool t19], .agg #[.int .u64 x3, .int .u64 x4, .slice a5 n6 c7], .string name_1, .tuple #[.agg #[.string s10, .int .u64 x11, .int .u64 x12, .slice a13 n14 c15, .int .u64 x16, .int .u64 x17, .int .u64 x18], .bool t19], .agg #[.string s10, .int .u64 x11, .int .u64 x12, .slice a13 n14 c15, .int .u64 x16, .int .u64 x17, .int .u64 x18], .bool t19, .pointer (some ⟨b20, 2, none⟩), .int .u64 x23, undef, undef, undef, undef, undef, undef, undef, undef, undef, undef, undef, undef, undef, undef, undef, undef, undef, undef, undef] w22))))
def vc (R : Ending → World → Prop) (l_0a : Int) (l_0b : Int) (l_0c : Option Addr) (l_0d : Nat) (l_0e : Nat) (name_1 : ByteArray) (w : World) : Prop := ∀ (L0 : Nat → Nat → Bool → (Option Addr) → Nat → Nat → Int → List Value → World → Prop), (∀ l_2 d_5 is_6 out_7a out_7b out_7c seq_8 g w, W0 R l_2 d_5 is_6 out_7a out_7b out_7c seq_8 w → L0 l_2 d_5 is_6 out_7a out_7b out_7c seq_8 g w) → t0 R L0 l_0a l_0b l_0c l_0d l_0e name_1 w
theorem at0 (R : Ending → World → Prop) (l_2 : Nat) (d_5 : Nat) (is_6 : Bool) (out_7a : Option Addr) (out_7b : Nat) (out_7c : Nat) (seq_8 : Int) (g : List Value) (w : World) (h : W0 R  l_2 d_5 is_6 out_7a out_7b out_7c seq_8 w) : atV Tryz.prog (bodyC Tryz.f22) [true, true, true, false, true, false] (retQ Tryz.prog Tryz.f22 R) [nth g 0, nth g 1, .pointer (some ⟨l_2, 0, none⟩), nth g 2, nth g 3, .pointer (some ⟨d_5, 0, none⟩), .bool is_6, .slice out_7a out_7b out_7c, .int .u64 seq_8, nth g 4, nth g 5, nth g 6, nth g 7, nth g 8, nth g 9, nth g 10, nth g 11, nth g 12, nth g 13, nth g 14, nth g 15, nth g 16, nth g 17, nth g 18, nth g 19, nth g 20, nth g 21, nth g 22, nth g 23, nth g 24, nth g 25, nth g 26, nth g 27, nth g 28, nth g 29, nth g 30] w := by
  obtain ⟨I, n0, h0, hs⟩ := h
  refine atV_loop (by kernel_rfl) (fun n s w => ∃ (out_7a : Option Addr) (out_7b : Nat) (out_7c : Nat) (seq_8 : Int) (g : List Value), s = [nth g 0, nth g 1, .pointer (some ⟨l_2, 0, none⟩), nth g 2, nth g 3, .pointer (some ⟨d_5, 0, none⟩), .bool is_6, .slice out_7a out_7b out_7c, .int .u64 seq_8, nth g 4, nth g 5, nth g 6, nth g 7, nth g 8, nth g 9, nth g 10, nth g 11, nth g 12, nth g 13, nth g 14, nth g 15, nth g 16, nth g 17, nth g 18, nth g 19, nth g 20, nth g 21, nth g 22, nth g 23, nth g 24, nth g 25, nth g 26, nth g 27, nth g 28, nth g 29, nth g 30] ∧ I n out_7a out_7b out_7c seq_8 w) n0 ⟨_, _, _, _, _, rfl, h0⟩ ?_
  rintro n s w ⟨out_7a, out_7b, out_7c, seq_8, g, rfl, hI⟩
  exact Eq.mpr (by kernel_rfl) (hs n out_7a out_7b out_7c seq_8 g w hI (fun out_7a out_7b out_7c seq_8 g w => (backQ (fun n s w => ∃ (out_7a : Option Addr) (out_7b : Nat) (out_7c : Nat) (seq_8 : Int) (g : List Value), s = [nth g 0, nth g 1, .pointer (some ⟨l_2, 0, none⟩), nth g 2, nth g 3, .pointer (some ⟨d_5, 0, none⟩), .bool is_6, .slice out_7a out_7b out_7c, .int .u64 seq_8, nth g 4, nth g 5, nth g 6, nth g 7, nth g 8, nth g 9, nth g 10, nth g 11, nth g 12, nth g 13, nth g 14, nth g 15, nth g 16, nth g 17, nth g 18, nth g 19, nth g 20, nth g 21, nth g 22, nth g 23, nth g 24, nth g 25, nth g 26, nth g 27, nth g 28, nth g 29, nth g 30] ∧ I n out_7a out_7b out_7c seq_8 w) n (ctxQ Tryz.prog (bodyC Tryz.f22) [true, true, true, false, true, false] (retQ Tryz.prog Tryz.f22 R))) .normal [nth g 0, nth g 1, .pointer (some ⟨l_2, 0, none⟩), nth g 2, nth g 3, .pointer (some ⟨d_5, 0, none⟩), .bool is_6, .slice out_7a out_7b out_7c, .int .u64 seq_8, nth g 4, nth g 5, nth g 6, nth g 7, nth g 8, nth g 9, nth g 10, nth g 11, nth g 12, nth g 13, nth g 14, nth g 15, nth g 16, nth g 17, nth g 18, nth g 19, nth g 20, nth g 21, nth g 22, nth g 23, nth g 24, nth g 25, nth g 26, nth g 27, nth g 28, nth g 29, nth g 30] w) (fun m out_7a out_7b out_7c seq_8 g w hm hI => ⟨m, hm, out_7a, out_7b, out_7c, seq_8, g, rfl, hI⟩))
theorem calls (R : Ending → World → Prop) (l_0a : Int) (l_0b : Int) (l_0c : Option Addr) (l_0d : Nat) (l_0e : Nat) (name_1 : ByteArray) (w : World) (h : vc R l_0a l_0b l_0c l_0d l_0e name_1 w) : Calls Tryz.prog 22 #[.agg #[.int .u64 l_0a, .int .u64 l_0b, .slice l_0c l_0d l_0e], .string name_1] w R :=
  calls_V Tryz.func22 (Eq.mpr (by kernel_rfl) (h (fun l_2 d_5 is_6 out_7a out_7b out_7c seq_8 g w => atV Tryz.prog (bodyC Tryz.f22) [true, true, true, false, true, false] (retQ Tryz.prog Tryz.f22 R) [nth g 0, nth g 1, .pointer (some ⟨l_2, 0, none⟩), nth g 2, nth g 3, .pointer (some ⟨d_5, 0, none⟩), .bool is_6, .slice out_7a out_7b out_7c, .int .u64 seq_8, nth g 4, nth g 5, nth g 6, nth g 7, nth g 8, nth g 9, nth g 10, nth g 11, nth g 12, nth g 13, nth g 14, nth g 15, nth g 16, nth g 17, nth g 18, nth g 19, nth g 20, nth g 21, nth g 22, nth g 23, nth g 24, nth g 25, nth g 26, nth g 27, nth g 28, nth g 29, nth g 30] w) (fun l_2 d_5 is_6 out_7a out_7b out_7c seq_8 g w h => at0 R l_2 d_5 is_6 out_7a out_7b out_7c seq_8 g w h)))
end ledger_Pending
end Go.Proofs.YtcofknlcdgidpaaGreatDoor
/-! ## GledgerDestwaits -/
namespace Go.Proofs.YtcofknlcdgidpaaGreatDoor
open Go Go.Proofs.YtcofknlcdgidpaaGreatDoor.VC
set_option linter.unusedVariables false
set_option maxRecDepth 100000
set_option maxHeartbeats 0

/-! ### (postroom/ledger.Dest).waits: function 55 -/
namespace ledger_Dest_waits
def t0 (R : Ending → World → Prop)  (d_0a : ByteArray) (d_0b : Int) (d_0c : Int) (d_0d : Option Addr) (d_0e : Nat) (d_0f : Nat) (d_0g : Int) (d_0h : Int) (d_0i : Int) (seq_1 : Int) (next_2 : Int) (w : World) : Prop := ∀ (b1 : Nat) (w2 : World), b1 = w.heap.size → w2 = World.alloc w (.cells #[.string d_0a, .int .u64 d_0b, .int .u64 d_0c, .slice d_0d d_0e d_0f, .int .u64 d_0g, .int .u64 d_0h, .int .u64 d_0i] 63) → ∃ x3 : Int, w2.cell? ⟨b1, 2, none⟩ = some (.int .u64 x3) ∧ (boolV (decide (seq_1 < x3)) (R (.returned (.bool false)) w2) (boolV (decide (seq_1 ≥ next_2)) (R (.returned (.bool false)) w2) (∃ (a4 : Option Addr) (n5 c6 : Nat), w2.cell? ⟨b1, 3, none⟩ = some (.slice a4 n5 c6) ∧ (Calls Tryz.prog 90 #[.slice a4 n5 c6, .int .u64 seq_1] w2 (fun e7 w8 => ∃ x9 : Int, ∃ t10 : Bool, e7 = .returned (.tuple #[.int .i64 x9, .bool t10]) ∧ (R (.returned (.bool (!t10))) w8))))))
def vc (R : Ending → World → Prop) (d_0a : ByteArray) (d_0b : Int) (d_0c : Int) (d_0d : Option Addr) (d_0e : Nat) (d_0f : Nat) (d_0g : Int) (d_0h : Int) (d_0i : Int) (seq_1 : Int) (next_2 : Int) (w : World) : Prop := t0 R  d_0a d_0b d_0c d_0d d_0e d_0f d_0g d_0h d_0i seq_1 next_2 w
theorem calls (R : Ending → World → Prop) (d_0a : ByteArray) (d_0b : Int) (d_0c : Int) (d_0d : Option Addr) (d_0e : Nat) (d_0f : Nat) (d_0g : Int) (d_0h : Int) (d_0i : Int) (seq_1 : Int) (next_2 : Int) (w : World) (h : vc R d_0a d_0b d_0c d_0d d_0e d_0f d_0g d_0h d_0i seq_1 next_2 w) : Calls Tryz.prog 55 #[.agg #[.string d_0a, .int .u64 d_0b, .int .u64 d_0c, .slice d_0d d_0e d_0f, .int .u64 d_0g, .int .u64 d_0h, .int .u64 d_0i], .int .u64 seq_1, .int .u64 next_2] w R :=
  calls_V Tryz.func55 (Eq.mpr (by kernel_rfl) (h))
end ledger_Dest_waits
end Go.Proofs.YtcofknlcdgidpaaGreatDoor
/-! ## Led2 -/
namespace Go.Proofs.YtcofknlcdgidpaaGreatDoor
open Go Go.RowKit Go.Proofs.YtcofknlcdgidpaaGreatDoor.VC
set_option linter.unusedVariables false
set_option maxRecDepth 100000

theorem place_cases (l : List DestL) (name : Txt) : (placeP (ds l) name < 0 ∧ l.find? (fun x => x.d.name == name) = none) ∨ ∃ i x, placeP (ds l) name = ((i : Nat) : Int) ∧ i < l.length ∧ l[i]? = some x ∧ l.find? (fun x => x.d.name == name) = some x := by
  unfold placeP ds
  rw [List.findIdx?_map]
  cases h : l.findIdx? ((fun d : Dest => d.name == name) ∘ DestL.d) with
  | none =>
    left
    rw [List.findIdx?_eq_none_iff] at h
    refine ⟨by simp, ?_⟩
    rw [List.find?_eq_none]
    intro x hx
    simpa using h x hx
  | some i =>
    right
    rw [List.findIdx?_eq_some_iff_getElem] at h
    obtain ⟨hi, hp, hno⟩ := h
    refine ⟨i, l[i], rfl, hi, List.getElem?_eq_getElem hi, ?_⟩
    rw [List.find?_eq_some_iff_getElem]
    exact ⟨hp, i, hi, rfl, fun j hj => by simpa using hno j hj⟩

def joinErr (l : List Dest) (name : Txt) : Nat := if nameOK name = false then 3 else if 0 ≤ placeP l name then 4 else if 4 ≤ l.length then 6 else 0
def newDest (name : Txt) (next : Nat) : DestL := ⟨⟨name, next, next, [], 0, 0, 0⟩, none, 0⟩
def joinR (w0 : World) (first next : Nat) (l : List DestL) (name : Txt) (e : Ending) (w : World) : Prop := Below w0.heap.size w0 w ∧
  if joinErr (ds l) name = 0 then ∃ a' c', e = .returned (.tuple #[.agg #[.int .u64 first, .int .u64 next, .slice a' (l.length + 1) c'], .int .i64 0]) ∧ w.ownsRow w0.heap.size 63 7 (.slice a' (l.length + 1) c') (l.length + 1) (destCs (l ++ [newDest name next]))
  else e = .returned (.tuple #[.agg #[.int .u64 0, .int .u64 0, .slice none 0 0], .int .i64 (joinErr (ds l) name)])
theorem ledger_join (first next : Nat) (l : List DestL) (hl : l.length ≤ 429496729) (name : Txt) (hn : name.length < 9223372036854775807) (a : Option Addr) (c : Nat) (w0 : World) (hrow : RowAt w0 a (destCs l)) :
    Calls Tryz.prog 42 #[.agg #[.int .u64 first, .int .u64 next, .slice a l.length c], .string (S name)] w0 (joinR w0 first next l name) := by
  apply ledger_Join.calls
  unfold ledger_Join.vc ledger_Join.t0
  refine allocV (cs := [.int .u64 first, .int .u64 next, .slice a l.length c]) ?_
  intro w2 h1 hb2 hs2
  refine allocV (cs := [.int .u64 0, .int .u64 0, .slice none 0 0]) ?_
  intro w4 h3 hb4 hs4
  have hb4' := hb2.trans (hb4.mono hb2.size)
  have h14 := h1.below hb4 h1.lt
  have herr : ∀ {W : World} {k : Nat}, Blk W w2.heap.size 37 [.int .u64 0, .int .u64 0, .slice none 0 0] → Below w0.heap.size w0 W → joinErr (ds l) name = k → k ≠ 0 → (Writable W ⟨w2.heap.size, 0, none⟩ 3 ∧ ∀ w8 : World, w8 = World.setCell (World.setCell (World.setCell W ⟨w2.heap.size, 0, none⟩ (.int .u64 0)) ⟨w2.heap.size, 1, none⟩ (.int .u64 0)) ⟨w2.heap.size, 2, none⟩ (.slice none 0 0) → ∃ x9 : Int, ∃ x10 : Int, ∃ (a11 : Option Addr) (n12 c13 : Nat), (w8.cell? ⟨w2.heap.size, 0, none⟩ = some (.int .u64 x9) ∧ w8.cell? ⟨w2.heap.size, 1, none⟩ = some (.int .u64 x10) ∧ w8.cell? ⟨w2.heap.size, 2, none⟩ = some (.slice a11 n12 c13)) ∧ (joinR w0 first next l name (.returned (.tuple #[.agg #[.int .u64 x9, .int .u64 x10, .slice a11 n12 c13], .int .i64 (k : Nat)])) w8)) := by
    intro W k hW hbW hk h0
    refine st3V hW ?_
    intro w6 hblk hg hs
    refine ⟨_, _, _, _, _, ⟨hblk.cell (j := 0) rfl, hblk.cell (j := 1) rfl, hblk.cell (j := 2) rfl⟩, below_grown hbW hg hbW.size hb2.size, ?_⟩
    rw [hk, if_neg h0]
  refine (label_name name hn w4).mono ?_
  rintro e w6 ⟨rfl, hb6⟩
  have hb6' := hb4'.trans (hb6.mono hb4'.size)
  have h16 := h14.below hb6 h14.lt
  have h36 := h3.below hb6 h3.lt
  refine ⟨_, rfl, ?_⟩
  by_cases hnm : nameOK name = false
  · exact boolT (by rw [hnm]; rfl) (herr h36 hb6' (by rw [joinErr, if_pos hnm]) (by decide))
  refine boolF (by simpa using hnm) ⟨_, _, _, h16.cell (j := 2) rfl, (ledger_place_ l (by omega) name a c w6 (hrow.below hb6' (Nat.le_refl _))).mono ?_⟩
  rintro e w18 ⟨rfl, hb18⟩
  have hb18' := hb6'.trans (hb18.mono hb6'.size)
  have h118 := h16.below hb18 h16.lt
  have h318 := h36.below hb18 h36.lt
  refine ⟨_, rfl, ?_⟩
  by_cases hp : 0 ≤ placeP (ds l) name
  · exact boolT (decide_eq_true hp) (herr h318 hb18' (by rw [joinErr, if_neg hnm, if_pos hp]) (by decide))
  refine boolF (decide_eq_false hp) ⟨_, _, _, h118.cell (j := 2) rfl, ?_⟩
  by_cases h4 : 4 ≤ l.length
  · exact boolT (by simp; omega) (herr h318 hb18' (by rw [joinErr, if_neg hnm, if_neg hp, if_pos (by rw [ds_len]; exact h4)]) (by decide))
  have h0 : joinErr (ds l) name = 0 := by rw [joinErr, if_neg hnm, if_neg hp, if_neg (by rw [ds_len]; exact h4)]
  have fin : ∀ (W : World) (a44 : Option Addr) (c46 bT : Nat), Blk W w0.heap.size 37 [.int .u64 first, .int .u64 next, .slice a l.length c] → Blk W w2.heap.size 37 [.int .u64 0, .int .u64 0, .slice none 0 0] →
      W.ownsRow w0.heap.size 63 7 (.slice a44 l.length c46) l.length (destCs l) → RowAt W (some ⟨bT, 0, none⟩) (newDest name next).cells → Below w0.heap.size w0 W →
      runV Tryz.prog (Builtin.append_ #[35, 35] 35 #[.slice a44 l.length c46, .slice (some ⟨bT, 0, none⟩) 1 1]) W (fun v49 w50 => ∃ (a51 : Option Addr) (n52 c53 : Nat), v49 = .slice a51 n52 c53 ∧ (Blk w50 w0.heap.size 37 [.int .u64 first, .int .u64 next, .slice a l.length c] ∧ (Writable w50 ⟨w0.heap.size, 2, none⟩ 1 ∧ ∀ w54 : World, w54 = World.setCell w50 ⟨w0.heap.size, 2, none⟩ (.slice a51 n52 c53) → ∃ x55 : Int, ∃ x56 : Int, ∃ (a57 : Option Addr) (n58 c59 : Nat), (w54.cell? ⟨w0.heap.size, 0, none⟩ = some (.int .u64 x55) ∧ w54.cell? ⟨w0.heap.size, 1, none⟩ = some (.int .u64 x56) ∧ w54.cell? ⟨w0.heap.size, 2, none⟩ = some (.slice a57 n58 c59)) ∧ (Writable w54 ⟨w2.heap.size, 0, none⟩ 3 ∧ ∀ w60 : World, w60 = World.setCell (World.setCell (World.setCell w54 ⟨w2.heap.size, 0, none⟩ (.int .u64 x55)) ⟨w2.heap.size, 1, none⟩ (.int .u64 x56)) ⟨w2.heap.size, 2, none⟩ (.slice a57 n58 c59) → ∃ x61 : Int, ∃ x62 : Int, ∃ (a63 : Option Addr) (n64 c65 : Nat), (w60.cell? ⟨w2.heap.size, 0, none⟩ = some (.int .u64 x61) ∧ w60.cell? ⟨w2.heap.size, 1, none⟩ = some (.int .u64 x62) ∧ w60.cell? ⟨w2.heap.size, 2, none⟩ = some (.slice a63 n64 c65)) ∧ (joinR w0 first next l name (.returned (.tuple #[.agg #[.int .u64 x61, .int .u64 x62, .slice a63 n64 c65], .int .i64 0])) w60))))) := by
    intro W a44 c46 bT hW1 hW3 ho hT hbW
    refine appendS (size := 7) (by kernel_rfl) ho hbW.size hT (m := 1) (by rfl) (by simp [DestL.cells, Value.oneCell']) (by omega) ?_
    intro a51 c53 w50 ho50 hb50 hg50
    have n1 := own_ne ho hW1 (by decide)
    have n3 := own_ne ho hW3 (by decide)
    have h150 := hW1.grown hg50 (fun e => n1 e.symm)
    have h350 := hW3.grown hg50 (fun e => n3 e.symm)
    refine ⟨_, _, _, rfl, h150, h150.writable (o := 2) (by simp), ?_⟩
    rintro w54 rfl
    have h154 := h150.set 2 (.slice a51 (l.length + 1) c53)
    have h354 := h350.other (p := ⟨w0.heap.size, 2, none⟩) (by simp; omega) (.slice a51 (l.length + 1) c53)
    have ho54 := own_set ho50 h150 (by decide) 2 (.slice a51 (l.length + 1) c53)
    have hb54 := (hbW.trans hb50).setCell (p := ⟨w0.heap.size, 2, none⟩) (Nat.le_refl _) (.slice a51 (l.length + 1) c53)
    refine ⟨_, _, _, _, _, ⟨h154.cell (j := 0) rfl, h154.cell (j := 1) rfl, h154.cell (j := 2) rfl⟩, st3V h354 ?_⟩
    intro w60 hblk hg hs
    refine ⟨_, _, _, _, _, ⟨hblk.cell (j := 0) rfl, hblk.cell (j := 1) rfl, hblk.cell (j := 2) rfl⟩, below_grown hb54 hg hb54.size hb2.size, ?_⟩
    rw [if_pos h0]
    refine ⟨_, _, rfl, ?_⟩
    rw [destCs_snoc]
    exact ho54.kept hg (.inr (own_ne ho54 h354 (by decide)))
  refine boolF (by simp; omega) ⟨fun W => Blk W w0.heap.size 37 [.int .u64 first, .int .u64 next, .slice a l.length c], ?_⟩
  intro w36 e1 e2 e3 e4
  have h136 := h118.same e1
  have h336 := h318.same e1
  have hb36 := hb18'.trans (same_below w0.heap.size e1 e2 e3 e4)
  refine ⟨h136, _, _, _, fun W hW => hW.cell (j := 2) rfl, _, fun W hW => hW.cell (j := 1) rfl, _, fun W hW => hW.cell (j := 1) rfl, ?_, ?_⟩
  · refine (clone_dest l (by omega) a c w36 (hrow.below hb36 (Nat.le_refl _))).mono ?_
    rintro e w43 ⟨a44, c46, rfl, ho, hb43⟩
    refine ⟨_, _, _, rfl, h136.below hb43 h136.lt, allocV (cs := (newDest name next).cells) ?_⟩
    intro w48 hT hb48 hs48
    have hb48' : Below w36.heap.size w36 w48 := hb43.trans (hb48.mono hb43.size)
    exact ⟨h136.below hb48' h136.lt, fin w48 a44 c46 _ (h136.below hb48' h136.lt) (h336.below hb48' h336.lt) (own_mono (own_below ho hb48) hb36.size) (RowAt.of_blk hT) (hb36.trans (hb48'.mono hb36.size))⟩
  · refine allocV (cs := (newDest name next).cells) ?_
    intro w67 hT hb67 hs67
    have hb67' := hb36.trans (hb67.mono hb36.size)
    refine ⟨h136.below hb67 h136.lt, (clone_dest l (by omega) a c w67 (hrow.below hb67' (Nat.le_refl _))).mono ?_⟩
    rintro e w69 ⟨a44, c46, rfl, ho, hb69⟩
    have hb69' : Below w36.heap.size w36 w69 := hb67.trans (hb69.mono hb67.size)
    exact ⟨_, _, _, rfl, h136.below hb69' h136.lt, fin w69 a44 c46 _ (h136.below hb69' h136.lt) (h336.below hb69' h336.lt) (own_mono ho hb67'.size) ((RowAt.of_blk hT).below hb69 (Nat.le_refl _)) (hb67'.trans (hb69.mono hb67'.size))⟩

/-! ### Find -/
def zeroDest : DestL := ⟨⟨[], 0, 0, [], 0, 0, 0⟩, none, 0⟩
def findR (w0 : World) (l : List DestL) (name : Txt) (e : Ending) (w : World) : Prop := Below w0.heap.size w0 w ∧
  match l.find? (fun x => x.d.name == name) with
  | some x => ∃ a' c', e = .returned (.tuple #[DestL.val ⟨x.d, a', c'⟩, .bool true]) ∧ w.ownsRow w0.heap.size 24 1 (.slice a' x.d.above.length c') x.d.above.length (u64Cs x.d.above)
  | none => e = .returned (.tuple #[zeroDest.val, .bool false])
theorem ledger_find (first next : Nat) (l : List DestL) (hl : l.length ≤ 429496729) (name : Txt) (a : Option Addr) (c : Nat) (w0 : World) (hrow : RowAt w0 a (destCs l)) (hab : AboveAt w0 l) :
    Calls Tryz.prog 54 #[.agg #[.int .u64 first, .int .u64 next, .slice a l.length c], .string (S name)] w0 (findR w0 l name) := by
  apply ledger_Find.calls
  unfold ledger_Find.vc ledger_Find.t0
  refine allocV (cs := [.int .u64 first, .int .u64 next, .slice a l.length c]) ?_
  intro w2 h1 hb2 hs2
  refine allocV (cs := zeroDest.cells) ?_
  intro w4 h3 hb4 hs4
  have hb4' := hb2.trans (hb4.mono hb2.size)
  have h14 := h1.below hb4 h1.lt
  refine ⟨_, _, _, h14.cell (j := 2) rfl, (ledger_place_ l (by omega) name a c w4 (hrow.below hb4' (Nat.le_refl _))).mono ?_⟩
  rintro e w9 ⟨rfl, hb9⟩
  have hb9' := hb4'.trans (hb9.mono hb4'.size)
  have h19 := h14.below hb9 h14.lt
  have h39 := h3.below hb9 h3.lt
  refine ⟨_, rfl, ?_⟩
  rcases place_cases l name with ⟨hp, hf⟩ | ⟨i, x, hp, hi, hx, hf⟩
  · refine boolT (decide_eq_true hp) (st7V h39 ?_)
    intro w11 hblk hg hs
    refine ⟨_, _, _, _, _, _, _, _, _, ⟨hblk.cell (j := 0) rfl, hblk.cell (j := 1) rfl, hblk.cell (j := 2) rfl, hblk.cell (j := 3) rfl, hblk.cell (j := 4) rfl, hblk.cell (j := 5) rfl, hblk.cell (j := 6) rfl⟩, below_grown hb9' hg hb9'.size hb2.size, ?_⟩
    rw [hf]; rfl
  · rw [hp]
    refine boolF (by simp) ⟨_, _, _, h19.cell (j := 2) rfl, ?_⟩
    obtain ⟨q, hq, hr⟩ := rowDest (hrow.below hb9' (Nat.le_refl _)) hx
    obtain ⟨hxc, hxl, hxr⟩ := hab x (List.mem_of_getElem? hx)
    refine someV_some hq ⟨⟨by omega, by omega⟩, _, _, _, _, _, _, _, _, _, hr, var7V ?_⟩
    intro w36 h34 hb36 hs36
    have hb36' := hb9'.trans (hb36.mono hb9'.size)
    refine ⟨_, _, _, h34.cell (j := 3) rfl, (slices_clone_u64 x.d.above (by omega) x.a x.c w36 (hxr.below hb36' (Nat.le_refl _))).mono ?_⟩
    rintro e w41 ⟨a', c', rfl, ho, hb41⟩
    have hb41' := hb36'.trans (hb41.mono hb36'.size)
    have h3441 := h34.below hb41 h34.lt
    have h341 := (h39.below hb36 h39.lt).below hb41 (by have := h39.lt; omega)
    refine ⟨_, _, _, rfl, h3441.writable (o := 3) (by simp), ?_⟩
    rintro w45 rfl
    have h3445 := h3441.set 3 (.slice a' x.d.above.length c')
    have h345 := h341.other (p := ⟨w9.heap.size, 3, none⟩) (by have := h39.lt; simp; omega) (.slice a' x.d.above.length c')
    have ho45 := own_set ho h3441 (by decide) 3 (.slice a' x.d.above.length c')
    have hb45 := hb41'.setCell (p := ⟨w9.heap.size, 3, none⟩) hb9'.size (.slice a' x.d.above.length c')
    refine ⟨_, _, _, _, _, _, _, _, _, ⟨h3445.cell (j := 0) rfl, h3445.cell (j := 1) rfl, h3445.cell (j := 2) rfl, h3445.cell (j := 3) rfl, h3445.cell (j := 4) rfl, h3445.cell (j := 5) rfl, h3445.cell (j := 6) rfl⟩, st7V h345 ?_⟩
    intro w55 hblk hg hs
    refine ⟨_, _, _, _, _, _, _, _, _, ⟨hblk.cell (j := 0) rfl, hblk.cell (j := 1) rfl, hblk.cell (j := 2) rfl, hblk.cell (j := 3) rfl, hblk.cell (j := 4) rfl, hblk.cell (j := 5) rfl, hblk.cell (j := 6) rfl⟩, below_grown hb45 hg hb45.size hb2.size, ?_⟩
    rw [hf]
    exact ⟨a', c', rfl, own_mono (ho45.kept hg (.inr (own_ne ho45 h345 (by decide)))) hb36'.size⟩

/-! ### Pending -/
def waitsD (d : Dest) (seq next : Nat) : Bool := !decide (seq < d.low) && !decide (next ≤ seq) && !(d.above[bsI d.above seq]? == some seq)
theorem ledger_waits (x : DestL) (hx : x.d.above.length < 4294967296) (seq next : Nat) (w0 : World) (hr : RowAt w0 x.a (u64Cs x.d.above)) :
    Calls Tryz.prog 55 #[x.val, .int .u64 seq, .int .u64 next] w0 (fun e w => e = .returned (.bool (waitsD x.d seq next)) ∧ Below w0.heap.size w0 w) := by
  apply ledger_Dest_waits.calls
  unfold ledger_Dest_waits.vc ledger_Dest_waits.t0
  refine allocV (cs := x.cells) ?_
  intro w2 h1 hb2 hs2
  refine ⟨_, h1.cell (j := 2) rfl, ?_⟩
  by_cases h : seq < x.d.low
  · exact boolT (by simpa using h) ⟨by simp [waitsD, h], hb2⟩
  refine boolF (by simpa using h) ?_
  by_cases h' : next ≤ seq
  · exact boolT (by simpa using h') ⟨by simp [waitsD, h'], hb2⟩
  refine boolF (by simpa using h') ⟨_, _, _, h1.cell (j := 3) rfl, (slices_bs x.d.above hx seq x.a x.c w2 (hr.below hb2 (Nat.le_refl _))).mono ?_⟩
  rintro e w ⟨rfl, rfl⟩
  refine ⟨_, _, rfl, ?_, hb2⟩
  simp only [waitsD, decide_eq_false h, decide_eq_false h']
  rfl
def pendFrom (d : Dest) (next : Nat) : Nat → Nat → List Nat
  | 0, _ => []
  | k + 1, s => if waitsD d s next then s :: pendFrom d next k (s + 1) else pendFrom d next k (s + 1)
/-- What a destination waits for. -/
def pendD (d : Dest) (next : Nat) : List Nat := pendFrom d next (next - d.low) d.low
def pendL (l : List DestL) (name : Txt) (next : Nat) : List Nat := match l.find? (fun x => x.d.name == name) with | some x => pendD x.d next | none => []
theorem pendFrom_len (d : Dest) (next : Nat) : ∀ k s, (pendFrom d next k s).length ≤ k
  | 0, s => by simp [pendFrom]
  | k + 1, s => by
    have := pendFrom_len d next k (s + 1)
    rw [pendFrom]; split
    · rw [List.length_cons]; omega
    · omega
theorem ledger_pending (first next : Nat) (hnx : next < 4294967296) (l : List DestL) (hl : l.length ≤ 429496729) (name : Txt) (a : Option Addr) (c : Nat) (w0 : World) (hrow : RowAt w0 a (destCs l)) (hab : AboveAt w0 l) :
    Calls Tryz.prog 22 #[.agg #[.int .u64 first, .int .u64 next, .slice a l.length c], .string (S name)] w0 (fun e w => Below w0.heap.size w0 w ∧ ∃ a' c', e = .returned (.slice a' (pendL l name next).length c') ∧ w.ownsRow w0.heap.size 24 1 (.slice a' (pendL l name next).length c') (pendL l name next).length (u64Cs (pendL l name next))) := by
  apply ledger_Pending.calls
  intro L0 hL
  unfold ledger_Pending.t0
  refine allocV (cs := [.int .u64 first, .int .u64 next, .slice a l.length c]) ?_
  intro w2 h1 hb2 hs2
  refine ⟨_, _, _, _, _, ⟨h1.cell (j := 0) rfl, h1.cell (j := 1) rfl, h1.cell (j := 2) rfl⟩, (ledger_find first next l hl name a c w2 (hrow.below hb2 (Nat.le_refl _)) (hab.below hb2 (Nat.le_refl _))).mono ?_⟩
  rintro e w9 ⟨hb9, hf⟩
  have hb9' := hb2.trans (hb9.mono hb2.size)
  have h19 := h1.below hb9 h1.lt
  cases hx : l.find? (fun x => x.d.name == name) with
  | none =>
    rw [hx] at hf; simp only at hf; subst hf
    have hp : pendL l name next = [] := by rw [pendL, hx]
    refine ⟨_, _, _, _, _, _, _, _, _, _, rfl, var7V ?_⟩
    intro w22 h20 hb22 hs22
    refine ⟨_, h20.cell (j := 2) rfl, hL _ _ _ _ _ _ _ _ _ ⟨fun m oa on oc sq w => w = w22 ∧ oa = none ∧ on = 0 ∧ oc = 0, 0, ⟨rfl, rfl, rfl, rfl⟩, ?_⟩⟩
    rintro m oa on oc sq g w ⟨rfl, rfl, rfl, rfl⟩ Back hback
    refine boolF rfl ⟨hb9'.trans (hb22.mono hb9'.size), none, 0, ?_, ?_⟩
    · rw [hp]; rfl
    · rw [hp]; exact World.ownsRow_nil _ _ _ _
  | some x =>
    rw [hx] at hf; simp only at hf
    obtain ⟨a', c', rfl, ho⟩ := hf
    have hp : pendL l name next = pendD x.d next := by rw [pendL, hx]
    have hxl := (hab x (List.mem_of_find?_eq_some hx)).2.1
    refine ⟨_, _, _, _, _, _, _, _, _, _, rfl, var7V ?_⟩
    intro w22 h20 hb22 hs22
    have hb22' := hb9'.trans (hb22.mono hb9'.size)
    have h122 := h19.below hb22 h19.lt
    have ho22 := own_below ho hb22
    refine ⟨_, h20.cell (j := 2) rfl, hL _ _ _ _ _ _ _ _ _ ?_⟩
    refine ⟨fun m oa on oc sq w => ∃ (k s : Nat) (out : List Nat), sq = (s : Int) ∧ x.d.low ≤ s ∧ k = next - s ∧ m = k ∧ on = out.length ∧ w.ownsRow w22.heap.size 24 1 (.slice oa on oc) on (u64Cs out) ∧ out ++ pendFrom x.d next k s = pendD x.d next ∧ out.length ≤ s ∧ Below w22.heap.size w22 w, _,
      ⟨_, x.d.low, [], rfl, Nat.le_refl _, rfl, rfl, rfl, World.ownsRow_nil _ _ _ _, rfl, by simp, Below.refl _ _⟩, ?_⟩
    rintro m oa on oc sq g w ⟨k, s, out, rfl, hlow, rfl, rfl, rfl, hown, hpd, hos, hbel⟩ Back hback
    have hL1 := h122.below hbel h122.lt
    have hD := h20.below hbel h20.lt
    have hR := (RowAt.of_own ho22).below hbel (Nat.le_refl _)
    unfold ledger_Pending.t1
    refine boolT rfl ⟨_, hL1.cell (j := 1) rfl, ?_⟩
    by_cases hlt : s < next
    · refine boolT (by simpa using hlt) ⟨_, _, _, _, _, _, _, _, _, ⟨hD.cell (j := 0) rfl, hD.cell (j := 1) rfl, hD.cell (j := 2) rfl, hD.cell (j := 3) rfl, hD.cell (j := 4) rfl, hD.cell (j := 5) rfl, hD.cell (j := 6) rfl⟩, _, hL1.cell (j := 1) rfl, (ledger_waits ⟨x.d, a', c'⟩ hxl s next w hR).mono ?_⟩
      rintro e w13 ⟨rfl, hb13⟩
      have hb13' := hbel.trans (hb13.mono hbel.size)
      have hw1 : IntKind.wrap .u64 ((s : Int) + 1) = ((s + 1 : Nat) : Int) := by rw [show ((s : Int) + 1) = ((s + 1 : Nat) : Int) from by omega, wrap_u64, Nat.mod_eq_of_lt (by omega)]
      rw [hw1]
      rw [show next - s = (next - (s + 1)) + 1 from by omega, pendFrom] at hpd
      refine ⟨_, rfl, ?_⟩
      by_cases hwt : waitsD x.d s next = true
      · rw [if_pos hwt] at hpd
        refine boolT hwt ?_
        rintro b15 w16 rfl rfl
        refine appendV (P := Tryz.prog) (size := 1) (news := [.int .u64 s]) (by kernel_rfl) (own_below hown hb13) hb13'.size (m := 1) (by rfl) (by simp [Value.oneCell']) (by decide) (by omega) ?_
        intro g' c'' w' ho' hb' hg' hs'
        refine ⟨_, _, _, rfl, hback (next - (s + 1)) _ _ _ _ _ _ (by omega) ⟨_, s + 1, out ++ [s], rfl, by omega, rfl, rfl, by simp, ?_, by rw [List.append_assoc]; exact hpd, by simp; omega, hb13'.trans hb'⟩⟩
        rw [u64Cs_append]; exact ho'
      · rw [if_neg hwt] at hpd
        exact boolF (by simpa using hwt) (hback (next - (s + 1)) _ _ _ _ _ _ (by omega) ⟨_, s + 1, out, rfl, by omega, rfl, rfl, rfl, own_below hown hb13, hpd, by omega, hb13'⟩)
    · rw [show next - s = 0 from by omega, pendFrom, List.append_nil, ← hp] at hpd
      refine boolF (by simpa using hlt) ⟨hb22'.trans (hbel.mono hb22'.size), oa, oc, ?_, ?_⟩
      · rw [hpd]
      · rw [← hpd]; exact own_mono hown hb22'.size
end Go.Proofs.YtcofknlcdgidpaaGreatDoor
/-! ## GledgerDestdone -/
namespace Go.Proofs.YtcofknlcdgidpaaGreatDoor
open Go Go.Proofs.YtcofknlcdgidpaaGreatDoor.VC
set_option linter.unusedVariables false
set_option maxRecDepth 100000
set_option maxHeartbeats 0

/-! ### (postroom/ledger.Dest).done: function 108 -/
namespace ledger_Dest_done
def t2 (R : Ending → World → Prop)  (Back1 : (Option Addr) → Nat → Nat → List Value → World → Prop)  (d_4 : Nat) (x_8 : Nat) (n_10 : Int) (all_11a : Option Addr) (all_11b : Nat) (all_11c : Nat) (g : List Value) (w : World) : Prop := ∃ C1 : World → Prop, (∀ w' : World, w'.heap = w.heap → w'.tape = w.tape → w'.os = w.os → w'.output = w.output → C1 w') ∧ (boolV (decide (((all_11b : Nat) : Int) > (0 : Int))) (someV all_11a (fun p3 => (0 ≤ (0 : Int) ∧ (0 : Int) < (all_11b : Nat)) ∧ (∃ x4 : Int, (∀ w, C1 w → w.cell? p3 = some (.int .u64 x4)) ∧ (∃ x5 : Int, (∀ w, C1 w → w.cell? ⟨d_4, 2, none⟩ = some (.int .u64 x5)) ∧ (∀ w2 : World, C1 w2 → boolV (x4 == x5) (∃ x6 : Int, w2.cell? ⟨d_4, 2, none⟩ = some (.int .u64 x6) ∧ (Writable w2 ⟨d_4, 2, none⟩ 1 ∧ ∀ w7 : World, w7 = World.setCell w2 ⟨d_4, 2, none⟩ (.int .u64 (IntKind.wrap .u64 (x6 + 1))) → (0 ≤ (1 : Int) ∧ (1 : Int) ≤ (all_11b : Nat)) ∧ ∀ a8, a8 = sliceAddr all_11a all_11c ((1 : Int).toNat) 1 → Back1 a8 (all_11b - (1 : Int).toNat) (all_11c - (1 : Int).toNat) [nth g 0, nth g 1, nth g 2, nth g 3, nth g 4, nth g 5, nth g 6, nth g 7, nth g 8, nth g 9, nth g 10, nth g 11, nth g 12, nth g 13, nth g 14, nth g 15, nth g 16, nth g 17, nth g 18, nth g 19, nth g 20, nth g 21, nth g 22, nth g 23, nth g 24, nth g 25, nth g 26, nth g 27, nth g 28, nth g 29, nth g 30, nth g 31, nth g 32, nth g 33, nth g 34, nth g 35, nth g 36, nth g 37, nth g 38, nth g 39, nth g 40, nth g 41, nth g 42, nth g 43, nth g 44, .slice all_11a all_11b all_11c, .int .i64 ((all_11b : Nat) : Int), .bool (decide (((all_11b : Nat) : Int) > (0 : Int))), .bool true, .slice all_11a all_11b all_11c, .pointer (some p3), .int .u64 x4, .pointer (some ⟨d_4, 2, none⟩), .int .u64 x5, .bool (x4 == x5), .bool (x4 == x5), .pointer (some ⟨d_4, 2, none⟩), .int .u64 x6, .int .u64 (IntKind.wrap .u64 (x6 + 1)), .pointer (some ⟨d_4, 2, none⟩), .slice all_11a all_11b all_11c, .slice a8 (all_11b - (1 : Int).toNat) (all_11c - (1 : Int).toNat), nth g 62, nth g 63, nth g 64, nth g 65] w7)) (Writable w2 ⟨d_4, 3, none⟩ 1 ∧ ∀ w9 : World, w9 = World.setCell w2 ⟨d_4, 3, none⟩ (.slice all_11a all_11b all_11c) → ∃ s10 : ByteArray, ∃ x11 : Int, ∃ x12 : Int, ∃ (a13 : Option Addr) (n14 c15 : Nat), ∃ x16 : Int, ∃ x17 : Int, ∃ x18 : Int, (w9.cell? ⟨d_4, 0, none⟩ = some (.string s10) ∧ w9.cell? ⟨d_4, 1, none⟩ = some (.int .u64 x11) ∧ w9.cell? ⟨d_4, 2, none⟩ = some (.int .u64 x12) ∧ w9.cell? ⟨d_4, 3, none⟩ = some (.slice a13 n14 c15) ∧ w9.cell? ⟨d_4, 4, none⟩ = some (.int .u64 x16) ∧ w9.cell? ⟨d_4, 5, none⟩ = some (.int .u64 x17) ∧ w9.cell? ⟨d_4, 6, none⟩ = some (.int .u64 x18)) ∧ (Writable w9 ⟨x_8, 0, none⟩ 7 ∧ ∀ w19 : World, w19 = World.setCell (World.setCell (World.setCell (World.setCell (World.setCell (World.setCell (World.setCell w9 ⟨x_8, 0, none⟩ (.string s10)) ⟨x_8, 1, none⟩ (.int .u64 x11)) ⟨x_8, 2, none⟩ (.int .u64 x12)) ⟨x_8, 3, none⟩ (.slice a13 n14 c15)) ⟨x_8, 4, none⟩ (.int .u64 x16)) ⟨x_8, 5, none⟩ (.int .u64 x17)) ⟨x_8, 6, none⟩ (.int .u64 x18) → ∃ s20 : ByteArray, ∃ x21 : Int, ∃ x22 : Int, ∃ (a23 : Option Addr) (n24 c25 : Nat), ∃ x26 : Int, ∃ x27 : Int, ∃ x28 : Int, (w19.cell? ⟨x_8, 0, none⟩ = some (.string s20) ∧ w19.cell? ⟨x_8, 1, none⟩ = some (.int .u64 x21) ∧ w19.cell? ⟨x_8, 2, none⟩ = some (.int .u64 x22) ∧ w19.cell? ⟨x_8, 3, none⟩ = some (.slice a23 n24 c25) ∧ w19.cell? ⟨x_8, 4, none⟩ = some (.int .u64 x26) ∧ w19.cell? ⟨x_8, 5, none⟩ = some (.int .u64 x27) ∧ w19.cell? ⟨x_8, 6, none⟩ = some (.int .u64 x28)) ∧ (R (.returned (.tuple #[.agg #[.string s20, .int .u64 x21, .int .u64 x22, .slice a23 n24 c25, .int .u64 x26, .int .u64 x27, .int .u64 x28], .int .u64 n_10])) w19)))))))) (∀ w2 : World, C1 w2 → Writable w2 ⟨d_4, 3, none⟩ 1 ∧ ∀ w29 : World, w29 = World.setCell w2 ⟨d_4, 3, none⟩ (.slice all_11a all_11b all_11c) → ∃ s30 : ByteArray, ∃ x31 : Int, ∃ x32 : Int, ∃ (a33 : Option Addr) (n34 c35 : Nat), ∃ x36 : Int, ∃ x37 : Int, ∃ x38 : Int, (w29.cell? ⟨d_4, 0, none⟩ = some (.string s30) ∧ w29.cell? ⟨d_4, 1, none⟩ = some (.int .u64 x31) ∧ w29.cell? ⟨d_4, 2, none⟩ = some (.int .u64 x32) ∧ w29.cell? ⟨d_4, 3, none⟩ = some (.slice a33 n34 c35) ∧ w29.cell? ⟨d_4, 4, none⟩ = some (.int .u64 x36) ∧ w29.cell? ⟨d_4, 5, none⟩ = some (.int .u64 x37) ∧ w29.cell? ⟨d_4, 6, none⟩ = some (.int .u64 x38)) ∧ (Writable w29 ⟨x_8, 0, none⟩ 7 ∧ ∀ w39 : World, w39 = World.setCell (World.setCell (World.setCell (World.setCell (World.setCell (World.setCell (World.setCell w29 ⟨x_8, 0, none⟩ (.string s30)) ⟨x_8, 1, none⟩ (.int .u64 x31)) ⟨x_8, 2, none⟩ (.int .u64 x32)) ⟨x_8, 3, none⟩ (.slice a33 n34 c35)) ⟨x_8, 4, none⟩ (.int .u64 x36)) ⟨x_8, 5, none⟩ (.int .u64 x37)) ⟨x_8, 6, none⟩ (.int .u64 x38) → ∃ s40 : ByteArray, ∃ x41 : Int, ∃ x42 : Int, ∃ (a43 : Option Addr) (n44 c45 : Nat), ∃ x46 : Int, ∃ x47 : Int, ∃ x48 : Int, (w39.cell? ⟨x_8, 0, none⟩ = some (.string s40) ∧ w39.cell? ⟨x_8, 1, none⟩ = some (.int .u64 x41) ∧ w39.cell? ⟨x_8, 2, none⟩ = some (.int .u64 x42) ∧ w39.cell? ⟨x_8, 3, none⟩ = some (.slice a43 n44 c45) ∧ w39.cell? ⟨x_8, 4, none⟩ = some (.int .u64 x46) ∧ w39.cell? ⟨x_8, 5, none⟩ = some (.int .u64 x47) ∧ w39.cell? ⟨x_8, 6, none⟩ = some (.int .u64 x48)) ∧ (R (.returned (.tuple #[.agg #[.string s40, .int .u64 x41, .int .u64 x42, .slice a43 n44 c45, .int .u64 x46, .int .u64 x47, .int .u64 x48], .int .u64 n_10])) w39))))
def W1 (R : Ending → World → Prop)  (d_4 : Nat) (x_8 : Nat) (n_10 : Int) (all_11a : Option Addr) (all_11b : Nat) (all_11c : Nat) (w : World) : Prop := ∃ (I : Nat → (Option Addr) → Nat → Nat → World → Prop) (n : Nat), I n all_11a all_11b all_11c w ∧ ∀ (n : Nat) (all_11a : Option Addr) (all_11b : Nat) (all_11c : Nat) (g : List Value) (w : World), I n all_11a all_11b all_11c w → ∀ (Back1 : (Option Addr) → Nat → Nat → List Value → World → Prop), (∀ (m : Nat) (all_11a : Option Addr) (all_11b : Nat) (all_11c : Nat) (g : List Value) (w : World), m < n → I m all_11a all_11b all_11c w → Back1 all_11a all_11b all_11c g w) → t2 R  Back1  d_4 x_8 n_10 all_11a all_11b all_11c g w
def t1 (R : Ending → World → Prop)  (Back0 : Int → (Option Addr) → Nat → Nat → Int → List Value → World → Prop) (L1 : Nat → Nat → Int → (Option Addr) → Nat → Nat → List Value → World → Prop) (to_2 : Int) (next_3 : Int) (d_4 : Nat) (x_8 : Nat) (n_10 : Int) (all_11a : Option Addr) (all_11b : Nat) (all_11c : Nat) (seq_12 : Int) (g : List Value) (w : World) : Prop := boolV (decide (seq_12 < (min2I to_2 next_3))) (Calls Tryz.prog 90 #[.slice all_11a all_11b all_11c, .int .u64 seq_12] w (fun e1 w2 => ∃ x3 : Int, ∃ t4 : Bool, e1 = .returned (.tuple #[.int .i64 x3, .bool t4]) ∧ (boolV (!t4) (∀ (b5 : Nat) (w6 : World), b5 = w2.heap.size → w6 = World.alloc w2 (.cells #[.int .u64 seq_12] 24) → Calls Tryz.prog 158 #[.slice all_11a all_11b all_11c, .int .i64 x3, .slice (some ⟨b5, 0, none⟩) 1 1] w6 (fun e7 w8 => ∃ (a9 : Option Addr) (n10 c11 : Nat), e7 = .returned (.slice a9 n10 c11) ∧ (Back0 (IntKind.wrap .u64 (n_10 + 1)) a9 n10 c11 (IntKind.wrap .u64 (seq_12 + 1)) [nth g 0, nth g 1, nth g 2, nth g 3, nth g 4, nth g 5, .int .i64 x3, .bool t4, nth g 8, nth g 9, nth g 10, nth g 11, nth g 12, nth g 13, nth g 14, nth g 15, nth g 16, nth g 17, nth g 18, nth g 19, .int .u64 seq_12, .int .u64 to_2, .int .u64 next_3, .int .u64 (min2I to_2 next_3), .bool (decide (seq_12 < (min2I to_2 next_3))), .int .u64 seq_12, .int .u64 (IntKind.wrap .u64 (seq_12 + 1)), .tuple #[.int .i64 x3, .bool t4], .slice all_11a all_11b all_11c, .int .u64 seq_12, .tuple #[.int .i64 x3, .bool t4], .int .i64 x3, .bool t4, .bool t4, .bool (!t4), .slice all_11a all_11b all_11c, .int .i64 x3, .int .u64 seq_12, .slice (some ⟨b5, 0, none⟩) 1 1, .slice a9 n10 c11, .int .u64 n_10, .int .u64 (IntKind.wrap .u64 (n_10 + 1)), nth g 42, nth g 43, nth g 44, nth g 45, nth g 46, nth g 47, nth g 48, nth g 49, nth g 50, nth g 51, nth g 52, nth g 53, nth g 54, nth g 55, nth g 56, nth g 57, nth g 58, nth g 59, nth g 60, nth g 61, nth g 62] w8))) (Back0 n_10 all_11a all_11b all_11c (IntKind.wrap .u64 (seq_12 + 1)) [nth g 0, nth g 1, nth g 2, nth g 3, nth g 4, nth g 5, .int .i64 x3, .bool t4, nth g 8, nth g 9, nth g 10, nth g 11, nth g 12, nth g 13, nth g 14, nth g 15, nth g 16, nth g 17, nth g 18, nth g 19, .int .u64 seq_12, .int .u64 to_2, .int .u64 next_3, .int .u64 (min2I to_2 next_3), .bool (decide (seq_12 < (min2I to_2 next_3))), .int .u64 seq_12, .int .u64 (IntKind.wrap .u64 (seq_12 + 1)), .tuple #[.int .i64 x3, .bool t4], .slice all_11a all_11b all_11c, .int .u64 seq_12, .tuple #[.int .i64 x3, .bool t4], .int .i64 x3, .bool t4, .bool t4, .bool (!t4), nth g 35, nth g 36, nth g 37, nth g 38, nth g 39, nth g 40, nth g 41, nth g 42, nth g 43, nth g 44, nth g 45, nth g 46, nth g 47, nth g 48, nth g 49, nth g 50, nth g 51, nth g 52, nth g 53, nth g 54, nth g 55, nth g 56, nth g 57, nth g 58, nth g 59, nth g 60, nth g 61, nth g 62] w2)))) (L1 d_4 x_8 n_10 all_11a all_11b all_11c [nth g 0, nth g 1, .int .u64 to_2, .int .u64 next_3, nth g 2, nth g 3, nth g 4, nth g 5, .int .u64 seq_12, nth g 6, nth g 7, nth g 8, nth g 9, nth g 10, nth g 11, nth g 12, nth g 13, nth g 14, nth g 15, nth g 16, nth g 17, nth g 18, nth g 19, .int .u64 seq_12, .int .u64 to_2, .int .u64 next_3, .int .u64 (min2I to_2 next_3), .bool (decide (seq_12 < (min2I to_2 next_3))), nth g 25, nth g 26, nth g 27, nth g 28, nth g 29, nth g 30, nth g 31, nth g 32, nth g 33, nth g 34, nth g 35, nth g 36, nth g 37, nth g 38, nth g 39, nth g 40, nth g 41, nth g 42, nth g 43, nth g 44, nth g 45, nth g 46, nth g 47, nth g 48, nth g 49, nth g 50, nth g 51, nth g 52, nth g 53, nth g 54, nth g 55, nth g 56, nth g 57, nth g 58, nth g 59, nth g 60, nth g 61, nth g 62] w)
def W0 (R : Ending → World → Prop)  (to_2 : Int) (next_3 : Int) (d_4 : Nat) (x_8 : Nat) (n_10 : Int) (all_11a : Option Addr) (all_11b : Nat) (all_11c : Nat) (seq_12 : Int) (w : World) : Prop := ∃ (I : Nat → Int → (Option Addr) → Nat → Nat → Int → World → Prop) (n : Nat), I n n_10 all_11a all_11b all_11c seq_12 w ∧ ∀ (n : Nat) (n_10 : Int) (all_11a : Option Addr) (all_11b : Nat) (all_11c : Nat) (seq_12 : Int) (g : List Value) (w : World), I n n_10 all_11a all_11b all_11c seq_12 w → ∀ (Back0 : Int → (Option Addr) → Nat → Nat → Int → List Value → World → Prop), (∀ (m : Nat) (n_10 : Int) (all_11a : Option Addr) (all_11b : Nat) (all_11c : Nat) (seq_12 : Int) (g : List Value) (w : World), m < n → I m n_10 all_11a all_11b all_11c seq_12 w → Back0 n_10 all_11a all_11b all_11c seq_12 g w) → ∀ (L1 : Nat → Nat → Int → (Option Addr) → Nat → Nat → List Value → World → Prop), (∀ d_4 x_8 n_10 all_11a all_11b all_11c g w, W1 R  d_4 x_8 n_10 all_11a all_11b all_11c w → L1 d_4 x_8 n_10 all_11a all_11b all_11c g w) → t1 R  Back0 L1 to_2 next_3 d_4 x_8 n_10 all_11a all_11b all_11c seq_12 g w
def t0 (R : Ending → World → Prop) (L0 : Int → Int → Nat → Nat → Int → (Option Addr) → Nat → Nat → Int → List Value → World → Prop) (d_0a : ByteArray) (d_0b : Int) (d_0c : Int) (d_0d : Option Addr) (d_0e : Nat) (d_0f : Nat) (d_0g : Int) (d_0h : Int) (d_0i : Int) (from_1 : Int) (to_2 : Int) (next_3 : Int) (w : World) : Prop := ∀ (b1 : Nat) (w2 : World), b1 = w.heap.size → w2 = World.alloc w (.cells #[.string d_0a, .int .u64 d_0b, .int .u64 d_0c, .slice d_0d d_0e d_0f, .int .u64 d_0g, .int .u64 d_0h, .int .u64 d_0i] 63) → ∀ (b3 : Nat) (w4 : World), b3 = w2.heap.size → w4 = World.alloc w2 (.cells #[.string ByteArray.empty, .int .u64 0, .int .u64 0, .slice none 0 0, .int .u64 0, .int .u64 0, .int .u64 0] 63) → ∃ (a5 : Option Addr) (n6 c7 : Nat), w4.cell? ⟨b1, 3, none⟩ = some (.slice a5 n6 c7) ∧ (runV Tryz.prog (Instr.makeSlice 61 (.int .i64 ((n6 : Nat) : Int)) (.int .i64 ((n6 : Nat) : Int))) w4 (fun v8 w9 => ∃ (a10 : Option Addr) (n11 c12 : Nat), v8 = .slice a10 n11 c12 ∧ (∃ (a13 : Option Addr) (n14 c15 : Nat), w9.cell? ⟨b1, 3, none⟩ = some (.slice a13 n14 c15) ∧ (runV Tryz.prog (Builtin.copy_ #[61, 61] 3 #[.slice a10 n11 c12, .slice a13 n14 c15]) w9 (fun v16 w17 => ∃ x18 : Int, v16 = .int .i64 x18 ∧ (∃ x19 : Int, w17.cell? ⟨b1, 2, none⟩ = some (.int .u64 x19) ∧ (L0 to_2 next_3 b1 b3 0 a10 n11 c12 (max2I from_1 x19) [.agg #[.string d_0a, .int .u64 d_0b, .int .u64 d_0c, .slice d_0d d_0e d_0f, .int .u64 d_0g, .int .u64 d_0h, .int .u64 d_0i], .int .u64 from_1, undef, undef, undef, .int .u64 0, undef, undef, .pointer (some ⟨b1, 3, none⟩), .slice a5 n6 c7, .int .i64 ((n6 : Nat) : Int), .slice a10 n11 c12, .slice a10 n11 c12, .pointer (some ⟨b1, 3, none⟩), .slice a13 n14 c15, .int .i64 x18, .int .u64 from_1, .pointer (some ⟨b1, 2, none⟩), .int .u64 x19, .int .u64 (max2I from_1 x19), undef, undef, undef, undef, undef, undef, undef, undef, undef, undef, undef, undef, undef, undef, undef, undef, undef, undef, undef, undef, undef, undef, undef, undef, undef, undef, undef, undef, undef, undef, undef, undef, undef, undef, undef, undef, undef, undef, undef, undef, undef, undef, undef] w17)))))))
def vc (R : Ending → World → Prop) (d_0a : ByteArray) (d_0b : Int) (d_0c : Int) (d_0d : Option Addr) (d_0e : Nat) (d_0f : Nat) (d_0g : Int) (d_0h : Int) (d_0i : Int) (from_1 : Int) (to_2 : Int) (next_3 : Int) (w : World) : Prop := ∀ (L0 : Int → Int → Nat → Nat → Int → (Option Addr) → Nat → Nat → Int → List Value → World → Prop), (∀ to_2 next_3 d_4 x_8 n_10 all_11a all_11b all_11c seq_12 g w, W0 R to_2 next_3 d_4 x_8 n_10 all_11a all_11b all_11c seq_12 w → L0 to_2 next_3 d_4 x_8 n_10 all_11a all_11b all_11c seq_12 g w) → t0 R L0 d_0a d_0b d_0c d_0d d_0e d_0f d_0g d_0h d_0i from_1 to_2 next_3 w
theorem at1 (R : Ending → World → Prop) (d_4 : Nat) (x_8 : Nat) (n_10 : Int) (all_11a : Option Addr) (all_11b : Nat) (all_11c : Nat) (g : List Value) (w : World) (h : W1 R  d_4 x_8 n_10 all_11a all_11b all_11c w) : atV Tryz.prog (bodyC Tryz.f108) [true, true, true, true, true, false, false] (retQ Tryz.prog Tryz.f108 R) [nth g 0, nth g 1, nth g 2, nth g 3, .pointer (some ⟨d_4, 0, none⟩), nth g 4, nth g 5, nth g 6, .pointer (some ⟨x_8, 0, none⟩), nth g 7, .int .u64 n_10, .slice all_11a all_11b all_11c, nth g 8, nth g 9, nth g 10, nth g 11, nth g 12, nth g 13, nth g 14, nth g 15, nth g 16, nth g 17, nth g 18, nth g 19, nth g 20, nth g 21, nth g 22, nth g 23, nth g 24, nth g 25, nth g 26, nth g 27, nth g 28, nth g 29, nth g 30, nth g 31, nth g 32, nth g 33, nth g 34, nth g 35, nth g 36, nth g 37, nth g 38, nth g 39, nth g 40, nth g 41, nth g 42, nth g 43, nth g 44, nth g 45, nth g 46, nth g 47, nth g 48, nth g 49, nth g 50, nth g 51, nth g 52, nth g 53, nth g 54, nth g 55, nth g 56, nth g 57, nth g 58, nth g 59, nth g 60, nth g 61, nth g 62, nth g 63, nth g 64, nth g 65] w := by
  obtain ⟨I, n0, h0, hs⟩ := h
  refine atV_loop (by kernel_rfl) (fun n s w => ∃ (all_11a : Option Addr) (all_11b : Nat) (all_11c : Nat) (g : List Value), s = [nth g 0, nth g 1, nth g 2, nth g 3, .pointer (some ⟨d_4, 0, none⟩), nth g 4, nth g 5, nth g 6, .pointer (some ⟨x_8, 0, none⟩), nth g 7, .int .u64 n_10, .slice all_11a all_11b all_11c, nth g 8, nth g 9, nth g 10, nth g 11, nth g 12, nth g 13, nth g 14, nth g 15, nth g 16, nth g 17, nth g 18, nth g 19, nth g 20, nth g 21, nth g 22, nth g 23, nth g 24, nth g 25, nth g 26, nth g 27, nth g 28, nth g 29, nth g 30, nth g 31, nth g 32, nth g 33, nth g 34, nth g 35, nth g 36, nth g 37, nth g 38, nth g 39, nth g 40, nth g 41, nth g 42, nth g 43, nth g 44, nth g 45, nth g 46, nth g 47, nth g 48, nth g 49, nth g 50, nth g 51, nth g 52, nth g 53, nth g 54, nth g 55, nth g 56, nth g 57, nth g 58, nth g 59, nth g 60, nth g 61, nth g 62, nth g 63, nth g 64, nth g 65] ∧ I n all_11a all_11b all_11c w) n0 ⟨_, _, _, _, rfl, h0⟩ ?_
  rintro n s w ⟨all_11a, all_11b, all_11c, g, rfl, hI⟩
  exact Eq.mpr (by kernel_rfl) (hs n all_11a all_11b all_11c g w hI (fun all_11a all_11b all_11c g w => (backQ (fun n s w => ∃ (all_11a : Option Addr) (all_11b : Nat) (all_11c : Nat) (g : List Value), s = [nth g 0, nth g 1, nth g 2, nth g 3, .pointer (some ⟨d_4, 0, none⟩), nth g 4, nth g 5, nth g 6, .pointer (some ⟨x_8, 0, none⟩), nth g 7, .int .u64 n_10, .slice all_11a all_11b all_11c, nth g 8, nth g 9, nth g 10, nth g 11, nth g 12, nth g 13, nth g 14, nth g 15, nth g 16, nth g 17, nth g 18, nth g 19, nth g 20, nth g 21, nth g 22, nth g 23, nth g 24, nth g 25, nth g 26, nth g 27, nth g 28, nth g 29, nth g 30, nth g 31, nth g 32, nth g 33, nth g 34, nth g 35, nth g 36, nth g 37, nth g 38, nth g 39, nth g 40, nth g 41, nth g 42, nth g 43, nth g 44, nth g 45, nth g 46, nth g 47, nth g 48, nth g 49, nth g 50, nth g 51, nth g 52, nth g 53, nth g 54, nth g 55, nth g 56, nth g 57, nth g 58, nth g 59, nth g 60, nth g 61, nth g 62, nth g 63, nth g 64, nth g 65] ∧ I n all_11a all_11b all_11c w) n (ctxQ Tryz.prog (bodyC Tryz.f108) [true, true, true, true, true, false, false] (retQ Tryz.prog Tryz.f108 R))) .normal [nth g 0, nth g 1, nth g 2, nth g 3, .pointer (some ⟨d_4, 0, none⟩), nth g 4, nth g 5, nth g 6, .pointer (some ⟨x_8, 0, none⟩), nth g 7, .int .u64 n_10, .slice all_11a all_11b all_11c, nth g 8, nth g 9, nth g 10, nth g 11, nth g 12, nth g 13, nth g 14, nth g 15, nth g 16, nth g 17, nth g 18, nth g 19, nth g 20, nth g 21, nth g 22, nth g 23, nth g 24, nth g 25, nth g 26, nth g 27, nth g 28, nth g 29, nth g 30, nth g 31, nth g 32, nth g 33, nth g 34, nth g 35, nth g 36, nth g 37, nth g 38, nth g 39, nth g 40, nth g 41, nth g 42, nth g 43, nth g 44, nth g 45, nth g 46, nth g 47, nth g 48, nth g 49, nth g 50, nth g 51, nth g 52, nth g 53, nth g 54, nth g 55, nth g 56, nth g 57, nth g 58, nth g 59, nth g 60, nth g 61, nth g 62, nth g 63, nth g 64, nth g 65] w) (fun m all_11a all_11b all_11c g w hm hI => ⟨m, hm, all_11a, all_11b, all_11c, g, rfl, hI⟩))
theorem at0 (R : Ending → World → Prop) (to_2 : Int) (next_3 : Int) (d_4 : Nat) (x_8 : Nat) (n_10 : Int) (all_11a : Option Addr) (all_11b : Nat) (all_11c : Nat) (seq_12 : Int) (g : List Value) (w : World) (h : W0 R  to_2 next_3 d_4 x_8 n_10 all_11a all_11b all_11c seq_12 w) : atV Tryz.prog (bodyC Tryz.f108) [true, true, true, true, false, true, false] (retQ Tryz.prog Tryz.f108 R) [nth g 0, nth g 1, .int .u64 to_2, .int .u64 next_3, .pointer (some ⟨d_4, 0, none⟩), nth g 2, nth g 3, nth g 4, .pointer (some ⟨x_8, 0, none⟩), nth g 5, .int .u64 n_10, .slice all_11a all_11b all_11c, .int .u64 seq_12, nth g 6, nth g 7, nth g 8, nth g 9, nth g 10, nth g 11, nth g 12, nth g 13, nth g 14, nth g 15, nth g 16, nth g 17, nth g 18, nth g 19, nth g 20, nth g 21, nth g 22, nth g 23, nth g 24, nth g 25, nth g 26, nth g 27, nth g 28, nth g 29, nth g 30, nth g 31, nth g 32, nth g 33, nth g 34, nth g 35, nth g 36, nth g 37, nth g 38, nth g 39, nth g 40, nth g 41, nth g 42, nth g 43, nth g 44, nth g 45, nth g 46, nth g 47, nth g 48, nth g 49, nth g 50, nth g 51, nth g 52, nth g 53, nth g 54, nth g 55, nth g 56, nth g 57, nth g 58, nth g 59, nth g 60, nth g 61, nth g 62] w := by
  obtain ⟨I, n0, h0, hs⟩ := h
  refine atV_loop (by kernel_rfl) (fun n s w => ∃ (n_10 : Int) (all_11a : Option Addr) (all_11b : Nat) (all_11c : Nat) (seq_12 : Int) (g : List Value), s = [nth g 0, nth g 1, .int .u64 to_2, .int .u64 next_3, .pointer (some ⟨d_4, 0, none⟩), nth g 2, nth g 3, nth g 4, .pointer (some ⟨x_8, 0, none⟩), nth g 5, .int .u64 n_10, .slice all_11a all_11b all_11c, .int .u64 seq_12, nth g 6, nth g 7, nth g 8, nth g 9, nth g 10, nth g 11, nth g 12, nth g 13, nth g 14, nth g 15, nth g 16, nth g 17, nth g 18, nth g 19, nth g 20, nth g 21, nth g 22, nth g 23, nth g 24, nth g 25, nth g 26, nth g 27, nth g 28, nth g 29, nth g 30, nth g 31, nth g 32, nth g 33, nth g 34, nth g 35, nth g 36, nth g 37, nth g 38, nth g 39, nth g 40, nth g 41, nth g 42, nth g 43, nth g 44, nth g 45, nth g 46, nth g 47, nth g 48, nth g 49, nth g 50, nth g 51, nth g 52, nth g 53, nth g 54, nth g 55, nth g 56, nth g 57, nth g 58, nth g 59, nth g 60, nth g 61, nth g 62] ∧ I n n_10 all_11a all_11b all_11c seq_12 w) n0 ⟨_, _, _, _, _, _, rfl, h0⟩ ?_
  rintro n s w ⟨n_10, all_11a, all_11b, all_11c, seq_12, g, rfl, hI⟩
  exact Eq.mpr (by kernel_rfl) (hs n n_10 all_11a all_11b all_11c seq_12 g w hI (fun n_10 all_11a all_11b all_11c seq_12 g w => (backQ (fun n s w => ∃ (n_10 : Int) (all_11a : Option Addr) (all_11b : Nat) (all_11c : Nat) (seq_12 : Int) (g : List Value), s = [nth g 0, nth g 1, .int .u64 to_2, .int .u64 next_3, .pointer (some ⟨d_4, 0, none⟩), nth g 2, nth g 3, nth g 4, .pointer (some ⟨x_8, 0, none⟩), nth g 5, .int .u64 n_10, .slice all_11a all_11b all_11c, .int .u64 seq_12, nth g 6, nth g 7, nth g 8, nth g 9, nth g 10, nth g 11, nth g 12, nth g 13, nth g 14, nth g 15, nth g 16, nth g 17, nth g 18, nth g 19, nth g 20, nth g 21, nth g 22, nth g 23, nth g 24, nth g 25, nth g 26, nth g 27, nth g 28, nth g 29, nth g 30, nth g 31, nth g 32, nth g 33, nth g 34, nth g 35, nth g 36, nth g 37, nth g 38, nth g 39, nth g 40, nth g 41, nth g 42, nth g 43, nth g 44, nth g 45, nth g 46, nth g 47, nth g 48, nth g 49, nth g 50, nth g 51, nth g 52, nth g 53, nth g 54, nth g 55, nth g 56, nth g 57, nth g 58, nth g 59, nth g 60, nth g 61, nth g 62] ∧ I n n_10 all_11a all_11b all_11c seq_12 w) n (ctxQ Tryz.prog (bodyC Tryz.f108) [true, true, true, true, false, true, false] (retQ Tryz.prog Tryz.f108 R))) .normal [nth g 0, nth g 1, .int .u64 to_2, .int .u64 next_3, .pointer (some ⟨d_4, 0, none⟩), nth g 2, nth g 3, nth g 4, .pointer (some ⟨x_8, 0, none⟩), nth g 5, .int .u64 n_10, .slice all_11a all_11b all_11c, .int .u64 seq_12, nth g 6, nth g 7, nth g 8, nth g 9, nth g 10, nth g 11, nth g 12, nth g 13, nth g 14, nth g 15, nth g 16, nth g 17, nth g 18, nth g 19, nth g 20, nth g 21, nth g 22, nth g 23, nth g 24, nth g 25, nth g 26, nth g 27, nth g 28, nth g 29, nth g 30, nth g 31, nth g 32, nth g 33, nth g 34, nth g 35, nth g 36, nth g 37, nth g 38, nth g 39, nth g 40, nth g 41, nth g 42, nth g 43, nth g 44, nth g 45, nth g 46, nth g 47, nth g 48, nth g 49, nth g 50, nth g 51, nth g 52, nth g 53, nth g 54, nth g 55, nth g 56, nth g 57, nth g 58, nth g 59, nth g 60, nth g 61, nth g 62] w) (fun m n_10 all_11a all_11b all_11c seq_12 g w hm hI => ⟨m, hm, n_10, all_11a, all_11b, all_11c, seq_12, g, rfl, hI⟩) (fun d_4 x_8 n_10 all_11a all_11b all_11c g w => atV Tryz.prog (bodyC Tryz.f108) [true, true, true, true, true, false, false] (retQ Tryz.prog Tryz.f108 R) [nth g 0, nth g 1, nth g 2, nth g 3, .pointer (some ⟨d_4, 0, none⟩), nth g 4, nth g 5, nth g 6, .pointer (some ⟨x_8, 0, none⟩), nth g 7, .int .u64 n_10, .slice all_11a all_11b all_11c, nth g 8, nth g 9, nth g 10, nth g 11, nth g 12, nth g 13, nth g 14, nth g 15, nth g 16, nth g 17, nth g 18, nth g 19, nth g 20, nth g 21, nth g 22, nth g 23, nth g 24, nth g 25, nth g 26, nth g 27, nth g 28, nth g 29, nth g 30, nth g 31, nth g 32, nth g 33, nth g 34, nth g 35, nth g 36, nth g 37, nth g 38, nth g 39, nth g 40, nth g 41, nth g 42, nth g 43, nth g 44, nth g 45, nth g 46, nth g 47, nth g 48, nth g 49, nth g 50, nth g 51, nth g 52, nth g 53, nth g 54, nth g 55, nth g 56, nth g 57, nth g 58, nth g 59, nth g 60, nth g 61, nth g 62, nth g 63, nth g 64, nth g 65] w) (fun d_4 x_8 n_10 all_11a all_11b all_11c g w h => at1 R  d_4 x_8 n_10 all_11a all_11b all_11c g w h))
theorem calls (R : Ending → World → Prop) (d_0a : ByteArray) (d_0b : Int) (d_0c : Int) (d_0d : Option Addr) (d_0e : Nat) (d_0f : Nat) (d_0g : Int) (d_0h : Int) (d_0i : Int) (from_1 : Int) (to_2 : Int) (next_3 : Int) (w : World) (h : vc R d_0a d_0b d_0c d_0d d_0e d_0f d_0g d_0h d_0i from_1 to_2 next_3 w) : Calls Tryz.prog 108 #[.agg #[.string d_0a, .int .u64 d_0b, .int .u64 d_0c, .slice d_0d d_0e d_0f, .int .u64 d_0g, .int .u64 d_0h, .int .u64 d_0i], .int .u64 from_1, .int .u64 to_2, .int .u64 next_3] w R :=
  calls_V Tryz.func108 (Eq.mpr (by kernel_rfl) (h (fun to_2 next_3 d_4 x_8 n_10 all_11a all_11b all_11c seq_12 g w => atV Tryz.prog (bodyC Tryz.f108) [true, true, true, true, false, true, false] (retQ Tryz.prog Tryz.f108 R) [nth g 0, nth g 1, .int .u64 to_2, .int .u64 next_3, .pointer (some ⟨d_4, 0, none⟩), nth g 2, nth g 3, nth g 4, .pointer (some ⟨x_8, 0, none⟩), nth g 5, .int .u64 n_10, .slice all_11a all_11b all_11c, .int .u64 seq_12, nth g 6, nth g 7, nth g 8, nth g 9, nth g 10, nth g 11, nth g 12, nth g 13, nth g 14, nth g 15, nth g 16, nth g 17, nth g 18, nth g 19, nth g 20, nth g 21, nth g 22, nth g 23, nth g 24, nth g 25, nth g 26, nth g 27, nth g 28, nth g 29, nth g 30, nth g 31, nth g 32, nth g 33, nth g 34, nth g 35, nth g 36, nth g 37, nth g 38, nth g 39, nth g 40, nth g 41, nth g 42, nth g 43, nth g 44, nth g 45, nth g 46, nth g 47, nth g 48, nth g 49, nth g 50, nth g 51, nth g 52, nth g 53, nth g 54, nth g 55, nth g 56, nth g 57, nth g 58, nth g 59, nth g 60, nth g 61, nth g 62] w) (fun to_2 next_3 d_4 x_8 n_10 all_11a all_11b all_11c seq_12 g w h => at0 R to_2 next_3 d_4 x_8 n_10 all_11a all_11b all_11c seq_12 g w h)))
end ledger_Dest_done
end Go.Proofs.YtcofknlcdgidpaaGreatDoor
/-! ## GledgerEvict -/
namespace Go.Proofs.YtcofknlcdgidpaaGreatDoor
open Go Go.Proofs.YtcofknlcdgidpaaGreatDoor.VC
set_option linter.unusedVariables false
set_option maxRecDepth 100000
set_option maxHeartbeats 0

/-! ### postroom/ledger.Evict: function 85 -/
namespace ledger_Evict
def t1 (R : Ending → World → Prop)  (Back0 : Int → List Value → World → Prop)  (to_1 : Int) (l_2 : Nat) (x_4 : Nat) (x_28a : Option Addr) (x_28b : Nat) (x_28c : Nat) (x_29 : Int) (x_30 : Int) (g : List Value) (w : World) : Prop := boolV (decide (x_30 < x_29)) (someV x_28a (fun p1 => (0 ≤ x_30 ∧ x_30 < (x_28b : Nat)) ∧ (∃ s2 : ByteArray, ∃ x3 : Int, ∃ x4 : Int, ∃ (a5 : Option Addr) (n6 c7 : Nat), ∃ x8 : Int, ∃ x9 : Int, ∃ x10 : Int, (w.cell? (p1.add (x_30.toNat * 7)) = some (.string s2) ∧ w.cell? ((p1.add (x_30.toNat * 7)).add 1) = some (.int .u64 x3) ∧ w.cell? ((p1.add (x_30.toNat * 7)).add 2) = some (.int .u64 x4) ∧ w.cell? ((p1.add (x_30.toNat * 7)).add 3) = some (.slice a5 n6 c7) ∧ w.cell? ((p1.add (x_30.toNat * 7)).add 4) = some (.int .u64 x8) ∧ w.cell? ((p1.add (x_30.toNat * 7)).add 5) = some (.int .u64 x9) ∧ w.cell? ((p1.add (x_30.toNat * 7)).add 6) = some (.int .u64 x10)) ∧ (∀ (b11 : Nat) (w12 : World), b11 = w.heap.size → w12 = World.alloc w (.cells #[.string ByteArray.empty, .int .u64 0, .int .u64 0, .slice none 0 0, .int .u64 0, .int .u64 0, .int .u64 0] 63) → Writable w12 ⟨b11, 0, none⟩ 7 ∧ ∀ w13 : World, w13 = World.setCell (World.setCell (World.setCell (World.setCell (World.setCell (World.setCell (World.setCell w12 ⟨b11, 0, none⟩ (.string s2)) ⟨b11, 1, none⟩ (.int .u64 x3)) ⟨b11, 2, none⟩ (.int .u64 x4)) ⟨b11, 3, none⟩ (.slice a5 n6 c7)) ⟨b11, 4, none⟩ (.int .u64 x8)) ⟨b11, 5, none⟩ (.int .u64 x9)) ⟨b11, 6, none⟩ (.int .u64 x10) → ∃ s14 : ByteArray, ∃ x15 : Int, ∃ x16 : Int, ∃ (a17 : Option Addr) (n18 c19 : Nat), ∃ x20 : Int, ∃ x21 : Int, ∃ x22 : Int, (w13.cell? ⟨b11, 0, none⟩ = some (.string s14) ∧ w13.cell? ⟨b11, 1, none⟩ = some (.int .u64 x15) ∧ w13.cell? ⟨b11, 2, none⟩ = some (.int .u64 x16) ∧ w13.cell? ⟨b11, 3, none⟩ = some (.slice a17 n18 c19) ∧ w13.cell? ⟨b11, 4, none⟩ = some (.int .u64 x20) ∧ w13.cell? ⟨b11, 5, none⟩ = some (.int .u64 x21) ∧ w13.cell? ⟨b11, 6, none⟩ = some (.int .u64 x22)) ∧ (∃ x23 : Int, w13.cell? ⟨l_2, 1, none⟩ = some (.int .u64 x23) ∧ (Calls Tryz.prog 108 #[.agg #[.string s14, .int .u64 x15, .int .u64 x16, .slice a17 n18 c19, .int .u64 x20, .int .u64 x21, .int .u64 x22], .int .u64 0, .int .u64 to_1, .int .u64 x23] w13 (fun e24 w25 => ∃ s26 : ByteArray, ∃ x27 : Int, ∃ x28 : Int, ∃ (a29 : Option Addr) (n30 c31 : Nat), ∃ x32 : Int, ∃ x33 : Int, ∃ x34 : Int, ∃ x35 : Int, e24 = .returned (.tuple #[.agg #[.string s26, .int .u64 x27, .int .u64 x28, .slice a29 n30 c31, .int .u64 x32, .int .u64 x33, .int .u64 x34], .int .u64 x35]) ∧ (∀ (b36 : Nat) (w37 : World), b36 = w25.heap.size → w37 = World.alloc w25 (.cells #[.string ByteArray.empty, .int .u64 0, .int .u64 0, .slice none 0 0, .int .u64 0, .int .u64 0, .int .u64 0] 63) → Writable w37 ⟨b36, 0, none⟩ 7 ∧ ∀ w38 : World, w38 = World.setCell (World.setCell (World.setCell (World.setCell (World.setCell (World.setCell (World.setCell w37 ⟨b36, 0, none⟩ (.string s26)) ⟨b36, 1, none⟩ (.int .u64 x27)) ⟨b36, 2, none⟩ (.int .u64 x28)) ⟨b36, 3, none⟩ (.slice a29 n30 c31)) ⟨b36, 4, none⟩ (.int .u64 x32)) ⟨b36, 5, none⟩ (.int .u64 x33)) ⟨b36, 6, none⟩ (.int .u64 x34) → ∃ x39 : Int, w38.cell? ⟨b36, 5, none⟩ = some (.int .u64 x39) ∧ (Writable w38 ⟨b36, 5, none⟩ 1 ∧ ∀ w40 : World, w40 = World.setCell w38 ⟨b36, 5, none⟩ (.int .u64 (IntKind.wrap .u64 (x39 + x35))) → ∃ (a41 : Option Addr) (n42 c43 : Nat), w40.cell? ⟨l_2, 2, none⟩ = some (.slice a41 n42 c43) ∧ (∃ s44 : ByteArray, ∃ x45 : Int, ∃ x46 : Int, ∃ (a47 : Option Addr) (n48 c49 : Nat), ∃ x50 : Int, ∃ x51 : Int, ∃ x52 : Int, (w40.cell? ⟨b36, 0, none⟩ = some (.string s44) ∧ w40.cell? ⟨b36, 1, none⟩ = some (.int .u64 x45) ∧ w40.cell? ⟨b36, 2, none⟩ = some (.int .u64 x46) ∧ w40.cell? ⟨b36, 3, none⟩ = some (.slice a47 n48 c49) ∧ w40.cell? ⟨b36, 4, none⟩ = some (.int .u64 x50) ∧ w40.cell? ⟨b36, 5, none⟩ = some (.int .u64 x51) ∧ w40.cell? ⟨b36, 6, none⟩ = some (.int .u64 x52)) ∧ (someV a41 (fun p53 => (0 ≤ x_30 ∧ x_30 < (n42 : Nat)) ∧ (Writable w40 (p53.add (x_30.toNat * 7)) 7 ∧ ∀ w54 : World, w54 = World.setCell (World.setCell (World.setCell (World.setCell (World.setCell (World.setCell (World.setCell w40 (p53.add (x_30.toNat * 7)) (.string s44)) ((p53.add (x_30.toNat * 7)).add 1) (.int .u64 x45)) ((p53.add (x_30.toNat * 7)).add 2) (.int .u64 x46)) ((p53.add (x_30.toNat * 7)).add 3) (.slice a47 n48 c49)) ((p53.add (x_30.toNat * 7)).add 4) (.int .u64 x50)) ((p53.add (x_30.toNat * 7)).add 5) (.int .u64 x51)) ((p53.add (x_30.toNat * 7)).add 6) (.int .u64 x52) → Back0 (IntKind.wrap .i64 (x_30 + 1)) [nth g 0, nth g 1, nth g 2, .int .i64 x_30, .pointer (some ⟨b11, 0, none⟩), .pointer (some ⟨b36, 0, none⟩), .int .u64 x35, nth g 7, nth g 8, nth g 9, nth g 10, nth g 11, nth g 12, nth g 13, nth g 14, nth g 15, nth g 16, nth g 17, nth g 18, nth g 19, nth g 20, nth g 21, nth g 22, nth g 23, nth g 24, .bool (decide (x_30 < x_29)), .int .i64 x_30, .pointer (some (p1.add (x_30.toNat * 7))), .agg #[.string s2, .int .u64 x3, .int .u64 x4, .slice a5 n6 c7, .int .u64 x8, .int .u64 x9, .int .u64 x10], .tuple #[.agg #[.string s26, .int .u64 x27, .int .u64 x28, .slice a29 n30 c31, .int .u64 x32, .int .u64 x33, .int .u64 x34], .int .u64 x35], .agg #[.string s14, .int .u64 x15, .int .u64 x16, .slice a17 n18 c19, .int .u64 x20, .int .u64 x21, .int .u64 x22], .int .u64 to_1, .pointer (some ⟨l_2, 1, none⟩), .int .u64 x23, .tuple #[.agg #[.string s26, .int .u64 x27, .int .u64 x28, .slice a29 n30 c31, .int .u64 x32, .int .u64 x33, .int .u64 x34], .int .u64 x35], .agg #[.string s26, .int .u64 x27, .int .u64 x28, .slice a29 n30 c31, .int .u64 x32, .int .u64 x33, .int .u64 x34], .int .u64 x35, .pointer (some ⟨b36, 5, none⟩), .int .u64 x39, .int .u64 x35, .int .u64 (IntKind.wrap .u64 (x39 + x35)), .pointer (some ⟨b36, 5, none⟩), .pointer (some ⟨l_2, 2, none⟩), .slice a41 n42 c43, .int .i64 x_30, .agg #[.string s44, .int .u64 x45, .int .u64 x46, .slice a47 n48 c49, .int .u64 x50, .int .u64 x51, .int .u64 x52], .pointer (some (p53.add (x_30.toNat * 7))), .int .i64 (IntKind.wrap .i64 (x_30 + 1)), nth g 48] w54))))))))))))) (∃ x55 : Int, ∃ x56 : Int, ∃ (a57 : Option Addr) (n58 c59 : Nat), (w.cell? ⟨l_2, 0, none⟩ = some (.int .u64 x55) ∧ w.cell? ⟨l_2, 1, none⟩ = some (.int .u64 x56) ∧ w.cell? ⟨l_2, 2, none⟩ = some (.slice a57 n58 c59)) ∧ (Writable w ⟨x_4, 0, none⟩ 3 ∧ ∀ w60 : World, w60 = World.setCell (World.setCell (World.setCell w ⟨x_4, 0, none⟩ (.int .u64 x55)) ⟨x_4, 1, none⟩ (.int .u64 x56)) ⟨x_4, 2, none⟩ (.slice a57 n58 c59) → ∃ x61 : Int, ∃ x62 : Int, ∃ (a63 : Option Addr) (n64 c65 : Nat), (w60.cell? ⟨x_4, 0, none⟩ = some (.int .u64 x61) ∧ w60.cell? ⟨x_4, 1, none⟩ = some (.int .u64 x62) ∧ w60.cell? ⟨x_4, 2, none⟩ = some (.slice a63 n64 c65)) ∧ (R (.returned (.tuple #[.agg #[.int .u64 x61, .int .u64 x62, .slice a63 n64 c65], .int .i64 0])) w60)))
def W0 (R : Ending → World → Prop)  (to_1 : Int) (l_2 : Nat) (x_4 : Nat) (x_28a : Option Addr) (x_28b : Nat) (x_28c : Nat) (x_29 : Int) (x_30 : Int) (w : World) : Prop := ∃ (I : Nat → Int → World → Prop) (n : Nat), I n x_30 w ∧ ∀ (n : Nat) (x_30 : Int) (g : List Value) (w : World), I n x_30 w → ∀ (Back0 : Int → List Value → World → Prop), (∀ (m : Nat) (x_30 : Int) (g : List Value) (w : World), m < n → I m x_30 w → Back0 x_30 g w) → t1 R  Back0  to_1 l_2 x_4 x_28a x_28b x_28c x_29 x_30 g w
def t0 (R : Ending → World → Prop) (L0 : Int → Nat → Nat → (Option Addr) → Nat → Nat → Int → Int → List Value → World → Prop) (l_0a : Int) (l_0b : Int) (l_0c : Option Addr) (l_0d : Nat) (l_0e : Nat) (to_1 : Int) (w : World) : Prop := ∀ (b1 : Nat) (w2 : World), b1 = w.heap.size → w2 = World.alloc w (.cells #[.int .u64 l_0a, .int .u64 l_0b, .slice l_0c l_0d l_0e] 37) → ∀ (b3 : Nat) (w4 : World), b3 = w2.heap.size → w4 = World.alloc w2 (.cells #[.int .u64 0, .int .u64 0, .slice none 0 0] 37) → ∃ x5 : Int, w4.cell? ⟨b1, 0, none⟩ = some (.int .u64 x5) ∧ (boolV (decide (to_1 < x5)) (Writable w4 ⟨b3, 0, none⟩ 3 ∧ ∀ w6 : World, w6 = World.setCell (World.setCell (World.setCell w4 ⟨b3, 0, none⟩ (.int .u64 0)) ⟨b3, 1, none⟩ (.int .u64 0)) ⟨b3, 2, none⟩ (.slice none 0 0) → ∃ x7 : Int, ∃ x8 : Int, ∃ (a9 : Option Addr) (n10 c11 : Nat), (w6.cell? ⟨b3, 0, none⟩ = some (.int .u64 x7) ∧ w6.cell? ⟨b3, 1, none⟩ = some (.int .u64 x8) ∧ w6.cell? ⟨b3, 2, none⟩ = some (.slice a9 n10 c11)) ∧ (R (.returned (.tuple #[.agg #[.int .u64 x7, .int .u64 x8, .slice a9 n10 c11], .int .i64 1])) w6)) (∃ x12 : Int, w4.cell? ⟨b1, 1, none⟩ = some (.int .u64 x12) ∧ (boolV (decide (to_1 > x12)) (Writable w4 ⟨b3, 0, none⟩ 3 ∧ ∀ w13 : World, w13 = World.setCell (World.setCell (World.setCell w4 ⟨b3, 0, none⟩ (.int .u64 0)) ⟨b3, 1, none⟩ (.int .u64 0)) ⟨b3, 2, none⟩ (.slice none 0 0) → ∃ x14 : Int, ∃ x15 : Int, ∃ (a16 : Option Addr) (n17 c18 : Nat), (w13.cell? ⟨b3, 0, none⟩ = some (.int .u64 x14) ∧ w13.cell? ⟨b3, 1, none⟩ = some (.int .u64 x15) ∧ w13.cell? ⟨b3, 2, none⟩ = some (.slice a16 n17 c18)) ∧ (R (.returned (.tuple #[.agg #[.int .u64 x14, .int .u64 x15, .slice a16 n17 c18], .int .i64 1])) w13)) (Writable w4 ⟨b1, 0, none⟩ 1 ∧ ∀ w19 : World, w19 = World.setCell w4 ⟨b1, 0, none⟩ (.int .u64 to_1) → ∃ (a20 : Option Addr) (n21 c22 : Nat), w19.cell? ⟨b1, 2, none⟩ = some (.slice a20 n21 c22) ∧ (Calls Tryz.prog 35 #[.slice a20 n21 c22] w19 (fun e23 w24 => ∃ (a25 : Option Addr) (n26 c27 : Nat), e23 = .returned (.slice a25 n26 c27) ∧ (Writable w24 ⟨b1, 2, none⟩ 1 ∧ ∀ w28 : World, w28 = World.setCell w24 ⟨b1, 2, none⟩ (.slice a25 n26 c27) → ∃ (a29 : Option Addr) (n30 c31 : Nat), w28.cell? ⟨b1, 2, none⟩ = some (.slice a29 n30 c31) ∧ (L0 to_1 b1 b3 a29 n30 c31 ((n30 : Nat) : Int) 0 [.agg #[.int .u64 l_0a, .int .u64 l_0b, .slice l_0c l_0d l_0e], undef, .int .i64 0, undef, undef, undef, undef, .int .u64 to_1, .pointer (some ⟨b1, 0, none⟩), .int .u64 x5, .bool (decide (to_1 < x5)), .bool false, .int .u64 to_1, .pointer (some ⟨b1, 1, none⟩), .int .u64 x12, .bool (decide (to_1 > x12)), .bool (decide (to_1 > x12)), undef, .int .u64 to_1, .pointer (some ⟨b1, 0, none⟩), .pointer (some ⟨b1, 2, none⟩), .slice a20 n21 c22, .slice a25 n26 c27, .pointer (some ⟨b1, 2, none⟩), .pointer (some ⟨b1, 2, none⟩), undef, undef, undef, undef, undef, undef, undef, undef, undef, undef, undef, undef, undef, undef, undef, undef, undef, undef, undef, undef, undef, undef, undef, undef] w28))))))))
def vc (R : Ending → World → Prop) (l_0a : Int) (l_0b : Int) (l_0c : Option Addr) (l_0d : Nat) (l_0e : Nat) (to_1 : Int) (w : World) : Prop := ∀ (L0 : Int → Nat → Nat → (Option Addr) → Nat → Nat → Int → Int → List Value → World → Prop), (∀ to_1 l_2 x_4 x_28a x_28b x_28c x_29 x_30 g w, W0 R to_1 l_2 x_4 x_28a x_28b x_28c x_29 x_30 w → L0 to_1 l_2 x_4 x_28a x_28b x_28c x_29 x_30 g w) → t0 R L0 l_0a l_0b l_0c l_0d l_0e to_1 w
theorem at0 (R : Ending → World → Prop) (to_1 : Int) (l_2 : Nat) (x_4 : Nat) (x_28a : Option Addr) (x_28b : Nat) (x_28c : Nat) (x_29 : Int) (x_30 : Int) (g : List Value) (w : World) (h : W0 R  to_1 l_2 x_4 x_28a x_28b x_28c x_29 x_30 w) : atV Tryz.prog (bodyC Tryz.f85) [true, true, true, true, false, true, false] (retQ Tryz.prog Tryz.f85 R) [nth g 0, .int .u64 to_1, .pointer (some ⟨l_2, 0, none⟩), nth g 1, .pointer (some ⟨x_4, 0, none⟩), nth g 2, nth g 3, nth g 4, nth g 5, nth g 6, nth g 7, nth g 8, nth g 9, nth g 10, nth g 11, nth g 12, nth g 13, nth g 14, nth g 15, nth g 16, nth g 17, nth g 18, nth g 19, nth g 20, nth g 21, nth g 22, nth g 23, nth g 24, .slice x_28a x_28b x_28c, .int .i64 x_29, .int .i64 x_30, nth g 25, nth g 26, nth g 27, nth g 28, nth g 29, nth g 30, nth g 31, nth g 32, nth g 33, nth g 34, nth g 35, nth g 36, nth g 37, nth g 38, nth g 39, nth g 40, nth g 41, nth g 42, nth g 43, nth g 44, nth g 45, nth g 46, nth g 47, nth g 48] w := by
  obtain ⟨I, n0, h0, hs⟩ := h
  refine atV_loop (by kernel_rfl) (fun n s w => ∃ (x_30 : Int) (g : List Value), s = [nth g 0, .int .u64 to_1, .pointer (some ⟨l_2, 0, none⟩), nth g 1, .pointer (some ⟨x_4, 0, none⟩), nth g 2, nth g 3, nth g 4, nth g 5, nth g 6, nth g 7, nth g 8, nth g 9, nth g 10, nth g 11, nth g 12, nth g 13, nth g 14, nth g 15, nth g 16, nth g 17, nth g 18, nth g 19, nth g 20, nth g 21, nth g 22, nth g 23, nth g 24, .slice x_28a x_28b x_28c, .int .i64 x_29, .int .i64 x_30, nth g 25, nth g 26, nth g 27, nth g 28, nth g 29, nth g 30, nth g 31, nth g 32, nth g 33, nth g 34, nth g 35, nth g 36, nth g 37, nth g 38, nth g 39, nth g 40, nth g 41, nth g 42, nth g 43, nth g 44, nth g 45, nth g 46, nth g 47, nth g 48] ∧ I n x_30 w) n0 ⟨_, _, rfl, h0⟩ ?_
  rintro n s w ⟨x_30, g, rfl, hI⟩
  exact Eq.mpr (by kernel_rfl) (hs n x_30 g w hI (fun x_30 g w => (backQ (fun n s w => ∃ (x_30 : Int) (g : List Value), s = [nth g 0, .int .u64 to_1, .pointer (some ⟨l_2, 0, none⟩), nth g 1, .pointer (some ⟨x_4, 0, none⟩), nth g 2, nth g 3, nth g 4, nth g 5, nth g 6, nth g 7, nth g 8, nth g 9, nth g 10, nth g 11, nth g 12, nth g 13, nth g 14, nth g 15, nth g 16, nth g 17, nth g 18, nth g 19, nth g 20, nth g 21, nth g 22, nth g 23, nth g 24, .slice x_28a x_28b x_28c, .int .i64 x_29, .int .i64 x_30, nth g 25, nth g 26, nth g 27, nth g 28, nth g 29, nth g 30, nth g 31, nth g 32, nth g 33, nth g 34, nth g 35, nth g 36, nth g 37, nth g 38, nth g 39, nth g 40, nth g 41, nth g 42, nth g 43, nth g 44, nth g 45, nth g 46, nth g 47, nth g 48] ∧ I n x_30 w) n (ctxQ Tryz.prog (bodyC Tryz.f85) [true, true, true, true, false, true, false] (retQ Tryz.prog Tryz.f85 R))) .normal [nth g 0, .int .u64 to_1, .pointer (some ⟨l_2, 0, none⟩), nth g 1, .pointer (some ⟨x_4, 0, none⟩), nth g 2, nth g 3, nth g 4, nth g 5, nth g 6, nth g 7, nth g 8, nth g 9, nth g 10, nth g 11, nth g 12, nth g 13, nth g 14, nth g 15, nth g 16, nth g 17, nth g 18, nth g 19, nth g 20, nth g 21, nth g 22, nth g 23, nth g 24, .slice x_28a x_28b x_28c, .int .i64 x_29, .int .i64 x_30, nth g 25, nth g 26, nth g 27, nth g 28, nth g 29, nth g 30, nth g 31, nth g 32, nth g 33, nth g 34, nth g 35, nth g 36, nth g 37, nth g 38, nth g 39, nth g 40, nth g 41, nth g 42, nth g 43, nth g 44, nth g 45, nth g 46, nth g 47, nth g 48] w) (fun m x_30 g w hm hI => ⟨m, hm, x_30, g, rfl, hI⟩))
theorem calls (R : Ending → World → Prop) (l_0a : Int) (l_0b : Int) (l_0c : Option Addr) (l_0d : Nat) (l_0e : Nat) (to_1 : Int) (w : World) (h : vc R l_0a l_0b l_0c l_0d l_0e to_1 w) : Calls Tryz.prog 85 #[.agg #[.int .u64 l_0a, .int .u64 l_0b, .slice l_0c l_0d l_0e], .int .u64 to_1] w R :=
  calls_V Tryz.func85 (Eq.mpr (by kernel_rfl) (h (fun to_1 l_2 x_4 x_28a x_28b x_28c x_29 x_30 g w => atV Tryz.prog (bodyC Tryz.f85) [true, true, true, true, false, true, false] (retQ Tryz.prog Tryz.f85 R) [nth g 0, .int .u64 to_1, .pointer (some ⟨l_2, 0, none⟩), nth g 1, .pointer (some ⟨x_4, 0, none⟩), nth g 2, nth g 3, nth g 4, nth g 5, nth g 6, nth g 7, nth g 8, nth g 9, nth g 10, nth g 11, nth g 12, nth g 13, nth g 14, nth g 15, nth g 16, nth g 17, nth g 18, nth g 19, nth g 20, nth g 21, nth g 22, nth g 23, nth g 24, .slice x_28a x_28b x_28c, .int .i64 x_29, .int .i64 x_30, nth g 25, nth g 26, nth g 27, nth g 28, nth g 29, nth g 30, nth g 31, nth g 32, nth g 33, nth g 34, nth g 35, nth g 36, nth g 37, nth g 38, nth g 39, nth g 40, nth g 41, nth g 42, nth g 43, nth g 44, nth g 45, nth g 46, nth g 47, nth g 48] w) (fun to_1 l_2 x_4 x_28a x_28b x_28c x_29 x_30 g w h => at0 R to_1 l_2 x_4 x_28a x_28b x_28c x_29 x_30 g w h)))
end ledger_Evict
end Go.Proofs.YtcofknlcdgidpaaGreatDoor
/-! ## GledgerDone -/
namespace Go.Proofs.YtcofknlcdgidpaaGreatDoor
open Go Go.Proofs.YtcofknlcdgidpaaGreatDoor.VC
set_option linter.unusedVariables false
set_option maxRecDepth 100000
set_option maxHeartbeats 0

/-! ### postroom/ledger.Done: function 75 -/
namespace ledger_Done
def t0 (R : Ending → World → Prop)  (l_0a : Int) (l_0b : Int) (l_0c : Option Addr) (l_0d : Nat) (l_0e : Nat) (name_1 : ByteArray) (seq_2 : Int) (kind_3 : Int) (w : World) : Prop := ∀ (b1 : Nat) (w2 : World), b1 = w.heap.size → w2 = World.alloc w (.cells #[.int .u64 l_0a, .int .u64 l_0b, .slice l_0c l_0d l_0e] 37) → ∀ (b3 : Nat) (w4 : World), b3 = w2.heap.size → w4 = World.alloc w2 (.cells #[.int .u64 0, .int .u64 0, .slice none 0 0] 37) → ∃ (a5 : Option Addr) (n6 c7 : Nat), w4.cell? ⟨b1, 2, none⟩ = some (.slice a5 n6 c7) ∧ (Calls Tryz.prog 53 #[.slice a5 n6 c7, .string name_1] w4 (fun e8 w9 => ∃ x10 : Int, e8 = .returned (.int .i64 x10) ∧ (boolV (decide (x10 < (0 : Int))) (Writable w9 ⟨b3, 0, none⟩ 3 ∧ ∀ w11 : World, w11 = World.setCell (World.setCell (World.setCell w9 ⟨b3, 0, none⟩ (.int .u64 0)) ⟨b3, 1, none⟩ (.int .u64 0)) ⟨b3, 2, none⟩ (.slice none 0 0) → ∃ x12 : Int, ∃ x13 : Int, ∃ (a14 : Option Addr) (n15 c16 : Nat), (w11.cell? ⟨b3, 0, none⟩ = some (.int .u64 x12) ∧ w11.cell? ⟨b3, 1, none⟩ = some (.int .u64 x13) ∧ w11.cell? ⟨b3, 2, none⟩ = some (.slice a14 n15 c16)) ∧ (R (.returned (.tuple #[.agg #[.int .u64 x12, .int .u64 x13, .slice a14 n15 c16], .int .i64 5])) w11)) (boolV (kind_3 != (97 : Int)) (boolV (kind_3 != (114 : Int)) (Writable w9 ⟨b3, 0, none⟩ 3 ∧ ∀ w17 : World, w17 = World.setCell (World.setCell (World.setCell w9 ⟨b3, 0, none⟩ (.int .u64 0)) ⟨b3, 1, none⟩ (.int .u64 0)) ⟨b3, 2, none⟩ (.slice none 0 0) → ∃ x18 : Int, ∃ x19 : Int, ∃ (a20 : Option Addr) (n21 c22 : Nat), (w17.cell? ⟨b3, 0, none⟩ = some (.int .u64 x18) ∧ w17.cell? ⟨b3, 1, none⟩ = some (.int .u64 x19) ∧ w17.cell? ⟨b3, 2, none⟩ = some (.slice a20 n21 c22)) ∧ (R (.returned (.tuple #[.agg #[.int .u64 x18, .int .u64 x19, .slice a20 n21 c22], .int .i64 1])) w17)) (∃ S23 : World → Prop, (∀ w24 : World, w24.heap = w9.heap → w24.tape = w9.tape → w24.os = w9.os → w24.output = w9.output → S23 w24 ∧ (∃ (a25 : Option Addr) (n26 c27 : Nat), (∀ w, S23 w → w.cell? ⟨b1, 2, none⟩ = some (.slice a25 n26 c27)) ∧ (someV a25 (fun p28 => (0 ≤ x10 ∧ x10 < (n26 : Nat)) ∧ (∃ s29 : ByteArray, ∃ x30 : Int, ∃ x31 : Int, ∃ (a32 : Option Addr) (n33 c34 : Nat), ∃ x35 : Int, ∃ x36 : Int, ∃ x37 : Int, (∀ w, S23 w → w.cell? (p28.add (x10.toNat * 7)) = some (.string s29) ∧ w.cell? ((p28.add (x10.toNat * 7)).add 1) = some (.int .u64 x30) ∧ w.cell? ((p28.add (x10.toNat * 7)).add 2) = some (.int .u64 x31) ∧ w.cell? ((p28.add (x10.toNat * 7)).add 3) = some (.slice a32 n33 c34) ∧ w.cell? ((p28.add (x10.toNat * 7)).add 4) = some (.int .u64 x35) ∧ w.cell? ((p28.add (x10.toNat * 7)).add 5) = some (.int .u64 x36) ∧ w.cell? ((p28.add (x10.toNat * 7)).add 6) = some (.int .u64 x37)) ∧ (∃ x38 : Int, (∀ w, S23 w → w.cell? ⟨b1, 1, none⟩ = some (.int .u64 x38)) ∧ (Calls Tryz.prog 55 #[.agg #[.string s29, .int .u64 x30, .int .u64 x31, .slice a32 n33 c34, .int .u64 x35, .int .u64 x36, .int .u64 x37], .int .u64 seq_2, .int .u64 x38] w24 (fun e39 w40 => ∃ t41 : Bool, e39 = .returned (.bool t41) ∧ (S23 w40 ∧ (boolV (!t41) (Writable w40 ⟨b3, 0, none⟩ 3 ∧ ∀ w42 : World, w42 = World.setCell (World.setCell (World.setCell w40 ⟨b3, 0, none⟩ (.int .u64 0)) ⟨b3, 1, none⟩ (.int .u64 0)) ⟨b3, 2, none⟩ (.slice none 0 0) → ∃ x43 : Int, ∃ x44 : Int, ∃ (a45 : Option Addr) (n46 c47 : Nat), (w42.cell? ⟨b3, 0, none⟩ = some (.int .u64 x43) ∧ w42.cell? ⟨b3, 1, none⟩ = some (.int .u64 x44) ∧ w42.cell? ⟨b3, 2, none⟩ = some (.slice a45 n46 c47)) ∧ (R (.returned (.tuple #[.agg #[.int .u64 x43, .int .u64 x44, .slice a45 n46 c47], .int .i64 13])) w42)) (∃ (a48 : Option Addr) (n49 c50 : Nat), w40.cell? ⟨b1, 2, none⟩ = some (.slice a48 n49 c50) ∧ (Calls Tryz.prog 35 #[.slice a48 n49 c50] w40 (fun e51 w52 => ∃ (a53 : Option Addr) (n54 c55 : Nat), e51 = .returned (.slice a53 n54 c55) ∧ (Writable w52 ⟨b1, 2, none⟩ 1 ∧ ∀ w56 : World, w56 = World.setCell w52 ⟨b1, 2, none⟩ (.slice a53 n54 c55) → ∃ S57 : World → Prop, (∀ w58 : World, w58.heap = w56.heap → w58.tape = w56.tape → w58.os = w56.os → w58.output = w56.output → S57 w58 ∧ (∃ (a59 : Option Addr) (n60 c61 : Nat), (∀ w, S57 w → w.cell? ⟨b1, 2, none⟩ = some (.slice a59 n60 c61)) ∧ (someV a59 (fun p62 => (0 ≤ x10 ∧ x10 < (n60 : Nat)) ∧ (∃ s63 : ByteArray, ∃ x64 : Int, ∃ x65 : Int, ∃ (a66 : Option Addr) (n67 c68 : Nat), ∃ x69 : Int, ∃ x70 : Int, ∃ x71 : Int, (∀ w, S57 w → w.cell? (p62.add (x10.toNat * 7)) = some (.string s63) ∧ w.cell? ((p62.add (x10.toNat * 7)).add 1) = some (.int .u64 x64) ∧ w.cell? ((p62.add (x10.toNat * 7)).add 2) = some (.int .u64 x65) ∧ w.cell? ((p62.add (x10.toNat * 7)).add 3) = some (.slice a66 n67 c68) ∧ w.cell? ((p62.add (x10.toNat * 7)).add 4) = some (.int .u64 x69) ∧ w.cell? ((p62.add (x10.toNat * 7)).add 5) = some (.int .u64 x70) ∧ w.cell? ((p62.add (x10.toNat * 7)).add 6) = some (.int .u64 x71)) ∧ (∃ x72 : Int, (∀ w, S57 w → w.cell? ⟨b1, 1, none⟩ = some (.int .u64 x72)) ∧ ((Calls Tryz.prog 108 #[.agg #[.string s63, .int .u64 x64, .int .u64 x65, .slice a66 n67 c68, .int .u64 x69, .int .u64 x70, .int .u64 x71], .int .u64 seq_2, .int .u64 (IntKind.wrap .u64 (seq_2 + 1)), .int .u64 x72] w58 (fun e73 w74 => ∃ s75 : ByteArray, ∃ x76 : Int, ∃ x77 : Int, ∃ (a78 : Option Addr) (n79 c80 : Nat), ∃ x81 : Int, ∃ x82 : Int, ∃ x83 : Int, ∃ x84 : Int, e73 = .returned (.tuple #[.agg #[.string s75, .int .u64 x76, .int .u64 x77, .slice a78 n79 c80, .int .u64 x81, .int .u64 x82, .int .u64 x83], .int .u64 x84]) ∧ (S57 w74 ∧ (∀ (b85 : Nat) (w86 : World), b85 = w74.heap.size → w86 = World.alloc w74 (.cells #[.string ByteArray.empty, .int .u64 0, .int .u64 0, .slice none 0 0, .int .u64 0, .int .u64 0, .int .u64 0] 63) → S57 w86 ∧ (Writable w86 ⟨b85, 0, none⟩ 7 ∧ ∀ w87 : World, w87 = World.setCell (World.setCell (World.setCell (World.setCell (World.setCell (World.setCell (World.setCell w86 ⟨b85, 0, none⟩ (.string s75)) ⟨b85, 1, none⟩ (.int .u64 x76)) ⟨b85, 2, none⟩ (.int .u64 x77)) ⟨b85, 3, none⟩ (.slice a78 n79 c80)) ⟨b85, 4, none⟩ (.int .u64 x81)) ⟨b85, 5, none⟩ (.int .u64 x82)) ⟨b85, 6, none⟩ (.int .u64 x83) → S57 w87 ∧ (boolV (kind_3 == (97 : Int)) (∃ x88 : Int, w87.cell? ⟨b85, 4, none⟩ = some (.int .u64 x88) ∧ (Writable w87 ⟨b85, 4, none⟩ 1 ∧ ∀ w89 : World, w89 = World.setCell w87 ⟨b85, 4, none⟩ (.int .u64 (IntKind.wrap .u64 (x88 + x84))) → ∃ (a90 : Option Addr) (n91 c92 : Nat), w89.cell? ⟨b1, 2, none⟩ = some (.slice a90 n91 c92) ∧ (∃ s93 : ByteArray, ∃ x94 : Int, ∃ x95 : Int, ∃ (a96 : Option Addr) (n97 c98 : Nat), ∃ x99 : Int, ∃ x100 : Int, ∃ x101 : Int, (w89.cell? ⟨b85, 0, none⟩ = some (.string s93) ∧ w89.cell? ⟨b85, 1, none⟩ = some (.int .u64 x94) ∧ w89.cell? ⟨b85, 2, none⟩ = some (.int .u64 x95) ∧ w89.cell? ⟨b85, 3, none⟩ = some (.slice a96 n97 c98) ∧ w89.cell? ⟨b85, 4, none⟩ = some (.int .u64 x99) ∧ w89.cell? ⟨b85, 5, none⟩ = some (.int .u64 x100) ∧ w89.cell? ⟨b85, 6, none⟩ = some (.int .u64 x101)) ∧ (someV a90 (fun p102 => (0 ≤ x10 ∧ x10 < (n91 : Nat)) ∧ (Writable w89 (p102.add (x10.toNat * 7)) 7 ∧ ∀ w103 : World, w103 = World.setCell (World.setCell (World.setCell (World.setCell (World.setCell (World.setCell (World.setCell w89 (p102.add (x10.toNat * 7)) (.string s93)) ((p102.add (x10.toNat * 7)).add 1) (.int .u64 x94)) ((p102.add (x10.toNat * 7)).add 2) (.int .u64 x95)) ((p102.add (x10.toNat * 7)).add 3) (.slice a96 n97 c98)) ((p102.add (x10.toNat * 7)).add 4) (.int .u64 x99)) ((p102.add (x10.toNat * 7)).add 5) (.int .u64 x100)) ((p102.add (x10.toNat * 7)).add 6) (.int .u64 x101) → ∃ x104 : Int, ∃ x105 : Int, ∃ (a106 : Option Addr) (n107 c108 : Nat), (w103.cell? ⟨b1, 0, none⟩ = some (.int .u64 x104) ∧ w103.cell? ⟨b1, 1, none⟩ = some (.int .u64 x105) ∧ w103.cell? ⟨b1, 2, none⟩ = some (.slice a106 n107 c108)) ∧ (Writable w103 ⟨b3, 0, none⟩ 3 ∧ ∀ w109 : World, w109 = World.setCell (World.setCell (World.setCell w103 ⟨b3, 0, none⟩ (.int .u64 x104)) ⟨b3, 1, none⟩ (.int .u64 x105)) ⟨b3, 2, none⟩ (.slice a106 n107 c108) → ∃ x110 : Int, ∃ x111 : Int, ∃ (a112 : Option Addr) (n113 c114 : Nat), (w109.cell? ⟨b3, 0, none⟩ = some (.int .u64 x110) ∧ w109.cell? ⟨b3, 1, none⟩ = some (.int .u64 x111) ∧ w109.cell? ⟨b3, 2, none⟩ = some (.slice a112 n113 c114)) ∧ (R (.returned (.tuple #[.agg #[.int .u64 x110, .int .u64 x111, .slice a112 n113 c114], .int .i64 0])) w109)))))))) (∃ x115 : Int, w87.cell? ⟨b85, 6, none⟩ = some (.int .u64 x115) ∧ (Writable w87 ⟨b85, 6, none⟩ 1 ∧ ∀ w116 : World, w116 = World.setCell w87 ⟨b85, 6, none⟩ (.int .u64 (IntKind.wrap .u64 (x115 + x84))) → ∃ (a117 : Option Addr) (n118 c119 : Nat), w116.cell? ⟨b1, 2, none⟩ = some (.slice a117 n118 c119) ∧ (∃ s120 : ByteArray, ∃ x121 : Int, ∃ x122 : Int, ∃ (a123 : Option Addr) (n124 c125 : Nat), ∃ x126 : Int, ∃ x127 : Int, ∃ x128 : Int, (w116.cell? ⟨b85, 0, none⟩ = some (.string s120) ∧ w116.cell? ⟨b85, 1, none⟩ = some (.int .u64 x121) ∧ w116.cell? ⟨b85, 2, none⟩ = some (.int .u64 x122) ∧ w116.cell? ⟨b85, 3, none⟩ = some (.slice a123 n124 c125) ∧ w116.cell? ⟨b85, 4, none⟩ = some (.int .u64 x126) ∧ w116.cell? ⟨b85, 5, none⟩ = some (.int .u64 x127) ∧ w116.cell? ⟨b85, 6, none⟩ = some (.int .u64 x128)) ∧ (someV a117 (fun p129 => (0 ≤ x10 ∧ x10 < (n118 : Nat)) ∧ (Writable w116 (p129.add (x10.toNat * 7)) 7 ∧ ∀ w130 : World, w130 = World.setCell (World.setCell (World.setCell (World.setCell (World.setCell (World.setCell (World.setCell w116 (p129.add (x10.toNat * 7)) (.string s120)) ((p129.add (x10.toNat * 7)).add 1) (.int .u64 x121)) ((p129.add (x10.toNat * 7)).add 2) (.int .u64 x122)) ((p129.add (x10.toNat * 7)).add 3) (.slice a123 n124 c125)) ((p129.add (x10.toNat * 7)).add 4) (.int .u64 x126)) ((p129.add (x10.toNat * 7)).add 5) (.int .u64 x127)) ((p129.add (x10.toNat * 7)).add 6) (.int .u64 x128) → ∃ x131 : Int, ∃ x132 : Int, ∃ (a133 : Option Addr) (n134 c135 : Nat), (w130.cell? ⟨b1, 0, none⟩ = some (.int .u64 x131) ∧ w130.cell? ⟨b1, 1, none⟩ = some (.int .u64 x132) ∧ w130.cell? ⟨b1, 2, none⟩ = some (.slice a133 n134 c135)) ∧ (Writable w130 ⟨b3, 0, none⟩ 3 ∧ ∀ w136 : World, w136 = World.setCell (World.setCell (World.setCell w130 ⟨b3, 0, none⟩ (.int .u64 x131)) ⟨b3, 1, none⟩ (.int .u64 x132)) ⟨b3, 2, none⟩ (.slice a133 n134 c135) → ∃ x137 : Int, ∃ x138 : Int, ∃ (a139 : Option Addr) (n140 c141 : Nat), (w136.cell? ⟨b3, 0, none⟩ = some (.int .u64 x137) ∧ w136.cell? ⟨b3, 1, none⟩ = some (.int .u64 x138) ∧ w136.cell? ⟨b3, 2, none⟩ = some (.slice a139 n140 c141)) ∧ (R (.returned (.tuple #[.agg #[.int .u64 x137, .int .u64 x138, .slice a139 n140 c141], .int .i64 0])) w136)))))))))))))) ∧ (∀ (b142 : Nat) (w143 : World), b142 = w58.heap.size → w143 = World.alloc w58 (.cells #[.string ByteArray.empty, .int .u64 0, .int .u64 0, .slice none 0 0, .int .u64 0, .int .u64 0, .int .u64 0] 63) → S57 w143 ∧ (Calls Tryz.prog 108 #[.agg #[.string s63, .int .u64 x64, .int .u64 x65, .slice a66 n67 c68, .int .u64 x69, .int .u64 x70, .int .u64 x71], .int .u64 seq_2, .int .u64 (IntKind.wrap .u64 (seq_2 + 1)), .int .u64 x72] w143 (fun e144 w145 => ∃ s146 : ByteArray, ∃ x147 : Int, ∃ x148 : Int, ∃ (a149 : Option Addr) (n150 c151 : Nat), ∃ x152 : Int, ∃ x153 : Int, ∃ x154 : Int, ∃ x155 : Int, e144 = .returned (.tuple #[.agg #[.string s146, .int .u64 x147, .int .u64 x148, .slice a149 n150 c151, .int .u64 x152, .int .u64 x153, .int .u64 x154], .int .u64 x155]) ∧ (S57 w145 ∧ (Writable w145 ⟨b142, 0, none⟩ 7 ∧ ∀ w156 : World, w156 = World.setCell (World.setCell (World.setCell (World.setCell (World.setCell (World.setCell (World.setCell w145 ⟨b142, 0, none⟩ (.string s146)) ⟨b142, 1, none⟩ (.int .u64 x147)) ⟨b142, 2, none⟩ (.int .u64 x148)) ⟨b142, 3, none⟩ (.slice a149 n150 c151)) ⟨b142, 4, none⟩ (.int .u64 x152)) ⟨b142, 5, none⟩ (.int .u64 x153)) ⟨b142, 6, none⟩ (.int .u64 x154) → S57 w156 ∧ (boolV (kind_3 == (97 : Int)) (∃ x157 : Int, w156.cell? ⟨b142, 4, none⟩ = some (.int .u64 x157) ∧ (Writable w156 ⟨b142, 4, none⟩ 1 ∧ ∀ w158 : World, w158 = World.setCell w156 ⟨b142, 4, none⟩ (.int .u64 (IntKind.wrap .u64 (x157 + x155))) → ∃ (a159 : Option Addr) (n160 c161 : Nat), w158.cell? ⟨b1, 2, none⟩ = some (.slice a159 n160 c161) ∧ (∃ s162 : ByteArray, ∃ x163 : Int, ∃ x164 : Int, ∃ (a165 : Option Addr) (n166 c167 : Nat), ∃ x168 : Int, ∃ x169 : Int, ∃ x170 : Int, (w158.cell? ⟨b142, 0, none⟩ = some (.string s162) ∧ w158.cell? ⟨b142, 1, none⟩ = some (.int .u64 x163) ∧ w158.cell? ⟨b142, 2, none⟩ = some (.int .u64 x164) ∧ w158.cell? ⟨b142, 3, none⟩ = some (.slice a165 n166 c167) ∧ w158.cell? ⟨b142, 4, none⟩ = some (.int .u64 x168) ∧ w158.cell? ⟨b142, 5, none⟩ = some (.int .u64 x169) ∧ w158.cell? ⟨b142, 6, none⟩ = some (.int .u64 x170)) ∧ (someV a159 (fun p171 => (0 ≤ x10 ∧ x10 < (n160 : Nat)) ∧ (Writable w158 (p171.add (x10.toNat * 7)) 7 ∧ ∀ w172 : World, w172 = World.setCell (World.setCell (World.setCell (World.setCell (World.setCell (World.setCell (World.setCell w158 (p171.add (x10.toNat * 7)) (.string s162)) ((p171.add (x10.toNat * 7)).add 1) (.int .u64 x163)) ((p171.add (x10.toNat * 7)).add 2) (.int .u64 x164)) ((p171.add (x10.toNat * 7)).add 3) (.slice a165 n166 c167)) ((p171.add (x10.toNat * 7)).add 4) (.int .u64 x168)) ((p171.add (x10.toNat * 7)).add 5) (.int .u64 x169)) ((p171.add (x10.toNat * 7)).add 6) (.int .u64 x170) → ∃ x173 : Int, ∃ x174 : Int, ∃ (a175 : Option Addr) (n176 c177 : Nat), (w172.cell? ⟨b1, 0, none⟩ = some (.int .u64 x173) ∧ w172.cell? ⟨b1, 1, none⟩ = some (.int .u64 x174) ∧ w172.cell? ⟨b1, 2, none⟩ = some (.slice a175 n176 c177)) ∧ (Writable w172 ⟨b3, 0, none⟩ 3 ∧ ∀ w178 : World, w178 = World.setCell (World.setCell (World.setCell w172 ⟨b3, 0, none⟩ (.int .u64 x173)) ⟨b3, 1, none⟩ (.int .u64 x174)) ⟨b3, 2, none⟩ (.slice a175 n176 c177) → ∃ x179 : Int, ∃ x180 : Int, ∃ (a181 : Option Addr) (n182 c183 : Nat), (w178.cell? ⟨b3, 0, none⟩ = some (.int .u64 x179) ∧ w178.cell? ⟨b3, 1, none⟩ = some (.int .u64 x180) ∧ w178.cell? ⟨b3, 2, none⟩ = some (.slice a181 n182 c183)) ∧ (R (.returned (.tuple #[.agg #[.int .u64 x179, .int .u64 x180, .slice a181 n182 c183], .int .i64 0])) w178)))))))) (∃ x184 : Int, w156.cell? ⟨b142, 6, none⟩ = some (.int .u64 x184) ∧ (Writable w156 ⟨b142, 6, none⟩ 1 ∧ ∀ w185 : World, w185 = World.setCell w156 ⟨b142, 6, none⟩ (.int .u64 (IntKind.wrap .u64 (x184 + x155))) → ∃ (a186 : Option Addr) (n187 c188 : Nat), w185.cell? ⟨b1, 2, none⟩ = some (.slice a186 n187 c188) ∧ (∃ s189 : ByteArray, ∃ x190 : Int, ∃ x191 : Int, ∃ (a192 : Option Addr) (n193 c194 : Nat), ∃ x195 : Int, ∃ x196 : Int, ∃ x197 : Int, (w185.cell? ⟨b142, 0, none⟩ = some (.string s189) ∧ w185.cell? ⟨b142, 1, none⟩ = some (.int .u64 x190) ∧ w185.cell? ⟨b142, 2, none⟩ = some (.int .u64 x191) ∧ w185.cell? ⟨b142, 3, none⟩ = some (.slice a192 n193 c194) ∧ w185.cell? ⟨b142, 4, none⟩ = some (.int .u64 x195) ∧ w185.cell? ⟨b142, 5, none⟩ = some (.int .u64 x196) ∧ w185.cell? ⟨b142, 6, none⟩ = some (.int .u64 x197)) ∧ (someV a186 (fun p198 => (0 ≤ x10 ∧ x10 < (n187 : Nat)) ∧ (Writable w185 (p198.add (x10.toNat * 7)) 7 ∧ ∀ w199 : World, w199 = World.setCell (World.setCell (World.setCell (World.setCell (World.setCell (World.setCell (World.setCell w185 (p198.add (x10.toNat * 7)) (.string s189)) ((p198.add (x10.toNat * 7)).add 1) (.int .u64 x190)) ((p198.add (x10.toNat * 7)).add 2) (.int .u64 x191)) ((p198.add (x10.toNat * 7)).add 3) (.slice a192 n193 c194)) ((p198.add (x10.toNat * 7)).add 4) (.int .u64 x195)) ((p198.add (x10.toNat * 7)).add 5) (.int .u64 x196)) ((p198.add (x10.toNat * 7)).add 6) (.int .u64 x197) → ∃ x200 : Int, ∃ x201 : Int, ∃ (a202 : Option Addr) (n203 c204 : Nat), (w199.cell? ⟨b1, 0, none⟩ = some (.int .u64 x200) ∧ w199.cell? ⟨b1, 1, none⟩ = some (.int .u64 x201) ∧ w199.cell? ⟨b1, 2, none⟩ = some (.slice a202 n203 c204)) ∧ (Writable w199 ⟨b3, 0, none⟩ 3 ∧ ∀ w205 : World, w205 = World.setCell (World.setCell (World.setCell w199 ⟨b3, 0, none⟩ (.int .u64 x200)) ⟨b3, 1, none⟩ (.int .u64 x201)) ⟨b3, 2, none⟩ (.slice a202 n203 c204) → ∃ x206 : Int, ∃ x207 : Int, ∃ (a208 : Option Addr) (n209 c210 : Nat), (w205.cell? ⟨b3, 0, none⟩ = some (.int .u64 x206) ∧ w205.cell? ⟨b3, 1, none⟩ = some (.int .u64 x207) ∧ w205.cell? ⟨b3, 2, none⟩ = some (.slice a208 n209 c210)) ∧ (R (.returned (.tuple #[.agg #[.int .u64 x206, .int .u64 x207, .slice a208 n209 c210], .int .i64 0])) w205))))))))))))))))))))))))))))))))))))) (∃ S211 : World → Prop, (∀ w212 : World, w212.heap = w9.heap → w212.tape = w9.tape → w212.os = w9.os → w212.output = w9.output → S211 w212 ∧ (∃ (a213 : Option Addr) (n214 c215 : Nat), (∀ w, S211 w → w.cell? ⟨b1, 2, none⟩ = some (.slice a213 n214 c215)) ∧ (someV a213 (fun p216 => (0 ≤ x10 ∧ x10 < (n214 : Nat)) ∧ (∃ s217 : ByteArray, ∃ x218 : Int, ∃ x219 : Int, ∃ (a220 : Option Addr) (n221 c222 : Nat), ∃ x223 : Int, ∃ x224 : Int, ∃ x225 : Int, (∀ w, S211 w → w.cell? (p216.add (x10.toNat * 7)) = some (.string s217) ∧ w.cell? ((p216.add (x10.toNat * 7)).add 1) = some (.int .u64 x218) ∧ w.cell? ((p216.add (x10.toNat * 7)).add 2) = some (.int .u64 x219) ∧ w.cell? ((p216.add (x10.toNat * 7)).add 3) = some (.slice a220 n221 c222) ∧ w.cell? ((p216.add (x10.toNat * 7)).add 4) = some (.int .u64 x223) ∧ w.cell? ((p216.add (x10.toNat * 7)).add 5) = some (.int .u64 x224) ∧ w.cell? ((p216.add (x10.toNat * 7)).add 6) = some (.int .u64 x225)) ∧ (∃ x226 : Int, (∀ w, S211 w → w.cell? ⟨b1, 1, none⟩ = some (.int .u64 x226)) ∧ (Calls Tryz.prog 55 #[.agg #[.string s217, .int .u64 x218, .int .u64 x219, .slice a220 n221 c222, .int .u64 x223, .int .u64 x224, .int .u64 x225], .int .u64 seq_2, .int .u64 x226] w212 (fun e227 w228 => ∃ t229 : Bool, e227 = .returned (.bool t229) ∧ (S211 w228 ∧ (boolV (!t229) (Writable w228 ⟨b3, 0, none⟩ 3 ∧ ∀ w230 : World, w230 = World.setCell (World.setCell (World.setCell w228 ⟨b3, 0, none⟩ (.int .u64 0)) ⟨b3, 1, none⟩ (.int .u64 0)) ⟨b3, 2, none⟩ (.slice none 0 0) → ∃ x231 : Int, ∃ x232 : Int, ∃ (a233 : Option Addr) (n234 c235 : Nat), (w230.cell? ⟨b3, 0, none⟩ = some (.int .u64 x231) ∧ w230.cell? ⟨b3, 1, none⟩ = some (.int .u64 x232) ∧ w230.cell? ⟨b3, 2, none⟩ = some (.slice a233 n234 c235)) ∧ (R (.returned (.tuple #[.agg #[.int .u64 x231, .int .u64 x232, .slice a233 n234 c235], .int .i64 13])) w230)) (∃ (a236 : Option Addr) (n237 c238 : Nat), w228.cell? ⟨b1, 2, none⟩ = some (.slice a236 n237 c238) ∧ (Calls Tryz.prog 35 #[.slice a236 n237 c238] w228 (fun e239 w240 => ∃ (a241 : Option Addr) (n242 c243 : Nat), e239 = .returned (.slice a241 n242 c243) ∧ (Writable w240 ⟨b1, 2, none⟩ 1 ∧ ∀ w244 : World, w244 = World.setCell w240 ⟨b1, 2, none⟩ (.slice a241 n242 c243) → ∃ S245 : World → Prop, (∀ w246 : World, w246.heap = w244.heap → w246.tape = w244.tape → w246.os = w244.os → w246.output = w244.output → S245 w246 ∧ (∃ (a247 : Option Addr) (n248 c249 : Nat), (∀ w, S245 w → w.cell? ⟨b1, 2, none⟩ = some (.slice a247 n248 c249)) ∧ (someV a247 (fun p250 => (0 ≤ x10 ∧ x10 < (n248 : Nat)) ∧ (∃ s251 : ByteArray, ∃ x252 : Int, ∃ x253 : Int, ∃ (a254 : Option Addr) (n255 c256 : Nat), ∃ x257 : Int, ∃ x258 : Int, ∃ x259 : Int, (∀ w, S245 w → w.cell? (p250.add (x10.toNat * 7)) = some (.string s251) ∧ w.cell? ((p250.add (x10.toNat * 7)).add 1) = some (.int .u64 x252) ∧ w.cell? ((p250.add (x10.toNat * 7)).add 2) = some (.int .u64 x253) ∧ w.cell? ((p250.add (x10.toNat * 7)).add 3) = some (.slice a254 n255 c256) ∧ w.cell? ((p250.add (x10.toNat * 7)).add 4) = some (.int .u64 x257) ∧ w.cell? ((p250.add (x10.toNat * 7)).add 5) = some (.int .u64 x258) ∧ w.cell? ((p250.add (x10.toNat * 7)).add 6) = some (.int .u64 x259)) ∧ (∃ x260 : Int, (∀ w, S245 w → w.cell? ⟨b1, 1, none⟩ = some (.int .u64 x260)) ∧ ((Calls Tryz.prog 108 #[.agg #[.string s251, .int .u64 x252, .int .u64 x253, .slice a254 n255 c256, .int .u64 x257, .int .u64 x258, .int .u64 x259], .int .u64 seq_2, .int .u64 (IntKind.wrap .u64 (seq_2 + 1)), .int .u64 x260] w246 (fun e261 w262 => ∃ s263 : ByteArray, ∃ x264 : Int, ∃ x265 : Int, ∃ (a266 : Option Addr) (n267 c268 : Nat), ∃ x269 : Int, ∃ x270 : Int, ∃ x271 : Int, ∃ x272 : Int, e261 = .returned (.tuple #[.agg #[.string s263, .int .u64 x264, .int .u64 x265, .slice a266 n267 c268, .int .u64 x269, .int .u64 x270, .int .u64 x271], .int .u64 x272]) ∧ (S245 w262 ∧ (∀ (b273 : Nat) (w274 : World), b273 = w262.heap.size → w274 = World.alloc w262 (.cells #[.string ByteArray.empty, .int .u64 0, .int .u64 0, .slice none 0 0, .int .u64 0, .int .u64 0, .int .u64 0] 63) → S245 w274 ∧ (Writable w274 ⟨b273, 0, none⟩ 7 ∧ ∀ w275 : World, w275 = World.setCell (World.setCell (World.setCell (World.setCell (World.setCell (World.setCell (World.setCell w274 ⟨b273, 0, none⟩ (.string s263)) ⟨b273, 1, none⟩ (.int .u64 x264)) ⟨b273, 2, none⟩ (.int .u64 x265)) ⟨b273, 3, none⟩ (.slice a266 n267 c268)) ⟨b273, 4, none⟩ (.int .u64 x269)) ⟨b273, 5, none⟩ (.int .u64 x270)) ⟨b273, 6, none⟩ (.int .u64 x271) → S245 w275 ∧ (boolV (kind_3 == (97 : Int)) (∃ x276 : Int, w275.cell? ⟨b273, 4, none⟩ = some (.int .u64 x276) ∧ (Writable w275 ⟨b273, 4, none⟩ 1 ∧ ∀ w277 : World, w277 = World.setCell w275 ⟨b273, 4, none⟩ (.int .u64 (IntKind.wrap .u64 (x276 + x272))) → ∃ (a278 : Option Addr) (n279 c280 : Nat), w277.cell? ⟨b1, 2, none⟩ = some (.slice a278 n279 c280) ∧ (∃ s281 : ByteArray, ∃ x282 : Int, ∃ x283 : Int, ∃ (a284 : Option Addr) (n285 c286 : Nat), ∃ x287 : Int, ∃ x288 : Int, ∃ x289 : Int, (w277.cell? ⟨b273, 0, none⟩ = some (.string s281) ∧ w277.cell? ⟨b273, 1, none⟩ = some (.int .u64 x282) ∧ w277.cell? ⟨b273, 2, none⟩ = some (.int .u64 x283) ∧ w277.cell? ⟨b273, 3, none⟩ = some (.slice a284 n285 c286) ∧ w277.cell? ⟨b273, 4, none⟩ = some (.int .u64 x287) ∧ w277.cell? ⟨b273, 5, none⟩ = some (.int .u64 x288) ∧ w277.cell? ⟨b273, 6, none⟩ = some (.int .u64 x289)) ∧ (someV a278 (fun p290 => (0 ≤ x10 ∧ x10 < (n279 : Nat)) ∧ (Writable w277 (p290.add (x10.toNat * 7)) 7 ∧ ∀ w291 : World, w291 = World.setCell (World.setCell (World.setCell (World.setCell (World.setCell (World.setCell (World.setCell w277 (p290.add (x10.toNat * 7)) (.string s281)) ((p290.add (x10.toNat * 7)).add 1) (.int .u64 x282)) ((p290.add (x10.toNat * 7)).add 2) (.int .u64 x283)) ((p290.add (x10.toNat * 7)).add 3) (.slice a284 n285 c286)) ((p290.add (x10.toNat * 7)).add 4) (.int .u64 x287)) ((p290.add (x10.toNat * 7)).add 5) (.int .u64 x288)) ((p290.add (x10.toNat * 7)).add 6) (.int .u64 x289) → ∃ x292 : Int, ∃ x293 : Int, ∃ (a294 : Option Addr) (n295 c296 : Nat), (w291.cell? ⟨b1, 0, none⟩ = some (.int .u64 x292) ∧ w291.cell? ⟨b1, 1, none⟩ = some (.int .u64 x293) ∧ w291.cell? ⟨b1, 2, none⟩ = some (.slice a294 n295 c296)) ∧ (Writable w291 ⟨b3, 0, none⟩ 3 ∧ ∀ w297 : World, w297 = World.setCell (World.setCell (World.setCell w291 ⟨b3, 0, none⟩ (.int .u64 x292)) ⟨b3, 1, none⟩ (.int .u64 x293)) ⟨b3, 2, none⟩ (.slice a294 n295 c296) → ∃ x298 : Int, ∃ x299 : Int, ∃ (a300 : Option Addr) (n301 c302 : Nat), (w297.cell? ⟨b3, 0, none⟩ = some (.int .u64 x298) ∧ w297.cell? ⟨b3, 1, none⟩ = some (.int .u64 x299) ∧ w297.cell? ⟨b3, 2, none⟩ = some (.slice a300 n301 c302)) ∧ (R (.returned (.tuple #[.agg #[.int .u64 x298, .int .u64 x299, .slice a300 n301 c302], .int .i64 0])) w297)))))))) (∃ x303 : Int, w275.cell? ⟨b273, 6, none⟩ = some (.int .u64 x303) ∧ (Writable w275 ⟨b273, 6, none⟩ 1 ∧ ∀ w304 : World, w304 = World.setCell w275 ⟨b273, 6, none⟩ (.int .u64 (IntKind.wrap .u64 (x303 + x272))) → ∃ (a305 : Option Addr) (n306 c307 : Nat), w304.cell? ⟨b1, 2, none⟩ = some (.slice a305 n306 c307) ∧ (∃ s308 : ByteArray, ∃ x309 : Int, ∃ x310 : Int, ∃ (a311 : Option Addr) (n312 c313 : Nat), ∃ x314 : Int, ∃ x315 : Int, ∃ x316 : Int, (w304.cell? ⟨b273, 0, none⟩ = some (.string s308) ∧ w304.cell? ⟨b273, 1, none⟩ = some (.int .u64 x309) ∧ w304.cell? ⟨b273, 2, none⟩ = some (.int .u64 x310) ∧ w304.cell? ⟨b273, 3, none⟩ = some (.slice a311 n312 c313) ∧ w304.cell? ⟨b273, 4, none⟩ = some (.int .u64 x314) ∧ w304.cell? ⟨b273, 5, none⟩ = some (.int .u64 x315) ∧ w304.cell? ⟨b273, 6, none⟩ = some (.int .u64 x316)) ∧ (someV a305 (fun p317 => (0 ≤ x10 ∧ x10 < (n306 : Nat)) ∧ (Writable w304 (p317.add (x10.toNat * 7)) 7 ∧ ∀ w318 : World, w318 = World.setCell (World.setCell (World.setCell (World.setCell (World.setCell (World.setCell (World.setCell w304 (p317.add (x10.toNat * 7)) (.string s308)) ((p317.add (x10.toNat * 7)).add 1) (.int .u64 x309)) ((p317.add (x10.toNat * 7)).add 2) (.int .u64 x310)) ((p317.add (x10.toNat * 7)).add 3) (.slice a311 n312 c313)) ((p317.add (x10.toNat * 7)).add 4) (.int .u64 x314)) ((p317.add (x10.toNat * 7)).add 5) (.int .u64 x315)) ((p317.add (x10.toNat * 7)).add 6) (.int .u64 x316) → ∃ x319 : Int, ∃ x320 : Int, ∃ (a321 : Option Addr) (n322 c323 : Nat), (w318.cell? ⟨b1, 0, none⟩ = some (.int .u64 x319) ∧ w318.cell? ⟨b1, 1, none⟩ = some (.int .u64 x320) ∧ w318.cell? ⟨b1, 2, none⟩ = some (.slice a321 n322 c323)) ∧ (Writable w318 ⟨b3, 0, none⟩ 3 ∧ ∀ w324 : World, w324 = World.setCell (World.setCell (World.setCell w318 ⟨b3, 0, none⟩ (.int .u64 x319)) ⟨b3, 1, none⟩ (.int .u64 x320)) ⟨b3, 2, none⟩ (.slice a321 n322 c323) → ∃ x325 : Int, ∃ x326 : Int, ∃ (a327 : Option Addr) (n328 c329 : Nat), (w324.cell? ⟨b3, 0, none⟩ = some (.int .u64 x325) ∧ w324.cell? ⟨b3, 1, none⟩ = some (.int .u64 x326) ∧ w324.cell? ⟨b3, 2, none⟩ = some (.slice a327 n328 c329)) ∧ (R (.returned (.tuple #[.agg #[.int .u64 x325, .int .u64 x326, .slice a327 n328 c329], .int .i64 0])) w324)))))))))))))) ∧ (∀ (b330 : Nat) (w331 : World), b330 = w246.heap.size → w331 = World.alloc w246 (.cells #[.string ByteArray.empty, .int .u64 0, .int .u64 0, .slice none 0 0, .int .u64 0, .int .u64 0, .int .u64 0] 63) → S245 w331 ∧ (Calls Tryz.prog 108 #[.agg #[.string s251, .int .u64 x252, .int .u64 x253, .slice a254 n255 c256, .int .u64 x257, .int .u64 x258, .int .u64 x259], .int .u64 seq_2, .int .u64 (IntKind.wrap .u64 (seq_2 + 1)), .int .u64 x260] w331 (fun e332 w333 => ∃ s334 : ByteArray, ∃ x335 : Int, ∃ x336 : Int, ∃ (a337 : Option Addr) (n338 c339 : Nat), ∃ x340 : Int, ∃ x341 : Int, ∃ x342 : Int, ∃ x343 : Int, e332 = .returned (.tuple #[.agg #[.string s334, .int .u64 x335, .int .u64 x336, .slice a337 n338 c339, .int .u64 x340, .int .u64 x341, .int .u64 x342], .int .u64 x343]) ∧ (S245 w333 ∧ (Writable w333 ⟨b330, 0, none⟩ 7 ∧ ∀ w344 : World, w344 = World.setCell (World.setCell (World.setCell (World.setCell (World.setCell (World.setCell (World.setCell w333 ⟨b330, 0, none⟩ (.string s334)) ⟨b330, 1, none⟩ (.int .u64 x335)) ⟨b330, 2, none⟩ (.int .u64 x336)) ⟨b330, 3, none⟩ (.slice a337 n338 c339)) ⟨b330, 4, none⟩ (.int .u64 x340)) ⟨b330, 5, none⟩ (.int .u64 x341)) ⟨b330, 6, none⟩ (.int .u64 x342) → S245 w344 ∧ (boolV (kind_3 == (97 : Int)) (∃ x345 : Int, w344.cell? ⟨b330, 4, none⟩ = some (.int .u64 x345) ∧ (Writable w344 ⟨b330, 4, none⟩ 1 ∧ ∀ w346 : World, w346 = World.setCell w344 ⟨b330, 4, none⟩ (.int .u64 (IntKind.wrap .u64 (x345 + x343))) → ∃ (a347 : Option Addr) (n348 c349 : Nat), w346.cell? ⟨b1, 2, none⟩ = some (.slice a347 n348 c349) ∧ (∃ s350 : ByteArray, ∃ x351 : Int, ∃ x352 : Int, ∃ (a353 : Option Addr) (n354 c355 : Nat), ∃ x356 : Int, ∃ x357 : Int, ∃ x358 : Int, (w346.cell? ⟨b330, 0, none⟩ = some (.string s350) ∧ w346.cell? ⟨b330, 1, none⟩ = some (.int .u64 x351) ∧ w346.cell? ⟨b330, 2, none⟩ = some (.int .u64 x352) ∧ w346.cell? ⟨b330, 3, none⟩ = some (.slice a353 n354 c355) ∧ w346.cell? ⟨b330, 4, none⟩ = some (.int .u64 x356) ∧ w346.cell? ⟨b330, 5, none⟩ = some (.int .u64 x357) ∧ w346.cell? ⟨b330, 6, none⟩ = some (.int .u64 x358)) ∧ (someV a347 (fun p359 => (0 ≤ x10 ∧ x10 < (n348 : Nat)) ∧ (Writable w346 (p359.add (x10.toNat * 7)) 7 ∧ ∀ w360 : World, w360 = World.setCell (World.setCell (World.setCell (World.setCell (World.setCell (World.setCell (World.setCell w346 (p359.add (x10.toNat * 7)) (.string s350)) ((p359.add (x10.toNat * 7)).add 1) (.int .u64 x351)) ((p359.add (x10.toNat * 7)).add 2) (.int .u64 x352)) ((p359.add (x10.toNat * 7)).add 3) (.slice a353 n354 c355)) ((p359.add (x10.toNat * 7)).add 4) (.int .u64 x356)) ((p359.add (x10.toNat * 7)).add 5) (.int .u64 x357)) ((p359.add (x10.toNat * 7)).add 6) (.int .u64 x358) → ∃ x361 : Int, ∃ x362 : Int, ∃ (a363 : Option Addr) (n364 c365 : Nat), (w360.cell? ⟨b1, 0, none⟩ = some (.int .u64 x361) ∧ w360.cell? ⟨b1, 1, none⟩ = some (.int .u64 x362) ∧ w360.cell? ⟨b1, 2, none⟩ = some (.slice a363 n364 c365)) ∧ (Writable w360 ⟨b3, 0, none⟩ 3 ∧ ∀ w366 : World, w366 = World.setCell (World.setCell (World.setCell w360 ⟨b3, 0, none⟩ (.int .u64 x361)) ⟨b3, 1, none⟩ (.int .u64 x362)) ⟨b3, 2, none⟩ (.slice a363 n364 c365) → ∃ x367 : Int, ∃ x368 : Int, ∃ (a369 : Option Addr) (n370 c371 : Nat), (w366.cell? ⟨b3, 0, none⟩ = some (.int .u64 x367) ∧ w366.cell? ⟨b3, 1, none⟩ = some (.int .u64 x368) ∧ w366.cell? ⟨b3, 2, none⟩ = some (.slice a369 n370 c371)) ∧ (R (.returned (.tuple #[.agg #[.int .u64 x367, .int .u64 x368, .slice a369 n370 c371], .int .i64 0])) w366)))))))) (∃ x372 : Int, w344.cell? ⟨b330, 6, none⟩ = some (.int .u64 x372) ∧ (Writable w344 ⟨b330, 6, none⟩ 1 ∧ ∀ w373 : World, w373 = World.setCell w344 ⟨b330, 6, none⟩ (.int .u64 (IntKind.wrap .u64 (x372 + x343))) → ∃ (a374 : Option Addr) (n375 c376 : Nat), w373.cell? ⟨b1, 2, none⟩ = some (.slice a374 n375 c376) ∧ (∃ s377 : ByteArray, ∃ x378 : Int, ∃ x379 : Int, ∃ (a380 : Option Addr) (n381 c382 : Nat), ∃ x383 : Int, ∃ x384 : Int, ∃ x385 : Int, (w373.cell? ⟨b330, 0, none⟩ = some (.string s377) ∧ w373.cell? ⟨b330, 1, none⟩ = some (.int .u64 x378) ∧ w373.cell? ⟨b330, 2, none⟩ = some (.int .u64 x379) ∧ w373.cell? ⟨b330, 3, none⟩ = some (.slice a380 n381 c382) ∧ w373.cell? ⟨b330, 4, none⟩ = some (.int .u64 x383) ∧ w373.cell? ⟨b330, 5, none⟩ = some (.int .u64 x384) ∧ w373.cell? ⟨b330, 6, none⟩ = some (.int .u64 x385)) ∧ (someV a374 (fun p386 => (0 ≤ x10 ∧ x10 < (n375 : Nat)) ∧ (Writable w373 (p386.add (x10.toNat * 7)) 7 ∧ ∀ w387 : World, w387 = World.setCell (World.setCell (World.setCell (World.setCell (World.setCell (World.setCell (World.setCell w373 (p386.add (x10.toNat * 7)) (.string s377)) ((p386.add (x10.toNat * 7)).add 1) (.int .u64 x378)) ((p386.add (x10.toNat * 7)).add 2) (.int .u64 x379)) ((p386.add (x10.toNat * 7)).add 3) (.slice a380 n381 c382)) ((p386.add (x10.toNat * 7)).add 4) (.int .u64 x383)) ((p386.add (x10.toNat * 7)).add 5) (.int .u64 x384)) ((p386.add (x10.toNat * 7)).add 6) (.int .u64 x385) → ∃ x388 : Int, ∃ x389 : Int, ∃ (a390 : Option Addr) (n391 c392 : Nat), (w387.cell? ⟨b1, 0, none⟩ = some (.int .u64 x388) ∧ w387.cell? ⟨b1, 1, none⟩ = some (.int .u64 x389) ∧ w387.cell? ⟨b1, 2, none⟩ = some (.slice a390 n391 c392)) ∧ (Writable w387 ⟨b3, 0, none⟩ 3 ∧ ∀ w393 : World, w393 = World.setCell (World.setCell (World.setCell w387 ⟨b3, 0, none⟩ (.int .u64 x388)) ⟨b3, 1, none⟩ (.int .u64 x389)) ⟨b3, 2, none⟩ (.slice a390 n391 c392) → ∃ x394 : Int, ∃ x395 : Int, ∃ (a396 : Option Addr) (n397 c398 : Nat), (w393.cell? ⟨b3, 0, none⟩ = some (.int .u64 x394) ∧ w393.cell? ⟨b3, 1, none⟩ = some (.int .u64 x395) ∧ w393.cell? ⟨b3, 2, none⟩ = some (.slice a396 n397 c398)) ∧ (R (.returned (.tuple #[.agg #[.int .u64 x394, .int .u64 x395, .slice a396 n397 c398], .int .i64 0])) w393))))))))))))))))))))))))))))))))))))))))
def vc (R : Ending → World → Prop) (l_0a : Int) (l_0b : Int) (l_0c : Option Addr) (l_0d : Nat) (l_0e : Nat) (name_1 : ByteArray) (seq_2 : Int) (kind_3 : Int) (w : World) : Prop := t0 R  l_0a l_0b l_0c l_0d l_0e name_1 seq_2 kind_3 w
theorem calls (R : Ending → World → Prop) (l_0a : Int) (l_0b : Int) (l_0c : Option Addr) (l_0d : Nat) (l_0e : Nat) (name_1 : ByteArray) (seq_2 : Int) (kind_3 : Int) (w : World) (h : vc R l_0a l_0b l_0c l_0d l_0e name_1 seq_2 kind_3 w) : Calls Tryz.prog 75 #[.agg #[.int .u64 l_0a, .int .u64 l_0b, .slice l_0c l_0d l_0e], .string name_1, .int .u64 seq_2, .int .u8 kind_3] w R :=
  calls_V Tryz.func75 (Eq.mpr (by kernel_rfl) (h))
end ledger_Done
end Go.Proofs.YtcofknlcdgidpaaGreatDoor
/-! ## Led3 -/
namespace Go.Proofs.YtcofknlcdgidpaaGreatDoor
open Go Go.RowKit Go.Proofs.YtcofknlcdgidpaaGreatDoor.VC
set_option linter.unusedVariables false
set_option maxRecDepth 100000

theorem bsGo_all (l : List Nat) (t : Nat) (h : ∀ x ∈ l, x < t) : ∀ k i j, i ≤ j → j ≤ l.length → j - i ≤ k → bsGo l t k i j = j
  | 0, i, j, hij, hj, hk => by rw [bsGo]; omega
  | k + 1, i, j, hij, hj, hk => by
    rw [bsGo]
    split
    · rename_i hlt
      have hl : (i + j) / 2 < l.length := by omega
      have : l.getD ((i + j) / 2) 0 < t := by
        rw [List.getD_eq_getElem?_getD, List.getElem?_eq_getElem hl]
        exact h _ (List.getElem_mem hl)
      rw [if_pos this]
      exact bsGo_all l t h k _ _ (by omega) hj (by omega)
    · omega
theorem bsI_all {l : List Nat} {t : Nat} (h : ∀ x ∈ l, x < t) : bsI l t = l.length := bsGo_all l t h _ _ _ (by omega) (Nat.le_refl _) (by omega)
theorem sliceAddr_block {g o c k size g' o' : Nat} (h : sliceAddr (some ⟨g, o, none⟩) c k size = some ⟨g', o', none⟩) : g' = g := by
  unfold sliceAddr at h
  split at h
  · cases h; rfl
  · simp only [Option.map_some, Option.some.injEq, Addr_add] at h
    cases h; rfl
def doneD (d : Dest) (to next : Nat) : Dest := { d with low := max d.low (min to next), above := [] }
theorem dest_done0 (x : DestL) (hx : x.d.above = []) (frm to next : Nat) (hf : frm ≤ x.d.low) (hlow : x.d.low < 4294967296) (hto : to < 4294967296) (hnx : next < 4294967296) (w0 : World) :
    Calls Tryz.prog 108 #[x.val, .int .u64 frm, .int .u64 to, .int .u64 next] w0 (fun e w => Below w0.heap.size w0 w ∧ ∃ a c, e = .returned (.tuple #[DestL.val ⟨doneD x.d to next, a, c⟩, .int .u64 ((max x.d.low (min to next) - x.d.low : Nat) : Int)])) := by
  apply ledger_Dest_done.calls
  intro L0 hL
  unfold ledger_Dest_done.t0
  refine allocV (cs := x.cells) ?_
  intro w2 h1 hb2 hs2
  refine allocV (cs := zeroDest.cells) ?_
  intro w4 h3 hb4 hs4
  have hb4' := hb2.trans (hb4.mono hb2.size)
  have h14 := h1.below hb4 h1.lt
  have hx0 : x.cells = [.string (S x.d.name), .int .u64 x.d.since, .int .u64 x.d.low, .slice x.a 0 x.c, .int .u64 x.d.acked, .int .u64 x.d.evicted, .int .u64 x.d.rejected] := by rw [DestL.cells, hx]; rfl
  rw [hx0] at h14
  refine ⟨_, _, _, h14.cell (j := 3) rfl, ?_⟩
  obtain ⟨i0, hi, hz0, hz1, hz2⟩ : ∃ i0, Tryz.prog.info? 24 = some i0 ∧ i0.zero = some (.int .u64 0) ∧ i0.size = 1 ∧ i0.bytes = 8 := by
    have : (Tryz.prog.info? 24).map (fun i => (i.zero, i.size, i.bytes)) = some (some (.int .u64 0), 1, 8) := by kernel_rfl
    obtain ⟨j, hj, h2⟩ := Option.map_eq_some_iff.1 this
    simp only [Prod.mk.injEq] at h2
    exact ⟨j, hj, h2.1, h2.2.1, h2.2.2⟩
  obtain ⟨w9, hr9, ho9, hg9⟩ := run_make_full (P := Tryz.prog) w4 w0.heap.size 61 24 i0 (.int .u64 0) 1 (by kernel_rfl) hi hz0 hz1 .i64 .i64 0 (by rw [hz2]; decide) (by decide) hb4'.size
  refine runV_ok hr9 ⟨_, _, _, rfl, ?_⟩
  have h19 := h14.grown hg9 (by simp)
  have h39 := h3.grown hg9 (by simp)
  have hb9 := hb4'.grown hg9 hb4'.size (by simp)
  refine ⟨_, _, _, h19.cell (j := 3) rfl, runV_ok (run_copy_none (P := Tryz.prog) w9 _ _ _ 24 _ _ _ _ _ _ (by kernel_rfl) (by rw [hi]; simp [hz1]) (by simp)) ⟨_, rfl, _, h19.cell (j := 2) rfl, ?_⟩⟩
  have hmx : max2I (frm : Int) (x.d.low : Int) = (x.d.low : Int) := by unfold max2I; omega
  rw [hmx]
  have ho9' : w9.ownsRow w0.heap.size 24 1 (.slice (some ⟨w4.heap.size, 0, none⟩) 0 0) 0 (u64Cs []) := by
    have := ho9.1
    have e : (madeCells (Value.int IntKind.u64 0).cells (0 * 1)).toList = u64Cs [] := List.length_eq_zero_iff.mp (by simpa using this)
    rw [e] at ho9; exact ho9
  have hmn : min2I (to : Int) (next : Int) = ((min to next : Nat) : Int) := by unfold min2I; omega
  refine hL _ _ _ _ _ _ _ _ _ _ _ ?_
  refine ⟨fun m n oa on oc sq w => ∃ s : Nat, sq = (s : Int) ∧ x.d.low ≤ s ∧ s ≤ max x.d.low (min to next) ∧ n = ((s - x.d.low : Nat) : Int) ∧ m = max x.d.low (min to next) - s ∧ on = s - x.d.low ∧ w.ownsRow w0.heap.size 24 1 (.slice oa on oc) on (u64Cs (List.range' x.d.low (s - x.d.low))) ∧ Below w0.heap.size w0 w ∧
      Blk w w0.heap.size 63 [.string (S x.d.name), .int .u64 x.d.since, .int .u64 x.d.low, .slice x.a 0 x.c, .int .u64 x.d.acked, .int .u64 x.d.evicted, .int .u64 x.d.rejected] ∧ Blk w w2.heap.size 63 zeroDest.cells, _,
    ⟨x.d.low, rfl, Nat.le_refl _, by omega, by simp, rfl, by simp, by rw [Nat.sub_self]; exact ho9', hb9, h19, h39⟩, ?_⟩
  rintro m n oa on oc sq g w ⟨s, rfl, hs1, hs2', rfl, rfl, rfl, hown, hbel, hB1, hB3⟩ Back hback L1 hL1
  unfold ledger_Dest_done.t1
  rw [hmn]
  by_cases hlt : s < min to next
  · refine boolT (by simp; omega) ?_
    have hlen : (List.range' x.d.low (s - x.d.low)).length = s - x.d.low := by simp
    have hbs := slices_bs (List.range' x.d.low (s - x.d.low)) (by simp; omega) s oa oc w (RowAt.of_own hown)
    have hall : bsI (List.range' x.d.low (s - x.d.low)) s = s - x.d.low := by
      rw [bsI_all, hlen]
      intro y hy; rw [List.mem_range'_1] at hy; omega
    rw [hall, hlen] at hbs
    refine hbs.mono ?_
    rintro e w' ⟨rfl, rfl⟩
    refine ⟨_, _, rfl, boolT (by rw [List.getElem?_eq_none (by simp)]; rfl) ?_⟩
    refine allocV (cs := [.int .u64 s]) ?_
    intro w6 ht hb6 hs6
    have hb6' := hbel.trans (hb6.mono hbel.size)
    have hown6 := own_below hown hb6
    have hins := slices_insert_end (List.range' x.d.low (s - x.d.low)) (by simp; omega) s w0.heap.size oa oc w6 _ 1 (by rw [hlen]; exact hown6) hb6'.size ht
    rw [hlen] at hins
    refine hins.mono ?_
    rintro e w8 ⟨a', c', rfl, ho8, hb8, hg8⟩
    have n1 := own_ne hown6 (hB1.below hb6 hB1.lt) (by decide)
    have n3 := own_ne hown6 (hB3.below hb6 hB3.lt) (by decide)
    refine ⟨_, _, _, rfl, hback (max x.d.low (min to next) - (s + 1)) _ _ _ _ _ _ _ (by omega) ⟨s + 1, ?_, by omega, by omega, ?_, rfl, by omega, ?_, hb6'.trans hb8, (hB1.below hb6 hB1.lt).grown hg8 (fun e => n1 e.symm), (hB3.below hb6 hB3.lt).grown hg8 (fun e => n3 e.symm)⟩⟩
    · rw [show ((s : Int) + 1) = ((s + 1 : Nat) : Int) from by omega, wrap_u64, Nat.mod_eq_of_lt (by omega)]
    · rw [show (((s - x.d.low : Nat) : Int) + 1) = ((s + 1 - x.d.low : Nat) : Int) from by omega, wrap_u64, Nat.mod_eq_of_lt (by omega)]
    · rw [show s + 1 - x.d.low = (s - x.d.low) + 1 from by omega, List.range'_concat, Nat.one_mul, show x.d.low + (s - x.d.low) = s from by omega]
      exact ho8
  · refine boolF (by simp; omega) (hL1 _ _ _ _ _ _ _ _ ?_)
    have hsm : s = max x.d.low (min to next) := by omega
    refine ⟨fun m oa on oc w => ∃ k : Nat, m = s - x.d.low - k ∧ k ≤ s - x.d.low ∧ on = s - x.d.low - k ∧ on ≤ oc ∧ RowAt w oa (u64Cs (List.range' (x.d.low + k) (s - x.d.low - k))) ∧ (∀ g o, oa = some ⟨g, o, none⟩ → g ≠ w0.heap.size) ∧ Below w0.heap.size w0 w ∧
      Blk w w0.heap.size 63 [.string (S x.d.name), .int .u64 x.d.since, .int .u64 (x.d.low + k : Nat), .slice x.a 0 x.c, .int .u64 x.d.acked, .int .u64 x.d.evicted, .int .u64 x.d.rejected] ∧ Blk w w2.heap.size 63 zeroDest.cells, _,
      ⟨0, rfl, by omega, rfl, own_le hown, RowAt.of_own hown, fun g o e => by subst e; exact fun e => own_ne hown hB1 (by decide) (by rw [e]; rfl), hbel, hB1, hB3⟩, ?_⟩
    rintro m oa on oc g w ⟨k, rfl, hk, rfl, hoc, hrow, hne, hbel, hB1, hB3⟩ Back1 hback1
    unfold ledger_Dest_done.t2
    refine ⟨fun W => W.heap = w.heap ∧ Below w0.heap.size w0 W, fun W e1 e2 e3 e4 => ⟨e1, hbel.trans (same_below _ e1 e2 e3 e4)⟩, ?_⟩
    by_cases hk2 : k < s - x.d.low
    · have hl0 : (List.range' (x.d.low + k) (s - x.d.low - k))[0]? = some (x.d.low + k) := by rw [List.getElem?_range' (by omega)]; simp
      obtain ⟨q, hq, c0⟩ := rowU64 hrow hl0
      rw [Nat.zero_mul] at c0
      obtain ⟨g1, o1, rfl⟩ := hrow.some_of (fun e => by have := u64Cs_len (List.range' (x.d.low + k) (s - x.d.low - k)); rw [e] at this; simp at this; omega)
      cases hq
      have e0 : (⟨g1, o1, none⟩ : Addr).add 0 = ⟨g1, o1, none⟩ := rfl
      rw [e0] at c0
      refine boolT (by simp; omega) (someV_some rfl ⟨⟨by decide, by omega⟩, _, fun W hW => (World.cell?_of_block (by rw [hW.1])).trans c0, _, fun W hW => (hB1.same hW.1).cell (j := 2) rfl, fun W hW => boolT (by simp) ⟨_, (hB1.same hW.1).cell (j := 2) rfl, (hB1.same hW.1).writable (o := 2) (by simp), ?_⟩⟩)
      rintro w7 rfl
      refine ⟨⟨by decide, by omega⟩, ?_⟩
      rintro a8 rfl
      have hwk : IntKind.wrap .u64 (((x.d.low + k : Nat) : Int) + 1) = ((x.d.low + (k + 1) : Nat) : Int) := by rw [show (((x.d.low + k : Nat) : Int) + 1) = ((x.d.low + (k + 1) : Nat) : Int) from by omega, wrap_u64, Nat.mod_eq_of_lt (by omega)]
      rw [hwk]
      have hB1' := (hB1.same hW.1).set 2 (.int .u64 ((x.d.low + (k + 1) : Nat) : Int))
      have hB3' := (hB3.same hW.1).other (p := ⟨w0.heap.size, 2, none⟩) (by simp; omega) (.int .u64 ((x.d.low + (k + 1) : Nat) : Int))
      refine hback1 (s - x.d.low - (k + 1)) _ _ _ _ _ (by omega) ⟨k + 1, rfl, by omega, ?_, ?_, ?_, ?_, hW.2.setCell (p := ⟨w0.heap.size, 2, none⟩) (Nat.le_refl _) _, hB1', hB3'⟩
      · show (s - x.d.low - k) - 1 = _; omega
      · show (s - x.d.low - k) - 1 ≤ oc - 1; omega
      · have hd := hrow.drop (c := oc) (k := 1) (size := 1) (by rw [u64Cs_len]; simp; omega)
        have e2 : (u64Cs (List.range' (x.d.low + k) (s - x.d.low - k))).drop (1 * 1) = u64Cs (List.range' (x.d.low + (k + 1)) (s - x.d.low - (k + 1))) := by
          rw [show s - x.d.low - k = (s - x.d.low - (k + 1)) + 1 from by omega, List.range'_succ]; rfl
        rw [e2] at hd
        refine hd.kept fun g o hgo hlt => ?_
        have hgg := sliceAddr_block hgo
        rw [heap_setCell_other _ _ _ _ (by simp; rw [hgg]; exact hne _ _ rfl), hW.1]
      · intro g o hgo
        rw [sliceAddr_block hgo]
        exact hne _ _ rfl
    · have hz : s - x.d.low - k = 0 := by omega
      have hkk : x.d.low + k = max x.d.low (min to next) := by omega
      refine boolF (by simp; omega) fun W hW => ?_
      have hBW := hB1.same hW.1
      have hBW3 := hB3.same hW.1
      refine ⟨hBW.writable (o := 3) (by simp), ?_⟩
      rintro w9' rfl
      have hBW' := hBW.set 3 (.slice oa (s - x.d.low - k) oc)
      have hBW3' := hBW3.other (p := ⟨w0.heap.size, 3, none⟩) (by simp; omega) (.slice oa (s - x.d.low - k) oc)
      have hbW := hW.2.setCell (p := ⟨w0.heap.size, 3, none⟩) (Nat.le_refl _) (.slice oa (s - x.d.low - k) oc)
      refine ⟨_, _, _, _, _, _, _, _, _, ⟨hBW'.cell (j := 0) rfl, hBW'.cell (j := 1) rfl, hBW'.cell (j := 2) rfl, hBW'.cell (j := 3) rfl, hBW'.cell (j := 4) rfl, hBW'.cell (j := 5) rfl, hBW'.cell (j := 6) rfl⟩, st7V hBW3' ?_⟩
      intro w19 hblk hg hs
      refine ⟨_, _, _, _, _, _, _, _, _, ⟨hblk.cell (j := 0) rfl, hblk.cell (j := 1) rfl, hblk.cell (j := 2) rfl, hblk.cell (j := 3) rfl, hblk.cell (j := 4) rfl, hblk.cell (j := 5) rfl, hblk.cell (j := 6) rfl⟩, below_grown hbW hg hbW.size hb2.size, oa, oc, ?_⟩
      rw [hz, hkk, ← hsm]
      simp only [doneD, DestL.val, ← hsm, List.length_nil]
end Go.Proofs.YtcofknlcdgidpaaGreatDoor
/-! ## Led4 -/
namespace Go.Proofs.YtcofknlcdgidpaaGreatDoor
open Go Go.RowKit Go.Proofs.YtcofknlcdgidpaaGreatDoor.VC
set_option linter.unusedVariables false
set_option maxRecDepth 100000

theorem destCs_cons (y : DestL) (l : List DestL) : destCs (y :: l) = y.cells ++ destCs l := rfl
theorem destCs_set (x : DestL) : ∀ (l : List DestL) (i : Nat), i < l.length →
    (((((((destCs l).set (i * 7) (.string (S x.d.name))).set (i * 7 + 1) (.int .u64 x.d.since)).set (i * 7 + 2) (.int .u64 x.d.low)).set (i * 7 + 3) (.slice x.a x.d.above.length x.c)).set (i * 7 + 4) (.int .u64 x.d.acked)).set (i * 7 + 5) (.int .u64 x.d.evicted)).set (i * 7 + 6) (.int .u64 x.d.rejected) = destCs (l.set i x)
  | [], i, h => by simp at h
  | y :: l, 0, h => by
    rw [List.set_cons_zero, destCs_cons, destCs_cons]
    rfl
  | y :: l, i + 1, h => by
    have ih := destCs_set x l i (by simpa using h)
    rw [List.set_cons_succ, destCs_cons, destCs_cons, ← ih]
    have e0 : (i + 1) * 7 = y.cells.length + i * 7 := by show _ = 7 + i * 7; omega
    have hs : ∀ (b : List Value) (k : Nat) (v : Value), (y.cells ++ b).set (y.cells.length + k) v = y.cells ++ b.set k v := fun b k v => by
      rw [List.set_append_right _ _ (by omega)]; congr 2; omega
    simp only [e0, Nat.add_assoc, hs]
/-- A destination is stored into its place in a row that the call owns. -/
theorem st7row {W : World} {B n c : Nat} {a : Option Addr} {l : List DestL} (ho : W.ownsRow B 63 7 (.slice a n c) n (destCs l)) (hn : n = l.length) {i : Nat} (hi : i < n) (x : DestL) {K : Addr → World → Prop}
    (hK : ∀ p w', w'.ownsRow B 63 7 (.slice a n c) n (destCs (l.set i x)) → W.grownBy w' (Value.ownBlock (.slice a n c)) → w'.heap.size = W.heap.size → K p w') :
    someV a (fun p => (0 ≤ ((i : Nat) : Int) ∧ ((i : Nat) : Int) < (n : Nat)) ∧ (Writable W (p.add (((i : Nat) : Int).toNat * 7)) 7 ∧ ∀ w54 : World, w54 = World.setCell (World.setCell (World.setCell (World.setCell (World.setCell (World.setCell (World.setCell W (p.add (((i : Nat) : Int).toNat * 7)) (.string (S x.d.name))) ((p.add (((i : Nat) : Int).toNat * 7)).add 1) (.int .u64 x.d.since)) ((p.add (((i : Nat) : Int).toNat * 7)).add 2) (.int .u64 x.d.low)) ((p.add (((i : Nat) : Int).toNat * 7)).add 3) (.slice x.a x.d.above.length x.c)) ((p.add (((i : Nat) : Int).toNat * 7)).add 4) (.int .u64 x.d.acked)) ((p.add (((i : Nat) : Int).toNat * 7)).add 5) (.int .u64 x.d.evicted)) ((p.add (((i : Nat) : Int).toNat * 7)).add 6) (.int .u64 x.d.rejected) → K p w54)) := by
  subst hn
  obtain ⟨g, hg⟩ : ∃ g, a = some ⟨g, 0, none⟩ := by
    rcases ho.2 with ⟨hv, h0⟩ | ⟨g, cap, cur, hv, _⟩
    · omega
    · injection hv with h1; exact ⟨g, h1⟩
  subst hg
  refine someV_some rfl ⟨⟨by omega, by omega⟩, ?_, ?_⟩
  · intro k hk
    rw [Int.toNat_natCast, Addr_add, Addr_add]
    have hlt : 0 + i * 7 + k < l.length * 7 := by omega
    refine ⟨⟨(destCs l)[0 + i * 7 + k]'(by rw [destCs_len]; omega), ?_⟩, ho.frozenAt _⟩
    rw [ho.cellAt _ hlt, List.getElem?_eq_getElem (by rw [destCs_len]; omega)]
  · rintro w54 rfl
    simp only [Int.toNat_natCast, Addr_add, Nat.zero_add]
    obtain ⟨o1, g1⟩ := ho.stored (i * 7) (.string (S x.d.name))
    obtain ⟨o2, g2⟩ := o1.stored (i * 7 + 1) (.int .u64 x.d.since)
    obtain ⟨o3, g3⟩ := o2.stored (i * 7 + 2) (.int .u64 x.d.low)
    obtain ⟨o4, g4⟩ := o3.stored (i * 7 + 3) (.slice x.a x.d.above.length x.c)
    obtain ⟨o5, g5⟩ := o4.stored (i * 7 + 4) (.int .u64 x.d.acked)
    obtain ⟨o6, g6⟩ := o5.stored (i * 7 + 5) (.int .u64 x.d.evicted)
    obtain ⟨o7, g7⟩ := o6.stored (i * 7 + 6) (.int .u64 x.d.rejected)
    rw [destCs_set x l i hi] at o7
    refine hK _ _ o7 ?_ (by simp [World.setCell])
    exact gset (gset (gset (gset (gset (gset (gset (grown_refl W _) _ _) _ _) _ _) _ _) _ _) _ _) _ _

/-! ### Evict -/
def evictD (d : Dest) (to next : Nat) : Dest := { doneD d to next with evicted := d.evicted + (max d.low (min to next) - d.low) }
/-- Destinations of which nothing is done above. -/
def plainD (l : List DestL) : Prop := ∀ x ∈ l, x.d.above = [] ∧ x.d.low < 4294967296 ∧ x.d.evicted < 4294967296
def evictOK (l l' : List DestL) (to next : Nat) : Prop := ds l' = (ds l).map (fun d => evictD d to next)
def evictErr (first next to : Nat) : Bool := decide (to < first) || decide (next < to)
def evictR (w0 : World) (first next to : Nat) (l : List DestL) (e : Ending) (w : World) : Prop := Below w0.heap.size w0 w ∧
  if evictErr first next to = true then e = .returned (.tuple #[.agg #[.int .u64 0, .int .u64 0, .slice none 0 0], .int .i64 1])
  else ∃ a c l', e = .returned (.tuple #[.agg #[.int .u64 to, .int .u64 next, .slice a l.length c], .int .i64 0]) ∧ ds l' = (ds l).map (fun d => evictD d to next) ∧ w.ownsRow w0.heap.size 63 7 (.slice a l.length c) l.length (destCs l')
theorem ledger_evict (first next to : Nat) (hto : to < 4294967296) (hnx : next < 4294967296) (l : List DestL) (hl : l.length ≤ 429496729) (hpl : plainD l) (a : Option Addr) (c : Nat) (w0 : World) (hrow : RowAt w0 a (destCs l)) :
    Calls Tryz.prog 85 #[.agg #[.int .u64 first, .int .u64 next, .slice a l.length c], .int .u64 to] w0 (evictR w0 first next to l) := by
  apply ledger_Evict.calls
  intro L0 hL
  unfold ledger_Evict.t0
  refine allocV (cs := [.int .u64 first, .int .u64 next, .slice a l.length c]) ?_
  intro w2 h1 hb2 hs2
  refine allocV (cs := [.int .u64 0, .int .u64 0, .slice none 0 0]) ?_
  intro w4 h3 hb4 hs4
  have hb4' := hb2.trans (hb4.mono hb2.size)
  have h14 := h1.below hb4 h1.lt
  have herr : evictErr first next to = true → (Writable w4 ⟨w2.heap.size, 0, none⟩ 3 ∧ ∀ w8 : World, w8 = World.setCell (World.setCell (World.setCell w4 ⟨w2.heap.size, 0, none⟩ (.int .u64 0)) ⟨w2.heap.size, 1, none⟩ (.int .u64 0)) ⟨w2.heap.size, 2, none⟩ (.slice none 0 0) → ∃ x9 : Int, ∃ x10 : Int, ∃ (a11 : Option Addr) (n12 c13 : Nat), (w8.cell? ⟨w2.heap.size, 0, none⟩ = some (.int .u64 x9) ∧ w8.cell? ⟨w2.heap.size, 1, none⟩ = some (.int .u64 x10) ∧ w8.cell? ⟨w2.heap.size, 2, none⟩ = some (.slice a11 n12 c13)) ∧ (evictR w0 first next to l (.returned (.tuple #[.agg #[.int .u64 x9, .int .u64 x10, .slice a11 n12 c13], .int .i64 1])) w8)) := by
    intro he
    refine st3V h3 ?_
    intro w6 hblk hg hs
    refine ⟨_, _, _, _, _, ⟨hblk.cell (j := 0) rfl, hblk.cell (j := 1) rfl, hblk.cell (j := 2) rfl⟩, below_grown hb4' hg hb4'.size hb2.size, ?_⟩
    rw [if_pos he]
  refine ⟨_, h14.cell (j := 0) rfl, ?_⟩
  by_cases hc1 : to < first
  · exact boolT (by simpa using hc1) (herr (by simp [evictErr, hc1]))
  refine boolF (by simpa using hc1) ⟨_, h14.cell (j := 1) rfl, ?_⟩
  by_cases hc2 : next < to
  · exact boolT (by simpa using hc2) (herr (by simp [evictErr, hc2]))
  have hok : evictErr first next to = false := by simp [evictErr, hc1, hc2]
  refine boolF (by simpa using hc2) ⟨h14.writable (o := 0) (by simp), ?_⟩
  rintro w19 rfl
  have h119 := h14.set 0 (.int .u64 to)
  have h319 := h3.other (p := ⟨w0.heap.size, 0, none⟩) (by simp; omega) (.int .u64 to)
  have hb19 := hb4'.setCell (p := ⟨w0.heap.size, 0, none⟩) (Nat.le_refl _) (.int .u64 to)
  refine ⟨_, _, _, h119.cell (j := 2) rfl, (clone_dest l (by omega) a c _ (hrow.below hb19 (Nat.le_refl _))).mono ?_⟩
  rintro e w24 ⟨a', c', rfl, ho, hb24⟩
  have h124 := h119.below hb24 h119.lt
  have h324 := h319.below hb24 h319.lt
  have hb24' := hb19.trans (hb24.mono hb19.size)
  refine ⟨_, _, _, rfl, h124.writable (o := 2) (by simp), ?_⟩
  rintro w28 rfl
  have h128 := h124.set 2 (.slice a' l.length c')
  have h328 := h324.other (p := ⟨w0.heap.size, 2, none⟩) (by simp; omega) (.slice a' l.length c')
  have ho28 := own_mono (own_set ho h124 (by decide) 2 (.slice a' l.length c')) hb19.size
  have hb28 := hb24'.setCell (p := ⟨w0.heap.size, 2, none⟩) (Nat.le_refl _) (.slice a' l.length c')
  refine ⟨_, _, _, h128.cell (j := 2) rfl, hL _ _ _ _ _ _ _ _ _ _ ?_⟩
  refine ⟨fun m x w => ∃ (i : Nat) (l' : List DestL), x = (i : Int) ∧ i ≤ l.length ∧ m = l.length - i ∧ l'.length = l.length ∧ ds l' = ((ds l).take i).map (fun d => evictD d to next) ++ (ds l).drop i ∧ l'.drop i = l.drop i ∧ w.ownsRow w0.heap.size 63 7 (.slice a' l.length c') l.length (destCs l') ∧ Below w0.heap.size w0 w ∧
      Blk w w0.heap.size 37 [.int .u64 to, .int .u64 next, .slice a' l.length c'] ∧ Blk w w2.heap.size 37 [.int .u64 0, .int .u64 0, .slice none 0 0], _,
    ⟨0, l, rfl, by omega, rfl, rfl, by simp, rfl, ho28, hb28, h128, h328⟩, ?_⟩
  rintro m x g w ⟨i, l', rfl, hi, rfl, hll, hds, hdr, hown, hbel, hB1, hB3⟩ Back hback
  unfold ledger_Evict.t1
  by_cases hlt : i < l.length
  · have hli : l[i]? = some l[i] := List.getElem?_eq_getElem hlt
    have hli' : l'[i]? = some l[i] := by
      have : (l'.drop i)[0]? = (l.drop i)[0]? := by rw [hdr]
      simpa [hli] using this
    obtain ⟨hab, hlo, hev⟩ := hpl l[i] (List.getElem_mem hlt)
    obtain ⟨q, hq, hr⟩ := rowDest (RowAt.of_own hown) hli'
    refine boolT (by simp; omega) (someV_some hq ⟨⟨by omega, by omega⟩, _, _, _, _, _, _, _, _, _, hr, var7V ?_⟩)
    intro w13 hv hb13 hs13
    have hb13' := hbel.trans (hb13.mono hbel.size)
    have hB113 := hB1.below hb13 hB1.lt
    refine ⟨_, _, _, _, _, _, _, _, _, ⟨hv.cell (j := 0) rfl, hv.cell (j := 1) rfl, hv.cell (j := 2) rfl, hv.cell (j := 3) rfl, hv.cell (j := 4) rfl, hv.cell (j := 5) rfl, hv.cell (j := 6) rfl⟩, _, hB113.cell (j := 1) rfl, (dest_done0 l[i] hab 0 to next (by omega) hlo hto hnx w13).mono ?_⟩
    rintro e w25 ⟨hb25, ad, cd, rfl⟩
    have hb25' := hb13'.trans (hb25.mono hb13'.size)
    refine ⟨_, _, _, _, _, _, _, _, _, _, rfl, var7V ?_⟩
    intro w38 hv38 hb38 hs38
    have hb38' := hb25'.trans (hb38.mono hb25'.size)
    have hev' : IntKind.wrap .u64 ((((doneD l[i].d to next).evicted : Nat) : Int) + ((max l[i].d.low (min to next) - l[i].d.low : Nat) : Int)) = ((l[i].d.evicted + (max l[i].d.low (min to next) - l[i].d.low) : Nat) : Int) := by
      show IntKind.wrap .u64 (((l[i].d.evicted : Nat) : Int) + _) = _
      rw [show (((l[i].d.evicted : Nat) : Int) + ((max l[i].d.low (min to next) - l[i].d.low : Nat) : Int)) = ((l[i].d.evicted + (max l[i].d.low (min to next) - l[i].d.low) : Nat) : Int) from by omega, wrap_u64, Nat.mod_eq_of_lt (by omega)]
    refine ⟨_, hv38.cell (j := 5) rfl, hv38.writable (o := 5) (by simp), ?_⟩
    rintro w40 rfl
    rw [hev']
    have hv40 := hv38.set 5 (.int .u64 ((l[i].d.evicted + (max l[i].d.low (min to next) - l[i].d.low) : Nat) : Int))
    have hall : Below w.heap.size w w38 := hb13.trans ((hb25.mono (by omega)).trans (hb38.mono (by have := hb25.size; omega)))
    have k1 := hB1.lt
    have k3 := hB3.lt
    have k5 := hb25.size
    have hB140 := (hB1.below hall k1).other (p := ⟨w25.heap.size, 5, none⟩) (by simp; omega) (.int .u64 ((l[i].d.evicted + (max l[i].d.low (min to next) - l[i].d.low) : Nat) : Int))
    have hB340 := (hB3.below hall k3).other (p := ⟨w25.heap.size, 5, none⟩) (by simp; omega) (.int .u64 ((l[i].d.evicted + (max l[i].d.low (min to next) - l[i].d.low) : Nat) : Int))
    have hown38 := own_below hown hall
    have hown40 := hown38.kept (setCell_grown w38 ⟨w25.heap.size, 5, none⟩ (.int .u64 ((l[i].d.evicted + (max l[i].d.low (min to next) - l[i].d.low) : Nat) : Int))) (.inr (fun e => by have := (hown.lt _ e).2; simp at this; omega))
    have hb40 := hb38'.setCell (p := ⟨w25.heap.size, 5, none⟩) hb25'.size (.int .u64 ((l[i].d.evicted + (max l[i].d.low (min to next) - l[i].d.low) : Nat) : Int))
    obtain ⟨X, hX⟩ : ∃ X : DestL, X = ⟨evictD l[i].d to next, ad, cd⟩ := ⟨_, rfl⟩
    have hvX : Blk (w38.setCell ⟨w25.heap.size, 5, none⟩ (.int .u64 ((l[i].d.evicted + (max l[i].d.low (min to next) - l[i].d.low) : Nat) : Int))) w25.heap.size 63 X.cells := by rw [hX]; exact hv40
    refine ⟨_, _, _, hB140.cell (j := 2) rfl, S X.d.name, X.d.since, X.d.low, X.a, X.d.above.length, X.c, X.d.acked, X.d.evicted, X.d.rejected, ⟨hvX.cell (j := 0) rfl, hvX.cell (j := 1) rfl, hvX.cell (j := 2) rfl, hvX.cell (j := 3) rfl, hvX.cell (j := 4) rfl, hvX.cell (j := 5) rfl, hvX.cell (j := 6) rfl⟩, st7row hown40 hll.symm hlt X ?_⟩
    subst hX
    intro p54 w54 ho54 hg54 hs54
    have n1 := own_ne hown40 hB140 (by decide)
    have n3 := own_ne hown40 hB340 (by decide)
    refine hback (l.length - (i + 1)) _ _ _ (by omega) ⟨i + 1, _, ?_, by omega, rfl, ?_, ?_, ?_, ho54, hb40.grown hg54 (by have := hb38'.size; simpa [World.setCell] using this) (fun k hk => (hown40.lt k hk).1), hB140.grown hg54 (fun e => n1 e.symm), hB340.grown hg54 (fun e => n3 e.symm)⟩
    · rw [wrap_i64 (by omega) (by omega)]; omega
    · simpa using hll
    · have e1 : ds (l'.set i ⟨evictD l[i].d to next, ad, cd⟩) = (ds l').set i (evictD l[i].d to next) := by simp [ds, List.map_set]
      rw [e1, hds]
      have hdl : (ds l)[i]? = some l[i].d := by simp [ds, hli]
      have hdlt : i < (ds l).length := by rw [ds_len]; exact hlt
      rw [List.set_append_right _ _ (by simp; omega), List.take_add_one, hdl]
      rw [List.drop_eq_getElem_cons hdlt]
      have hge : (ds l)[i] = l[i].d := by simp [ds]
      have hml : (((ds l).take i).map (fun d => evictD d to next)).length = i := by simp; omega
      rw [hml, Nat.sub_self, List.set_cons_zero]
      simp
    · rw [List.drop_set]
      rw [if_pos (by omega)]
      have : (l'.drop i).drop 1 = (l.drop i).drop 1 := by rw [hdr]
      simpa [List.drop_drop, Nat.add_comm] using this
  · refine boolF (by simp; omega) ⟨_, _, _, _, _, ⟨hB1.cell (j := 0) rfl, hB1.cell (j := 1) rfl, hB1.cell (j := 2) rfl⟩, st3V hB3 ?_⟩
    intro w60 hblk hg hs
    refine ⟨_, _, _, _, _, ⟨hblk.cell (j := 0) rfl, hblk.cell (j := 1) rfl, hblk.cell (j := 2) rfl⟩, below_grown hbel hg hbel.size hb2.size, ?_⟩
    rw [hok]
    refine ⟨a', c', l', rfl, ?_, hown.kept hg (.inr (own_ne hown hB3 (by decide)))⟩
    obtain rfl : i = l.length := by omega
    rw [hds, List.take_of_length_le (by rw [ds_len]; exact Nat.le_refl _), List.drop_eq_nil_of_le (by rw [ds_len]; exact Nat.le_refl _), List.append_nil]
end Go.Proofs.YtcofknlcdgidpaaGreatDoor
