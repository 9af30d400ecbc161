/- Chapter 20, ModelErrs: a config that is not right is told, as the agent tells it: the row, and the tied card. Its condition: the listed tables start as the program's text lays them. -/
import Derived.Test.YtcofknlcdgidpaaGreatDoorProg
import Derived.KernelRfl
import Derived.Test.YtcofknlcdgidpaaGreatDoorTie
import Derived.ReadAgain
import Derived.ProofKit
import Derived.OpenShut
import Derived.LaidMore
import Derived.Lay
import Derived.SevenTiedAt
import Derived.ChangeSame
import Derived.ChangeBears
import Derived.Stop.Joined
import Derived.Test.YtcofknlcdgidpaaGreatDoorCards
import Derived.Test.YtcofknlcdgidpaaGreatDoorZE5
/-! ## Gpostroomlaw20made -/
namespace Go.Proofs.YtcofknlcdgidpaaGreatDoor
open Go Go.Proofs.YtcofknlcdgidpaaGreatDoor.VC
set_option linter.unusedVariables false
set_option maxRecDepth 100000
set_option maxHeartbeats 0

/-! ### postroom/postroomlaw20.made: function 18 -/
namespace postroomlaw20_made
def t1 (R : Ending → World → Prop)  (Back0 : Int → List Value → World → Prop)  (a_1 : Nat) (x_2 : Nat) (x_4 : Nat) (i_5 : Int) (g : List Value) (w : World) : Prop := ∃ x1 : Int, w.cell? ⟨a_1, 4, none⟩ = some (.int .i64 x1) ∧ (Calls Tryz.prog 15 #[.int .i64 x1, .int .i64 20] w (fun e2 w3 => ∃ x4 : Int, e2 = .returned (.int .i64 x4) ∧ (boolV (decide (i_5 < (IntKind.wrap .i64 (1 + x4)))) (∃ S5 : World → Prop, (∀ w6 : World, w6.heap = w3.heap → w6.tape = w3.tape → w6.os = w3.os → w6.output = w3.output → S5 w6 ∧ (∃ (a7 : Option Addr) (n8 c9 : Nat), (∀ w, S5 w → w.cell? ⟨x_4, 1, none⟩ = some (.slice a7 n8 c9)) ∧ (∃ x10 : Int, (∀ w, S5 w → w.cell? ⟨a_1, 3, none⟩ = some (.int .i64 x10)) ∧ (∃ x11 : Int, (∀ w, S5 w → w.cell? ⟨a_1, 2, none⟩ = some (.int .i64 x11)) ∧ (∃ x12 : Int, (∀ w, S5 w → w.cell? ⟨a_1, 3, none⟩ = some (.int .i64 x12)) ∧ (Calls Tryz.prog 15 #[.int .i64 x10, .int .i64 50] w6 (fun e13 w14 => ∃ x15 : Int, e13 = .returned (.int .i64 x15) ∧ (S5 w14 ∧ (Calls Tryz.prog 15 #[.int .i64 x11, .int .i64 3] w14 (fun e16 w17 => ∃ x18 : Int, e16 = .returned (.int .i64 x18) ∧ (S5 w17 ∧ (∀ (b19 : Nat) (w20 : World), b19 = w17.heap.size → w20 = World.alloc w17 (.cells #[.int .u64 (IntKind.wrap .u64 (IntKind.wrap .i64 (x15 + (IntKind.wrap .i64 (i_5 * (IntKind.wrap .i64 (1 + x18))))))), .int .i64 (IntKind.wrap .i64 (x12 * (IntKind.wrap .i64 (1 + i_5))))] 114) → S5 w20 ∧ (runV Tryz.prog (Builtin.append_ #[51, 51] 51 #[.slice a7 n8 c9, .slice (some ⟨b19, 0, none⟩) 1 1]) w20 (fun v21 w22 => ∃ (a23 : Option Addr) (n24 c25 : Nat), v21 = .slice a23 n24 c25 ∧ (S5 w22 ∧ (Writable w22 ⟨x_4, 1, none⟩ 1 ∧ ∀ w26 : World, w26 = World.setCell w22 ⟨x_4, 1, none⟩ (.slice a23 n24 c25) → Back0 (IntKind.wrap .i64 (i_5 + 1)) [nth g 0, nth g 1, nth g 2, nth g 3, nth g 4, nth g 5, nth g 6, nth g 7, nth g 8, nth g 9, nth g 10, nth g 11, .int .i64 i_5, .pointer (some ⟨a_1, 4, none⟩), .int .i64 x1, .int .i64 x4, .int .i64 (IntKind.wrap .i64 (1 + x4)), .bool (decide (i_5 < (IntKind.wrap .i64 (1 + x4)))), .int .i64 i_5, .int .i64 (IntKind.wrap .i64 (i_5 + 1)), .pointer (some ⟨x_4, 1, none⟩), .slice a7 n8 c9, .pointer (some ⟨a_1, 3, none⟩), .int .i64 x10, .int .i64 x15, .int .i64 i_5, .pointer (some ⟨a_1, 2, none⟩), .int .i64 x11, .int .i64 x18, .int .i64 (IntKind.wrap .i64 (1 + x18)), .int .i64 (IntKind.wrap .i64 (i_5 * (IntKind.wrap .i64 (1 + x18)))), .int .i64 (IntKind.wrap .i64 (x15 + (IntKind.wrap .i64 (i_5 * (IntKind.wrap .i64 (1 + x18)))))), .int .u64 (IntKind.wrap .u64 (IntKind.wrap .i64 (x15 + (IntKind.wrap .i64 (i_5 * (IntKind.wrap .i64 (1 + x18))))))), .pointer (some ⟨a_1, 3, none⟩), .int .i64 x12, .int .i64 i_5, .int .i64 (IntKind.wrap .i64 (1 + i_5)), .int .i64 (IntKind.wrap .i64 (x12 * (IntKind.wrap .i64 (1 + i_5)))), .agg #[.int .u64 (IntKind.wrap .u64 (IntKind.wrap .i64 (x15 + (IntKind.wrap .i64 (i_5 * (IntKind.wrap .i64 (1 + x18))))))), .int .i64 (IntKind.wrap .i64 (x12 * (IntKind.wrap .i64 (1 + i_5))))], .slice (some ⟨b19, 0, none⟩) 1 1, .slice a23 n24 c25, .pointer (some ⟨x_4, 1, none⟩), nth g 42, nth g 43, nth g 44, nth g 45, nth g 46, nth g 47, nth g 48, nth g 49, nth g 50, nth g 51, nth g 52] w26))))))))))))))))) (∃ x27 : Int, w3.cell? ⟨a_1, 4, none⟩ = some (.int .i64 x27) ∧ (Calls Tryz.prog 15 #[.int .i64 x27, .int .i64 23] w3 (fun e28 w29 => ∃ x30 : Int, e28 = .returned (.int .i64 x30) ∧ (boolV (x30 == (22 : Int)) (∃ (a31 : Option Addr) (n32 c33 : Nat), w29.cell? ⟨x_4, 0, none⟩ = some (.slice a31 n32 c33) ∧ (∀ (b34 : Nat) (w35 : World), b34 = w29.heap.size → w35 = World.alloc w29 (.cells #[.string ⟨#[115]⟩, .string ByteArray.empty] 112) → runV Tryz.prog (Builtin.append_ #[50, 50] 50 #[.slice a31 n32 c33, .slice (some ⟨b34, 0, none⟩) 1 1]) w35 (fun v36 w37 => ∃ (a38 : Option Addr) (n39 c40 : Nat), v36 = .slice a38 n39 c40 ∧ (Writable w37 ⟨x_4, 0, none⟩ 1 ∧ ∀ w41 : World, w41 = World.setCell w37 ⟨x_4, 0, none⟩ (.slice a38 n39 c40) → ∃ (a42 : Option Addr) (n43 c44 : Nat), ∃ (a45 : Option Addr) (n46 c47 : Nat), (w41.cell? ⟨x_4, 0, none⟩ = some (.slice a42 n43 c44) ∧ w41.cell? ⟨x_4, 1, none⟩ = some (.slice a45 n46 c47)) ∧ (Writable w41 ⟨x_2, 0, none⟩ 2 ∧ ∀ w48 : World, w48 = World.setCell (World.setCell w41 ⟨x_2, 0, none⟩ (.slice a42 n43 c44)) ⟨x_2, 1, none⟩ (.slice a45 n46 c47) → ∃ (a49 : Option Addr) (n50 c51 : Nat), ∃ (a52 : Option Addr) (n53 c54 : Nat), (w48.cell? ⟨x_2, 0, none⟩ = some (.slice a49 n50 c51) ∧ w48.cell? ⟨x_2, 1, none⟩ = some (.slice a52 n53 c54)) ∧ (R (.returned (.agg #[.slice a49 n50 c51, .slice a52 n53 c54])) w48)))))) (∃ (a55 : Option Addr) (n56 c57 : Nat), ∃ (a58 : Option Addr) (n59 c60 : Nat), (w29.cell? ⟨x_4, 0, none⟩ = some (.slice a55 n56 c57) ∧ w29.cell? ⟨x_4, 1, none⟩ = some (.slice a58 n59 c60)) ∧ (Writable w29 ⟨x_2, 0, none⟩ 2 ∧ ∀ w61 : World, w61 = World.setCell (World.setCell w29 ⟨x_2, 0, none⟩ (.slice a55 n56 c57)) ⟨x_2, 1, none⟩ (.slice a58 n59 c60) → ∃ (a62 : Option Addr) (n63 c64 : Nat), ∃ (a65 : Option Addr) (n66 c67 : Nat), (w61.cell? ⟨x_2, 0, none⟩ = some (.slice a62 n63 c64) ∧ w61.cell? ⟨x_2, 1, none⟩ = some (.slice a65 n66 c67)) ∧ (R (.returned (.agg #[.slice a62 n63 c64, .slice a65 n66 c67])) w61))))))))))
def W0 (R : Ending → World → Prop)  (a_1 : Nat) (x_2 : Nat) (x_4 : Nat) (i_5 : Int) (w : World) : Prop := ∃ (I : Nat → Int → World → Prop) (n : Nat), I n i_5 w ∧ ∀ (n : Nat) (i_5 : Int) (g : List Value) (w : World), I n i_5 w → ∀ (Back0 : Int → List Value → World → Prop), (∀ (m : Nat) (i_5 : Int) (g : List Value) (w : World), m < n → I m i_5 w → Back0 i_5 g w) → t1 R  Back0  a_1 x_2 x_4 i_5 g w
def t0 (R : Ending → World → Prop) (L0 : Nat → Nat → Nat → Int → List Value → World → Prop) (a_0a : Int) (a_0b : Int) (a_0c : Int) (a_0d : Int) (a_0e : Int) (w : World) : Prop := ∀ (b1 : Nat) (w2 : World), b1 = w.heap.size → w2 = World.alloc w (.cells #[.int .i64 a_0a, .int .i64 a_0b, .int .i64 a_0c, .int .i64 a_0d, .int .i64 a_0e] 56) → ∀ (b3 : Nat) (w4 : World), b3 = w2.heap.size → w4 = World.alloc w2 (.cells #[.slice none 0 0, .slice none 0 0] 53) → ∃ x5 : Int, w4.cell? ⟨b1, 3, none⟩ = some (.int .i64 x5) ∧ (Calls Tryz.prog 15 #[.int .i64 x5, .int .i64 7] w4 (fun e6 w7 => ∃ x8 : Int, e6 = .returned (.int .i64 x8) ∧ ((0 ≤ x8 ∧ x8 ≤ (IntKind.wrap .i64 (x8 + 1)) ∧ (IntKind.wrap .i64 (x8 + 1)) ≤ (⟨#[116, 117, 118, 119, 120, 121, 122]⟩ : ByteArray).size) ∧ (∀ (b9 : Nat) (w10 : World), b9 = w7.heap.size → w10 = World.alloc w7 (.cells #[.string ⟨#[115]⟩, .string ((⟨#[116, 117, 118, 119, 120, 121, 122]⟩ : ByteArray).extract x8.toNat (IntKind.wrap .i64 (x8 + 1)).toNat)] 112) → ∀ (b11 : Nat) (w12 : World), b11 = w10.heap.size → w12 = World.alloc w10 (.cells #[.slice none 0 0, .slice none 0 0] 53) → Writable w12 ⟨b11, 0, none⟩ 2 ∧ ∀ w13 : World, w13 = World.setCell (World.setCell w12 ⟨b11, 0, none⟩ (.slice (some ⟨b9, 0, none⟩) 1 1)) ⟨b11, 1, none⟩ (.slice none 0 0) → L0 b1 b3 b11 0 [.agg #[.int .i64 a_0a, .int .i64 a_0b, .int .i64 a_0c, .int .i64 a_0d, .int .i64 a_0e], .int .i64 x8, .pointer (some ⟨b1, 3, none⟩), .int .i64 x5, .int .i64 x8, .int .i64 x8, .int .i64 x8, .int .i64 (IntKind.wrap .i64 (x8 + 1)), .string ((⟨#[116, 117, 118, 119, 120, 121, 122]⟩ : ByteArray).extract x8.toNat (IntKind.wrap .i64 (x8 + 1)).toNat), .agg #[.string ⟨#[115]⟩, .string ((⟨#[116, 117, 118, 119, 120, 121, 122]⟩ : ByteArray).extract x8.toNat (IntKind.wrap .i64 (x8 + 1)).toNat)], .slice (some ⟨b9, 0, none⟩) 1 1, .agg #[.slice (some ⟨b9, 0, none⟩) 1 1, .slice none 0 0], undef, undef, undef, undef, undef, undef, undef, undef, undef, undef, undef, undef, undef, undef, undef, undef, undef, undef, undef, undef, undef, undef, undef, undef, undef, undef, undef, undef, undef, undef, undef, undef, undef, undef, undef, undef, undef, undef, undef, undef, undef] w13))))
def vc (R : Ending → World → Prop) (a_0a : Int) (a_0b : Int) (a_0c : Int) (a_0d : Int) (a_0e : Int) (w : World) : Prop := ∀ (L0 : Nat → Nat → Nat → Int → List Value → World → Prop), (∀ a_1 x_2 x_4 i_5 g w, W0 R a_1 x_2 x_4 i_5 w → L0 a_1 x_2 x_4 i_5 g w) → t0 R L0 a_0a a_0b a_0c a_0d a_0e w
theorem at0 (R : Ending → World → Prop) (a_1 : Nat) (x_2 : Nat) (x_4 : Nat) (i_5 : Int) (g : List Value) (w : World) (h : W0 R  a_1 x_2 x_4 i_5 w) : atV Tryz.prog (bodyC Tryz.f18) [true, true, true, false, true, false] (retQ Tryz.prog Tryz.f18 R) [nth g 0, .pointer (some ⟨a_1, 0, none⟩), .pointer (some ⟨x_2, 0, none⟩), nth g 1, .pointer (some ⟨x_4, 0, none⟩), .int .i64 i_5, nth g 2, nth g 3, nth g 4, nth g 5, nth g 6, nth g 7, nth g 8, nth g 9, nth g 10, nth g 11, nth g 12, nth g 13, nth g 14, nth g 15, nth g 16, nth g 17, nth g 18, nth g 19, nth g 20, nth g 21, nth g 22, nth g 23, nth g 24, nth g 25, nth g 26, nth g 27, nth g 28, nth g 29, nth g 30, nth g 31, nth g 32, nth g 33, nth g 34, nth g 35, nth g 36, nth g 37, nth g 38, nth g 39, nth g 40, nth g 41, nth g 42, nth g 43, nth g 44, nth g 45, nth g 46, nth g 47, nth g 48, nth g 49, nth g 50, nth g 51, nth g 52] w := by
  obtain ⟨I, n0, h0, hs⟩ := h
  refine atV_loop (by kernel_rfl) (fun n s w => ∃ (i_5 : Int) (g : List Value), s = [nth g 0, .pointer (some ⟨a_1, 0, none⟩), .pointer (some ⟨x_2, 0, none⟩), nth g 1, .pointer (some ⟨x_4, 0, none⟩), .int .i64 i_5, nth g 2, nth g 3, nth g 4, nth g 5, nth g 6, nth g 7, nth g 8, nth g 9, nth g 10, nth g 11, nth g 12, nth g 13, nth g 14, nth g 15, nth g 16, nth g 17, nth g 18, nth g 19, nth g 20, nth g 21, nth g 22, nth g 23, nth g 24, nth g 25, nth g 26, nth g 27, nth g 28, nth g 29, nth g 30, nth g 31, nth g 32, nth g 33, nth g 34, nth g 35, nth g 36, nth g 37, nth g 38, nth g 39, nth g 40, nth g 41, nth g 42, nth g 43, nth g 44, nth g 45, nth g 46, nth g 47, nth g 48, nth g 49, nth g 50, nth g 51, nth g 52] ∧ I n i_5 w) n0 ⟨_, _, rfl, h0⟩ ?_
  rintro n s w ⟨i_5, g, rfl, hI⟩
  exact Eq.mpr (by kernel_rfl) (hs n i_5 g w hI (fun i_5 g w => (backQ (fun n s w => ∃ (i_5 : Int) (g : List Value), s = [nth g 0, .pointer (some ⟨a_1, 0, none⟩), .pointer (some ⟨x_2, 0, none⟩), nth g 1, .pointer (some ⟨x_4, 0, none⟩), .int .i64 i_5, nth g 2, nth g 3, nth g 4, nth g 5, nth g 6, nth g 7, nth g 8, nth g 9, nth g 10, nth g 11, nth g 12, nth g 13, nth g 14, nth g 15, nth g 16, nth g 17, nth g 18, nth g 19, nth g 20, nth g 21, nth g 22, nth g 23, nth g 24, nth g 25, nth g 26, nth g 27, nth g 28, nth g 29, nth g 30, nth g 31, nth g 32, nth g 33, nth g 34, nth g 35, nth g 36, nth g 37, nth g 38, nth g 39, nth g 40, nth g 41, nth g 42, nth g 43, nth g 44, nth g 45, nth g 46, nth g 47, nth g 48, nth g 49, nth g 50, nth g 51, nth g 52] ∧ I n i_5 w) n (ctxQ Tryz.prog (bodyC Tryz.f18) [true, true, true, false, true, false] (retQ Tryz.prog Tryz.f18 R))) .normal [nth g 0, .pointer (some ⟨a_1, 0, none⟩), .pointer (some ⟨x_2, 0, none⟩), nth g 1, .pointer (some ⟨x_4, 0, none⟩), .int .i64 i_5, nth g 2, nth g 3, nth g 4, nth g 5, nth g 6, nth g 7, nth g 8, nth g 9, nth g 10, nth g 11, nth g 12, nth g 13, nth g 14, nth g 15, nth g 16, nth g 17, nth g 18, nth g 19, nth g 20, nth g 21, nth g 22, nth g 23, nth g 24, nth g 25, nth g 26, nth g 27, nth g 28, nth g 29, nth g 30, nth g 31, nth g 32, nth g 33, nth g 34, nth g 35, nth g 36, nth g 37, nth g 38, nth g 39, nth g 40, nth g 41, nth g 42, nth g 43, nth g 44, nth g 45, nth g 46, nth g 47, nth g 48, nth g 49, nth g 50, nth g 51, nth g 52] w) (fun m i_5 g w hm hI => ⟨m, hm, i_5, g, rfl, hI⟩))
theorem calls (R : Ending → World → Prop) (a_0a : Int) (a_0b : Int) (a_0c : Int) (a_0d : Int) (a_0e : Int) (w : World) (h : vc R a_0a a_0b a_0c a_0d a_0e w) : Calls Tryz.prog 18 #[.agg #[.int .i64 a_0a, .int .i64 a_0b, .int .i64 a_0c, .int .i64 a_0d, .int .i64 a_0e]] w R :=
  calls_V Tryz.func18 (Eq.mpr (by kernel_rfl) (h (fun a_1 x_2 x_4 i_5 g w => atV Tryz.prog (bodyC Tryz.f18) [true, true, true, false, true, false] (retQ Tryz.prog Tryz.f18 R) [nth g 0, .pointer (some ⟨a_1, 0, none⟩), .pointer (some ⟨x_2, 0, none⟩), nth g 1, .pointer (some ⟨x_4, 0, none⟩), .int .i64 i_5, nth g 2, nth g 3, nth g 4, nth g 5, nth g 6, nth g 7, nth g 8, nth g 9, nth g 10, nth g 11, nth g 12, nth g 13, nth g 14, nth g 15, nth g 16, nth g 17, nth g 18, nth g 19, nth g 20, nth g 21, nth g 22, nth g 23, nth g 24, nth g 25, nth g 26, nth g 27, nth g 28, nth g 29, nth g 30, nth g 31, nth g 32, nth g 33, nth g 34, nth g 35, nth g 36, nth g 37, nth g 38, nth g 39, nth g 40, nth g 41, nth g 42, nth g 43, nth g 44, nth g 45, nth g 46, nth g 47, nth g 48, nth g 49, nth g 50, nth g 51, nth g 52] w) (fun a_1 x_2 x_4 i_5 g w h => at0 R a_1 x_2 x_4 i_5 g w h)))
end postroomlaw20_made
end Go.Proofs.YtcofknlcdgidpaaGreatDoor
/-! ## Law -/
namespace Go.Proofs.YtcofknlcdgidpaaGreatDoor
open Go Go.RowKit Go.Proofs.YtcofknlcdgidpaaGreatDoor.VC
set_option linter.unusedVariables false
set_option maxRecDepth 100000

def pickI (c n : Int) : Int := Int.tmod (if c < 0 then -(c + 1) else c) n
theorem pickI_nonneg {c n : Int} (hn : 0 < n) : 0 ≤ pickI c n := Int.tmod_nonneg _ (by split <;> omega)
theorem pickI_lt {c n : Int} (hn : 0 < n) : pickI c n < n := Int.tmod_lt_of_pos _ hn
def I64 (c : Int) : Prop := -9223372036854775808 ≤ c ∧ c < 9223372036854775808
theorem wrap_I64 (c : Int) : I64 (IntKind.wrap .i64 c) := by
  unfold I64
  rw [wrap_i64_eq]; split <;> omega
theorem law_pick (c n : Int) (hc : I64 c) (hn : 0 < n) (w0 : World) : Calls Tryz.prog 15 #[.int .i64 c, .int .i64 n] w0 (fun e w => e = .returned (.int .i64 (pickI c n)) ∧ w = w0) := by
  apply postroomlaw20_pick.calls
  unfold postroomlaw20_pick.vc postroomlaw20_pick.t0
  obtain ⟨h1, h2⟩ := hc
  have nz : ∀ A : Prop, A → nzV n A := by
    intro A ha
    unfold nzV
    split
    · exact absurd hn (by decide)
    · exact ha
  by_cases h : c < 0
  · refine boolT (by simpa using h) (nz _ ⟨?_, rfl⟩)
    have : IntKind.wrap .i64 (0 - (IntKind.wrap .i64 (c + 1))) = -(c + 1) := by
      rw [wrap_i64 (n := c + 1) (by omega) (by omega), wrap_i64 (by omega) (by omega)]; omega
    rw [this, pickI, if_pos h]
  · refine boolF (by simpa using h) (nz _ ⟨?_, rfl⟩)
    rw [pickI, if_neg h]
def cfgOf (b seg batch shards : Int) : Cfg := ⟨b, 100 + pickI seg 900, 1 + pickI batch 4, 3, 1, 4, 1 + pickI shards 8⟩
theorem law_config (b seg batch shards : Int) (h1 : I64 seg) (h2 : I64 batch) (h3 : I64 shards) (w0 : World) :
    Calls Tryz.prog 16 #[.int .i64 b, .int .i64 seg, .int .i64 batch, .int .i64 shards] w0 (fun e w => e = .returned (cfgOf b seg batch shards).val ∧ Below w0.heap.size w0 w) := by
  apply postroomlaw20_config.calls
  unfold postroomlaw20_config.vc postroomlaw20_config.t0
  refine allocV (cs := [.int .i64 0, .int .i64 0, .int .i64 0, .int .u64 0, .int .u64 0, .int .u64 0, .int .i64 0]) ?_
  intro w2 hv hb2 hs2
  refine (law_pick seg 900 h1 (by decide) w2).mono ?_
  rintro e w4 ⟨rfl, rfl⟩
  refine ⟨_, rfl, (law_pick batch 4 h2 (by decide) w4).mono ?_⟩
  rintro e w7 ⟨rfl, rfl⟩
  refine ⟨_, rfl, (law_pick shards 8 h3 (by decide) w7).mono ?_⟩
  rintro e w10 ⟨rfl, rfl⟩
  have a1 := pickI_nonneg (c := seg) (n := 900) (by decide)
  have a2 := pickI_lt (c := seg) (n := 900) (by decide)
  have b1 := pickI_nonneg (c := batch) (n := 4) (by decide)
  have b2 := pickI_lt (c := batch) (n := 4) (by decide)
  have c1 := pickI_nonneg (c := shards) (n := 8) (by decide)
  have c2 := pickI_lt (c := shards) (n := 8) (by decide)
  refine ⟨_, rfl, st7V hv ?_⟩
  intro w12 hv12 hg hs
  refine ⟨_, _, _, _, _, _, _, ⟨hv12.cell (j := 0) rfl, hv12.cell (j := 1) rfl, hv12.cell (j := 2) rfl, hv12.cell (j := 3) rfl, hv12.cell (j := 4) rfl, hv12.cell (j := 5) rfl, hv12.cell (j := 6) rfl⟩, ?_, below_grown hb2 hg hb2.size (Nat.le_refl _)⟩
  rw [wrap_i64 (n := 100 + pickI seg 900) (by omega) (by omega), wrap_i64 (n := 1 + pickI batch 4) (by omega) (by omega), wrap_i64 (n := 1 + pickI shards 8) (by omega) (by omega)]
  rfl

theorem st2V {w : World} {ty : TypeId} {blk : Nat} {z0 z1 a b : Value} (hb : Blk w blk ty [z0, z1]) {K : World → Prop} (h : ∀ w6, Blk w6 blk ty [a, b] → w.grownBy w6 (some blk) → w6.heap.size = w.heap.size → K w6) :
    Writable w ⟨blk, 0, none⟩ 2 ∧ ∀ w6 : World, w6 = World.setCell (World.setCell w ⟨blk, 0, none⟩ a) ⟨blk, 1, none⟩ b → K w6 := by
  refine ⟨hb.writable (Nat.le_refl 2), ?_⟩
  rintro w6 rfl
  exact h _ ((hb.set 0 a).set 1 b) (gset (gset (grown_refl w _) 0 a) 1 b) (by simp [World.setCell])
/-! ### An entry of an act -/
structure ActV where
  op : Int
  name : Int
  shard : Int
  n : Int
  kind : Int
def ActV.val (a : ActV) : Value := .agg #[.int .i64 a.op, .int .i64 a.name, .int .i64 a.shard, .int .i64 a.n, .int .i64 a.kind]
def ActV.cells (a : ActV) : List Value := [.int .i64 a.op, .int .i64 a.name, .int .i64 a.shard, .int .i64 a.n, .int .i64 a.kind]
def ActV.OK (a : ActV) : Prop := I64 a.shard ∧ I64 a.n ∧ I64 a.kind
def letters : List UInt8 := [116, 117, 118, 119, 120, 121, 122]
def madeVal (a : ActV) : Txt := (letters.drop (pickI a.n 7).toNat).take 1
def madeSmp (a : ActV) (i : Nat) : Nat × Int := ((pickI a.n 50 + (i : Int) * (1 + pickI a.shard 3)).toNat, IntKind.wrap .i64 (a.n * (1 + (i : Int))))
def madeN (a : ActV) : Nat := (1 + pickI a.kind 20).toNat
def madeS (a : ActV) (k : Nat) : List (Nat × Int) := (List.range k).map (madeSmp a)
def madeE (a : ActV) : Ent := ⟨(([115], madeVal a) : Txt × Txt) :: (if pickI a.kind 23 = 22 then [(([115], []) : Txt × Txt)] else []), madeS a (madeN a)⟩
theorem madeS_len (a : ActV) (k : Nat) : (madeS a k).length = k := by simp [madeS]
theorem madeS_succ (a : ActV) (k : Nat) : smpCs (madeS a (k + 1)) = smpCs (madeS a k) ++ smpC (madeSmp a k) := by
  rw [madeS, List.range_succ, List.map_append, smpCs, List.flatMap_append]; simp [madeS, smpCs]
theorem madeN_le (a : ActV) : madeN a ≤ 20 := by
  have := pickI_lt (c := a.kind) (n := 20) (by decide)
  unfold madeN; omega
theorem madeVal_len (a : ActV) : (madeVal a).length ≤ 1 := by unfold madeVal; rw [List.length_take]; omega
theorem law_made (a : ActV) (ha : a.OK) (w0 : World) :
    Calls Tryz.prog 18 #[a.val] w0 (fun e w => Below w0.heap.size w0 w ∧ ∃ la ln lc sa sn sc, e = .returned (.agg #[.slice la ln lc, .slice sa sn sc]) ∧ EntAt w (madeE a) la ln lc sa sn sc) := by
  apply postroomlaw20_made.calls
  intro L0 hL
  unfold postroomlaw20_made.t0
  obtain ⟨hsh, hnn, hkk⟩ := ha
  refine allocV (cs := a.cells) ?_
  intro w2 h1 hb2 hs2
  refine allocV (cs := [.slice none 0 0, .slice none 0 0]) ?_
  intro w4 h3 hb4 hs4
  have h14 := h1.below hb4 h1.lt
  have hb4' := hb2.trans (hb4.mono hb2.size)
  refine ⟨_, h14.cell (j := 3) rfl, (law_pick a.n 7 hnn (by decide) w4).mono ?_⟩
  rintro e w7 ⟨rfl, rfl⟩
  have p1 := pickI_nonneg (c := a.n) (n := 7) (by decide)
  have p2 := pickI_lt (c := a.n) (n := 7) (by decide)
  have hw1 : IntKind.wrap .i64 (pickI a.n 7 + 1) = pickI a.n 7 + 1 := wrap_i64 (by omega) (by omega)
  have hext : (⟨#[116, 117, 118, 119, 120, 121, 122]⟩ : ByteArray).extract (pickI a.n 7).toNat (pickI a.n 7 + 1).toNat = S (madeVal a) := by
    have hd : (pickI a.n 7 + 1).toNat - (pickI a.n 7).toNat = 1 := by omega
    rw [show (⟨#[116, 117, 118, 119, 120, 121, 122]⟩ : ByteArray) = S letters from rfl, S_extract, hd]
    rfl
  refine ⟨_, rfl, ?_⟩
  rw [hw1, hext]
  refine ⟨⟨p1, by omega, ?_⟩, ?_⟩
  · show _ ≤ ((7 : Nat) : Int); omega
  refine allocV (cs := [.string (S [115]), .string (S (madeVal a))]) ?_
  intro w10 h9 hb10 hs10
  refine var2V ?_
  intro w13 h11 hb13 hs13
  have hb13' : Below w0.heap.size w0 w13 := (hb4'.trans (hb10.mono hb4'.size)).trans (hb13.mono (hb4'.trans (hb10.mono hb4'.size)).size)
  have k3 := h3.lt
  have k9 := h9.lt
  have k11 := h11.lt
  have h113 := (h14.below hb10 h14.lt).below hb13 (by have := h14.lt; have := hb10.size; omega)
  have h313 := (h3.below hb10 h3.lt).below hb13 (by have := hb10.size; omega)
  have h913 := h9.below hb13 h9.lt
  have z2 := hb2.size
  have z4 := hb4.size
  have z10 := hb10.size
  refine hL _ _ _ _ _ _ ?_
  refine ⟨fun m i w => ∃ (k : Nat) (sa : Option Addr) (sc : Nat), i = (k : Int) ∧ k ≤ madeN a ∧ m = madeN a - k ∧ Blk w w0.heap.size 56 a.cells ∧ Blk w w2.heap.size 53 [.slice none 0 0, .slice none 0 0] ∧ Blk w w7.heap.size 112 [.string (S [115]), .string (S (madeVal a))] ∧
      Blk w w10.heap.size 53 [.slice (some ⟨w7.heap.size, 0, none⟩) 1 1, .slice sa k sc] ∧ w.ownsRow w0.heap.size 114 2 (.slice sa k sc) k (smpCs (madeS a k)) ∧ Below w0.heap.size w0 w, _,
    ⟨0, none, 0, rfl, Nat.zero_le _, rfl, h113, h313, h913, h11, World.ownsRow_nil _ _ _ _, hb13'⟩, ?_⟩
  rintro m i g w ⟨k, sa, sc, rfl, hk, rfl, B1, B3, B9, B11, ho, hb⟩ Back hback
  unfold postroomlaw20_made.t1
  refine ⟨_, B1.cell (j := 4) rfl, (law_pick a.kind 20 hkk (by decide) w).mono ?_⟩
  rintro e w3 ⟨rfl, rfl⟩
  have q1 := pickI_nonneg (c := a.kind) (n := 20) (by decide)
  have q2 := pickI_lt (c := a.kind) (n := 20) (by decide)
  have hwk : IntKind.wrap .i64 (1 + pickI a.kind 20) = (madeN a : Int) := by rw [wrap_i64 (by omega) (by omega), madeN]; omega
  have h20 := madeN_le a
  refine ⟨_, rfl, ?_⟩
  rw [hwk]
  by_cases hlt : k < madeN a
  · refine boolT (by simp; omega) ⟨fun V => Blk V w0.heap.size 56 a.cells ∧ Blk V w10.heap.size 53 [.slice (some ⟨w7.heap.size, 0, none⟩) 1 1, .slice sa k sc], ?_⟩
    intro w6 e1 e2 e3 e4
    have hs6 := same_below (w := w3) (w' := w6) w3.heap.size e1 e2 e3 e4
    have B16 := B1.same e1
    have B116 := B11.same e1
    refine ⟨⟨B16, B116⟩, _, _, _, fun V hV => hV.2.cell (j := 1) rfl, _, fun V hV => hV.1.cell (j := 3) rfl, _, fun V hV => hV.1.cell (j := 2) rfl, _, fun V hV => hV.1.cell (j := 3) rfl, (law_pick a.n 50 hnn (by decide) w6).mono ?_⟩
    rintro e w14 ⟨rfl, rfl⟩
    refine ⟨_, rfl, ⟨B16, B116⟩, (law_pick a.shard 3 hsh (by decide) w14).mono ?_⟩
    rintro e w17 ⟨rfl, rfl⟩
    refine ⟨_, rfl, ⟨B16, B116⟩, ?_⟩
    have r1 := pickI_nonneg (c := a.n) (n := 50) (by decide)
    have r2 := pickI_lt (c := a.n) (n := 50) (by decide)
    have s1 := pickI_nonneg (c := a.shard) (n := 3) (by decide)
    have s2 := pickI_lt (c := a.shard) (n := 3) (by decide)
    have hm1 : 0 ≤ (k : Int) * (1 + pickI a.shard 3) := Int.mul_nonneg (by omega) (by omega)
    have hm2 : (k : Int) * (1 + pickI a.shard 3) ≤ 20 * 3 := Int.mul_le_mul (by omega) (by omega) (by omega) (by omega)
    have v1 : IntKind.wrap .u64 (IntKind.wrap .i64 (pickI a.n 50 + (IntKind.wrap .i64 ((k : Int) * (IntKind.wrap .i64 (1 + pickI a.shard 3)))))) = ((madeSmp a k).1 : Int) := by
      rw [wrap_i64 (n := 1 + pickI a.shard 3) (by omega) (by omega), wrap_i64 (n := (k : Int) * (1 + pickI a.shard 3)) (by omega) (by omega), wrap_i64 (by omega) (by omega), wrap_u64_int]
      rw [madeSmp]
      simp only
      omega
    have v2 : IntKind.wrap .i64 (a.n * (IntKind.wrap .i64 (1 + (k : Int)))) = (madeSmp a k).2 := by
      rw [wrap_i64 (n := 1 + (k : Int)) (by omega) (by omega)]; rfl
    rw [v1, v2]
    rintro b19 w20 rfl rfl
    have hal := (Below.refl w17.heap.size w17).alloc (Nat.le_refl _) (.cells #[.int .u64 (madeSmp a k).1, .int .i64 (madeSmp a k).2] 114)
    have hb17 : Below w0.heap.size w0 w17 := hb.trans (hs6.mono hb.size)
    have ho17 := own_below ho hs6
    refine ⟨⟨B16.below hal B16.lt, B116.below hal B116.lt⟩, ?_⟩
    refine appendV (P := Tryz.prog) (size := 2) (news := [.int .u64 (madeSmp a k).1, .int .i64 (madeSmp a k).2]) (by kernel_rfl) ho17 hb17.size (m := 1) (by rfl) (by simp [Value.oneCell']) (by decide) (by omega) ?_
    intro gg c' w22 ho22 hb22 hg22 hsz22
    have B122 := B16.grown hg22 (own_ne ho17 B16 (by decide)).symm
    have B322 := (B3.same e1).grown hg22 (own_ne ho17 (B3.same e1) (by decide)).symm
    have B922 := (B9.same e1).grown hg22 (own_ne ho17 (B9.same e1) (by decide)).symm
    have B1122 := B116.grown hg22 (own_ne ho17 B116 (by decide)).symm
    refine ⟨_, _, _, rfl, ⟨B122, B1122⟩, B1122.writable (o := 1) (by simp), ?_⟩
    rintro w26 rfl
    have hb22' : Below w0.heap.size w0 w22 := hb17.trans hb22
    refine hback (madeN a - (k + 1)) _ _ _ (by omega) ⟨k + 1, some ⟨gg, 0, none⟩, c', ?_, hlt, rfl, B122.other (p := ⟨w10.heap.size, 1, none⟩) (by simp; omega) _, B322.other (p := ⟨w10.heap.size, 1, none⟩) (by simp; omega) _, B922.other (p := ⟨w10.heap.size, 1, none⟩) (by simp; omega) _, B1122.set 1 (.slice (some ⟨gg, 0, none⟩) (k + 1) c'), ?_, hb22'.setCell (p := ⟨w10.heap.size, 1, none⟩) (by simp; omega) _⟩
    · rw [wrap_i64 (by omega) (by omega)]; omega
    · rw [madeS_succ]
      exact own_set ho22 B1122 (by decide) 1 (.slice (some ⟨gg, 0, none⟩) (k + 1) c')
  · have hkk' : k = madeN a := by omega
    subst hkk'
    refine boolF (by simp) ⟨_, B1.cell (j := 4) rfl, (law_pick a.kind 23 hkk (by decide) w3).mono ?_⟩
    rintro e w29 ⟨rfl, rfl⟩
    refine ⟨_, rfl, ?_⟩
    by_cases h22 : pickI a.kind 23 = 22
    · refine boolT (by simpa using h22) ⟨_, _, _, B11.cell (j := 0) rfl, ?_⟩
      rintro b34 w35 rfl rfl
      have hol : w29.ownsRow w0.heap.size 112 2 (.slice (some ⟨w7.heap.size, 0, none⟩) 1 1) 1 (pairCs [([115], madeVal a)]) := B9.own (by omega) (by decide) rfl
      refine appendV (P := Tryz.prog) (size := 2) (news := [.string (S [115]), .string (S [])]) (by kernel_rfl) hol hb.size (m := 1) (by rfl) (by simp [Value.oneCell']) (by decide) (by omega) ?_
      intro gg c' w37 ho37 hb37 hg37 hsz37
      have B137 := B1.grown hg37 (own_ne hol B1 (by decide)).symm
      have B337 := B3.grown hg37 (own_ne hol B3 (by decide)).symm
      have B1137 := B11.grown hg37 (own_ne hol B11 (by decide)).symm
      have hos37 := ho.kept hg37 (.inr (fun e => (own_ne ho B9 (by decide)) (by rw [e]; rfl)))
      have hb37' : Below w0.heap.size w0 w37 := hb.trans hb37
      refine ⟨_, _, _, rfl, B1137.writable (o := 0) (by simp), ?_⟩
      rintro w41 rfl
      have B1141 := B1137.set 0 (.slice (some ⟨gg, 0, none⟩) (1 + 1) c')
      have B341 := B337.other (p := ⟨w10.heap.size, 0, none⟩) (by simp; omega) (.slice (some ⟨gg, 0, none⟩) (1 + 1) c')
      have ho41 := own_set ho37 B1137 (by decide) 0 (.slice (some ⟨gg, 0, none⟩) (1 + 1) c')
      have hos41 := own_set hos37 B1137 (by decide) 0 (.slice (some ⟨gg, 0, none⟩) (1 + 1) c')
      have hb41 := hb37'.setCell (p := ⟨w10.heap.size, 0, none⟩) (by simp; omega) (.slice (some ⟨gg, 0, none⟩) (1 + 1) c')
      refine ⟨_, _, _, _, _, _, ⟨B1141.cell (j := 0) rfl, B1141.cell (j := 1) rfl⟩, st2V B341 ?_⟩
      intro w48 hv hg hs
      have f1 := ho41.kept hg (.inr (own_ne ho41 B341 (by decide)))
      have f2 := hos41.kept hg (.inr (own_ne hos41 B341 (by decide)))
      have f3 := own_le f1
      have f4 := own_le f2
      refine ⟨_, _, _, _, _, _, ⟨hv.cell (j := 0) rfl, hv.cell (j := 1) rfl⟩, below_grown hb41 hg hb41.size (by omega), _, _, _, _, _, _, rfl, ?_⟩
      have hE : madeE a = ⟨[([115], madeVal a), ([115], [])], madeS a (madeN a)⟩ := by simp [madeE, h22]
      rw [hE]
      have hvl := madeVal_len a
      exact ⟨rfl, f3, by decide, by intro p hp; simp at hp; rcases hp with rfl | rfl <;> exact Nat.lt_of_le_of_lt (m := 5) (by simp) (by decide), RowAt.of_own f1, (madeS_len a _).symm, f4, by omega, RowAt.of_own f2⟩
    · refine boolF (by simpa using h22) ⟨_, _, _, _, _, _, ⟨B11.cell (j := 0) rfl, B11.cell (j := 1) rfl⟩, st2V B3 ?_⟩
      intro w48 hv hg hs
      have B948 := B9.grown hg (by simp; omega)
      have f2 := ho.kept hg (.inr (own_ne ho B3 (by decide)))
      have f4 := own_le f2
      refine ⟨_, _, _, _, _, _, ⟨hv.cell (j := 0) rfl, hv.cell (j := 1) rfl⟩, below_grown hb hg hb.size (by omega), _, _, _, _, _, _, rfl, ?_⟩
      have hE : madeE a = ⟨[([115], madeVal a)], madeS a (madeN a)⟩ := by simp [madeE, h22]
      rw [hE]
      have hvl := madeVal_len a
      exact ⟨rfl, by decide, by decide, by intro p hp; simp at hp; rcases hp with rfl; exact Nat.lt_of_le_of_lt (m := 5) (by simp) (by decide), RowAt.of_blk B948, (madeS_len a _).symm, f4, by omega, RowAt.of_own f2⟩
end Go.Proofs.YtcofknlcdgidpaaGreatDoor
/-! ## GmodelModelStats -/
namespace Go.Proofs.YtcofknlcdgidpaaGreatDoor
open Go Go.Proofs.YtcofknlcdgidpaaGreatDoor.VC
set_option linter.unusedVariables false
set_option maxRecDepth 100000
set_option maxHeartbeats 0

/-! ### (*postroom/model.Model).Stats: function 13 -/
namespace model_Model_Stats
def t1 (R : Ending → World → Prop)  (Back0 : (Option Addr) → Nat → Nat → Int → List Value → World → Prop)  (m_0 : Option Addr) (out_3a : Option Addr) (out_3b : Nat) (out_3c : Nat) (x_10a : Option Addr) (x_10b : Nat) (x_10c : Nat) (x_11 : Int) (x_12 : Int) (g : List Value) (w : World) : Prop := boolV (decide (x_12 < x_11)) (someV x_10a (fun p1 => (0 ≤ x_12 ∧ x_12 < (x_10b : Nat)) ∧ (∃ s2 : ByteArray, ∃ x3 : Int, ∃ x4 : Int, ∃ (a5 : Option Addr) (n6 c7 : Nat), ∃ x8 : Int, ∃ x9 : Int, ∃ x10 : Int, (w.cell? (p1.add (x_12.toNat * 7)) = some (.string s2) ∧ w.cell? ((p1.add (x_12.toNat * 7)).add 1) = some (.int .u64 x3) ∧ w.cell? ((p1.add (x_12.toNat * 7)).add 2) = some (.int .u64 x4) ∧ w.cell? ((p1.add (x_12.toNat * 7)).add 3) = some (.slice a5 n6 c7) ∧ w.cell? ((p1.add (x_12.toNat * 7)).add 4) = some (.int .u64 x8) ∧ w.cell? ((p1.add (x_12.toNat * 7)).add 5) = some (.int .u64 x9) ∧ w.cell? ((p1.add (x_12.toNat * 7)).add 6) = some (.int .u64 x10)) ∧ (∀ (b11 : Nat) (w12 : World), b11 = w.heap.size → w12 = World.alloc w (.cells #[.string ByteArray.empty, .int .u64 0, .int .u64 0, .slice none 0 0, .int .u64 0, .int .u64 0, .int .u64 0] 63) → Writable w12 ⟨b11, 0, none⟩ 7 ∧ ∀ w13 : World, w13 = World.setCell (World.setCell (World.setCell (World.setCell (World.setCell (World.setCell (World.setCell w12 ⟨b11, 0, none⟩ (.string s2)) ⟨b11, 1, none⟩ (.int .u64 x3)) ⟨b11, 2, none⟩ (.int .u64 x4)) ⟨b11, 3, none⟩ (.slice a5 n6 c7)) ⟨b11, 4, none⟩ (.int .u64 x8)) ⟨b11, 5, none⟩ (.int .u64 x9)) ⟨b11, 6, none⟩ (.int .u64 x10) → ∃ S14 : World → Prop, (∀ w15 : World, w15.heap = w13.heap → w15.tape = w13.tape → w15.os = w13.os → w15.output = w13.output → S14 w15 ∧ (∃ s16 : ByteArray, (∀ w, S14 w → w.cell? ⟨b11, 0, none⟩ = some (.string s16)) ∧ (someV m_0 (fun p17 => ∃ x18 : Int, ∃ x19 : Int, ∃ (a20 : Option Addr) (n21 c22 : Nat), (∀ w, S14 w → w.cell? (p17.add 7) = some (.int .u64 x18) ∧ w.cell? ((p17.add 7).add 1) = some (.int .u64 x19) ∧ w.cell? ((p17.add 7).add 2) = some (.slice a20 n21 c22)) ∧ (∃ s23 : ByteArray, (∀ w, S14 w → w.cell? ⟨b11, 0, none⟩ = some (.string s23)) ∧ (∃ x24 : Int, (∀ w, S14 w → w.cell? ⟨b11, 4, none⟩ = some (.int .u64 x24)) ∧ (∃ x25 : Int, (∀ w, S14 w → w.cell? ⟨b11, 5, none⟩ = some (.int .u64 x25)) ∧ (∃ x26 : Int, (∀ w, S14 w → w.cell? ⟨b11, 6, none⟩ = some (.int .u64 x26)) ∧ (Calls Tryz.prog 22 #[.agg #[.int .u64 x18, .int .u64 x19, .slice a20 n21 c22], .string s23] w15 (fun e27 w28 => ∃ (a29 : Option Addr) (n30 c31 : Nat), e27 = .returned (.slice a29 n30 c31) ∧ (S14 w28 ∧ (∀ (b32 : Nat) (w33 : World), b32 = w28.heap.size → w33 = World.alloc w28 (.cells #[.string s16, .int .u64 (IntKind.wrap .u64 ((n30 : Nat) : Int)), .int .u64 x24, .int .u64 x25, .int .u64 x26] 93) → S14 w33 ∧ (runV Tryz.prog (Builtin.append_ #[41, 41] 41 #[.slice out_3a out_3b out_3c, .slice (some ⟨b32, 0, none⟩) 1 1]) w33 (fun v34 w35 => ∃ (a36 : Option Addr) (n37 c38 : Nat), v34 = .slice a36 n37 c38 ∧ (S14 w35 ∧ (Back0 a36 n37 c38 (IntKind.wrap .i64 (x_12 + 1)) [nth g 0, nth g 1, nth g 2, .pointer (some ⟨b11, 0, none⟩), nth g 4, nth g 5, nth g 6, nth g 7, .bool (decide (x_12 < x_11)), .pointer (some (p1.add (x_12.toNat * 7))), .agg #[.string s2, .int .u64 x3, .int .u64 x4, .slice a5 n6 c7, .int .u64 x8, .int .u64 x9, .int .u64 x10], .slice out_3a out_3b out_3c, .pointer (some ⟨b11, 0, none⟩), .string s16, .pointer m_0, .pointer (some p17), .pointer (some (p17.add 7)), .agg #[.int .u64 x18, .int .u64 x19, .slice a20 n21 c22], .pointer (some ⟨b11, 0, none⟩), .string s23, .slice a29 n30 c31, .int .i64 ((n30 : Nat) : Int), .int .u64 (IntKind.wrap .u64 ((n30 : Nat) : Int)), .pointer (some ⟨b11, 4, none⟩), .int .u64 x24, .pointer (some ⟨b11, 5, none⟩), .int .u64 x25, .pointer (some ⟨b11, 6, none⟩), .int .u64 x26, .agg #[.string s16, .int .u64 (IntKind.wrap .u64 ((n30 : Nat) : Int)), .int .u64 x24, .int .u64 x25, .int .u64 x26], .slice (some ⟨b32, 0, none⟩) 1 1, .slice a36 n37 c38, .int .i64 (IntKind.wrap .i64 (x_12 + 1)), nth g 33] w35)))))))))))))))))))) (R (.returned (.slice out_3a out_3b out_3c)) w)
def W0 (R : Ending → World → Prop)  (m_0 : Option Addr) (out_3a : Option Addr) (out_3b : Nat) (out_3c : Nat) (x_10a : Option Addr) (x_10b : Nat) (x_10c : Nat) (x_11 : Int) (x_12 : Int) (w : World) : Prop := ∃ (I : Nat → (Option Addr) → Nat → Nat → Int → World → Prop) (n : Nat), I n out_3a out_3b out_3c x_12 w ∧ ∀ (n : Nat) (out_3a : Option Addr) (out_3b : Nat) (out_3c : Nat) (x_12 : Int) (g : List Value) (w : World), I n out_3a out_3b out_3c x_12 w → ∀ (Back0 : (Option Addr) → Nat → Nat → Int → List Value → World → Prop), (∀ (m : Nat) (out_3a : Option Addr) (out_3b : Nat) (out_3c : Nat) (x_12 : Int) (g : List Value) (w : World), m < n → I m out_3a out_3b out_3c x_12 w → Back0 out_3a out_3b out_3c x_12 g w) → t1 R  Back0  m_0 out_3a out_3b out_3c x_10a x_10b x_10c x_11 x_12 g w
def t0 (R : Ending → World → Prop) (L0 : (Option Addr) → (Option Addr) → Nat → Nat → (Option Addr) → Nat → Nat → Int → Int → List Value → World → Prop) (m_0 : Option Addr) (w : World) : Prop := someV m_0 (fun p1 => ∃ (a2 : Option Addr) (n3 c4 : Nat), w.cell? ((p1.add 7).add 2) = some (.slice a2 n3 c4) ∧ (L0 m_0 none 0 0 a2 n3 c4 ((n3 : Nat) : Int) 0 [undef, .slice none 0 0, undef, undef, .pointer m_0, .pointer (some p1), .pointer (some (p1.add 7)), .pointer (some ((p1.add 7).add 2)), undef, undef, undef, undef, undef, undef, undef, undef, undef, undef, undef, undef, undef, undef, undef, undef, undef, undef, undef, undef, undef, undef, undef, undef, undef, undef] w))
def vc (R : Ending → World → Prop) (m_0 : Option Addr) (w : World) : Prop := ∀ (L0 : (Option Addr) → (Option Addr) → Nat → Nat → (Option Addr) → Nat → Nat → Int → Int → List Value → World → Prop), (∀ m_0 out_3a out_3b out_3c x_10a x_10b x_10c x_11 x_12 g w, W0 R m_0 out_3a out_3b out_3c x_10a x_10b x_10c x_11 x_12 w → L0 m_0 out_3a out_3b out_3c x_10a x_10b x_10c x_11 x_12 g w) → t0 R L0 m_0 w
theorem at0 (R : Ending → World → Prop) (m_0 : Option Addr) (out_3a : Option Addr) (out_3b : Nat) (out_3c : Nat) (x_10a : Option Addr) (x_10b : Nat) (x_10c : Nat) (x_11 : Int) (x_12 : Int) (g : List Value) (w : World) (h : W0 R  m_0 out_3a out_3b out_3c x_10a x_10b x_10c x_11 x_12 w) : atV Tryz.prog (bodyC Tryz.f13) [true, true, false, true, false] (retQ Tryz.prog Tryz.f13 R) [.pointer m_0, nth g 0, nth g 1, .slice out_3a out_3b out_3c, nth g 2, nth g 3, nth g 4, nth g 5, nth g 6, nth g 7, .slice x_10a x_10b x_10c, .int .i64 x_11, .int .i64 x_12, nth g 8, nth g 9, nth g 10, nth g 11, nth g 12, nth g 13, nth g 14, nth g 15, nth g 16, nth g 17, nth g 18, nth g 19, nth g 20, nth g 21, nth g 22, nth g 23, nth g 24, nth g 25, nth g 26, nth g 27, nth g 28, nth g 29, nth g 30, nth g 31, nth g 32, nth g 33] w := by
  obtain ⟨I, n0, h0, hs⟩ := h
  refine atV_loop (by kernel_rfl) (fun n s w => ∃ (out_3a : Option Addr) (out_3b : Nat) (out_3c : Nat) (x_12 : Int) (g : List Value), s = [.pointer m_0, nth g 0, nth g 1, .slice out_3a out_3b out_3c, nth g 2, nth g 3, nth g 4, nth g 5, nth g 6, nth g 7, .slice x_10a x_10b x_10c, .int .i64 x_11, .int .i64 x_12, nth g 8, nth g 9, nth g 10, nth g 11, nth g 12, nth g 13, nth g 14, nth g 15, nth g 16, nth g 17, nth g 18, nth g 19, nth g 20, nth g 21, nth g 22, nth g 23, nth g 24, nth g 25, nth g 26, nth g 27, nth g 28, nth g 29, nth g 30, nth g 31, nth g 32, nth g 33] ∧ I n out_3a out_3b out_3c x_12 w) n0 ⟨_, _, _, _, _, rfl, h0⟩ ?_
  rintro n s w ⟨out_3a, out_3b, out_3c, x_12, g, rfl, hI⟩
  exact Eq.mpr (by kernel_rfl) (hs n out_3a out_3b out_3c x_12 g w hI (fun out_3a out_3b out_3c x_12 g w => (backQ (fun n s w => ∃ (out_3a : Option Addr) (out_3b : Nat) (out_3c : Nat) (x_12 : Int) (g : List Value), s = [.pointer m_0, nth g 0, nth g 1, .slice out_3a out_3b out_3c, nth g 2, nth g 3, nth g 4, nth g 5, nth g 6, nth g 7, .slice x_10a x_10b x_10c, .int .i64 x_11, .int .i64 x_12, nth g 8, nth g 9, nth g 10, nth g 11, nth g 12, nth g 13, nth g 14, nth g 15, nth g 16, nth g 17, nth g 18, nth g 19, nth g 20, nth g 21, nth g 22, nth g 23, nth g 24, nth g 25, nth g 26, nth g 27, nth g 28, nth g 29, nth g 30, nth g 31, nth g 32, nth g 33] ∧ I n out_3a out_3b out_3c x_12 w) n (ctxQ Tryz.prog (bodyC Tryz.f13) [true, true, false, true, false] (retQ Tryz.prog Tryz.f13 R))) .normal [.pointer m_0, nth g 0, nth g 1, .slice out_3a out_3b out_3c, nth g 2, nth g 3, nth g 4, nth g 5, nth g 6, nth g 7, .slice x_10a x_10b x_10c, .int .i64 x_11, .int .i64 x_12, nth g 8, nth g 9, nth g 10, nth g 11, nth g 12, nth g 13, nth g 14, nth g 15, nth g 16, nth g 17, nth g 18, nth g 19, nth g 20, nth g 21, nth g 22, nth g 23, nth g 24, nth g 25, nth g 26, nth g 27, nth g 28, nth g 29, nth g 30, nth g 31, nth g 32, nth g 33] w) (fun m out_3a out_3b out_3c x_12 g w hm hI => ⟨m, hm, out_3a, out_3b, out_3c, x_12, g, rfl, hI⟩))
theorem calls (R : Ending → World → Prop) (m_0 : Option Addr) (w : World) (h : vc R m_0 w) : Calls Tryz.prog 13 #[.pointer m_0] w R :=
  calls_V Tryz.func13 (Eq.mpr (by kernel_rfl) (h (fun m_0 out_3a out_3b out_3c x_10a x_10b x_10c x_11 x_12 g w => atV Tryz.prog (bodyC Tryz.f13) [true, true, false, true, false] (retQ Tryz.prog Tryz.f13 R) [.pointer m_0, nth g 0, nth g 1, .slice out_3a out_3b out_3c, nth g 2, nth g 3, nth g 4, nth g 5, nth g 6, nth g 7, .slice x_10a x_10b x_10c, .int .i64 x_11, .int .i64 x_12, nth g 8, nth g 9, nth g 10, nth g 11, nth g 12, nth g 13, nth g 14, nth g 15, nth g 16, nth g 17, nth g 18, nth g 19, nth g 20, nth g 21, nth g 22, nth g 23, nth g 24, nth g 25, nth g 26, nth g 27, nth g 28, nth g 29, nth g 30, nth g 31, nth g 32, nth g 33] w) (fun m_0 out_3a out_3b out_3c x_10a x_10b x_10c x_11 x_12 g w h => at0 R m_0 out_3a out_3b out_3c x_10a x_10b x_10c x_11 x_12 g w h)))
end model_Model_Stats
end Go.Proofs.YtcofknlcdgidpaaGreatDoor
/-! ## GmodelModelLedger -/
namespace Go.Proofs.YtcofknlcdgidpaaGreatDoor
open Go Go.Proofs.YtcofknlcdgidpaaGreatDoor.VC
set_option linter.unusedVariables false
set_option maxRecDepth 100000
set_option maxHeartbeats 0

/-! ### (*postroom/model.Model).Ledger: function 9 -/
namespace model_Model_Ledger
def t1 (R : Ending → World → Prop)  (Back0 : Int → List Value → World → Prop)  (x_2 : Nat) (l_3 : Nat) (x_15 : Int) (x_16 : Int) (g : List Value) (w : World) : Prop := boolV (decide (x_16 < x_15)) (∃ S1 : World → Prop, (∀ w2 : World, w2.heap = w.heap → w2.tape = w.tape → w2.os = w.os → w2.output = w.output → S1 w2 ∧ (∃ (a3 : Option Addr) (n4 c5 : Nat), (∀ w, S1 w → w.cell? ⟨l_3, 2, none⟩ = some (.slice a3 n4 c5)) ∧ (∃ (a6 : Option Addr) (n7 c8 : Nat), (∀ w, S1 w → w.cell? ⟨l_3, 2, none⟩ = some (.slice a6 n7 c8)) ∧ (someV a6 (fun p9 => (0 ≤ x_16 ∧ x_16 < (n7 : Nat)) ∧ (∃ (a10 : Option Addr) (n11 c12 : Nat), (∀ w, S1 w → w.cell? ((p9.add (x_16.toNat * 7)).add 3) = some (.slice a10 n11 c12)) ∧ (Calls Tryz.prog 36 #[.slice a10 n11 c12] w2 (fun e13 w14 => ∃ (a15 : Option Addr) (n16 c17 : Nat), e13 = .returned (.slice a15 n16 c17) ∧ (S1 w14 ∧ (someV a3 (fun p18 => (0 ≤ x_16 ∧ x_16 < (n4 : Nat)) ∧ (Writable w14 ((p18.add (x_16.toNat * 7)).add 3) 1 ∧ ∀ w19 : World, w19 = World.setCell w14 ((p18.add (x_16.toNat * 7)).add 3) (.slice a15 n16 c17) → Back0 (IntKind.wrap .i64 (x_16 + 1)) [nth g 0, nth g 1, .int .i64 x_16, nth g 3, nth g 4, nth g 5, nth g 6, nth g 7, nth g 8, nth g 9, nth g 10, nth g 11, nth g 12, .bool (decide (x_16 < x_15)), .int .i64 x_16, .pointer (some ⟨l_3, 2, none⟩), .slice a3 n4 c5, .int .i64 x_16, .pointer (some ⟨l_3, 2, none⟩), .slice a6 n7 c8, .int .i64 x_16, .pointer (some (p9.add (x_16.toNat * 7))), .pointer (some ((p9.add (x_16.toNat * 7)).add 3)), .slice a10 n11 c12, .slice a15 n16 c17, .pointer (some (p18.add (x_16.toNat * 7))), .pointer (some ((p18.add (x_16.toNat * 7)).add 3)), .int .i64 (IntKind.wrap .i64 (x_16 + 1)), nth g 28] w19))))))))))))) (∃ x20 : Int, ∃ x21 : Int, ∃ (a22 : Option Addr) (n23 c24 : Nat), (w.cell? ⟨l_3, 0, none⟩ = some (.int .u64 x20) ∧ w.cell? ⟨l_3, 1, none⟩ = some (.int .u64 x21) ∧ w.cell? ⟨l_3, 2, none⟩ = some (.slice a22 n23 c24)) ∧ (Writable w ⟨x_2, 0, none⟩ 3 ∧ ∀ w25 : World, w25 = World.setCell (World.setCell (World.setCell w ⟨x_2, 0, none⟩ (.int .u64 x20)) ⟨x_2, 1, none⟩ (.int .u64 x21)) ⟨x_2, 2, none⟩ (.slice a22 n23 c24) → ∃ x26 : Int, ∃ x27 : Int, ∃ (a28 : Option Addr) (n29 c30 : Nat), (w25.cell? ⟨x_2, 0, none⟩ = some (.int .u64 x26) ∧ w25.cell? ⟨x_2, 1, none⟩ = some (.int .u64 x27) ∧ w25.cell? ⟨x_2, 2, none⟩ = some (.slice a28 n29 c30)) ∧ (R (.returned (.agg #[.int .u64 x26, .int .u64 x27, .slice a28 n29 c30])) w25)))
def W0 (R : Ending → World → Prop)  (x_2 : Nat) (l_3 : Nat) (x_15 : Int) (x_16 : Int) (w : World) : Prop := ∃ (I : Nat → Int → World → Prop) (n : Nat), I n x_16 w ∧ ∀ (n : Nat) (x_16 : Int) (g : List Value) (w : World), I n x_16 w → ∀ (Back0 : Int → List Value → World → Prop), (∀ (m : Nat) (x_16 : Int) (g : List Value) (w : World), m < n → I m x_16 w → Back0 x_16 g w) → t1 R  Back0  x_2 l_3 x_15 x_16 g w
def t0 (R : Ending → World → Prop) (L0 : Nat → Nat → Int → Int → List Value → World → Prop) (m_0 : Option Addr) (w : World) : Prop := ∀ (b1 : Nat) (w2 : World), b1 = w.heap.size → w2 = World.alloc w (.cells #[.int .u64 0, .int .u64 0, .slice none 0 0] 37) → someV m_0 (fun p3 => ∃ x4 : Int, ∃ x5 : Int, ∃ (a6 : Option Addr) (n7 c8 : Nat), (w2.cell? (p3.add 7) = some (.int .u64 x4) ∧ w2.cell? ((p3.add 7).add 1) = some (.int .u64 x5) ∧ w2.cell? ((p3.add 7).add 2) = some (.slice a6 n7 c8)) ∧ (∀ (b9 : Nat) (w10 : World), b9 = w2.heap.size → w10 = World.alloc w2 (.cells #[.int .u64 0, .int .u64 0, .slice none 0 0] 37) → Writable w10 ⟨b9, 0, none⟩ 3 ∧ ∀ w11 : World, w11 = World.setCell (World.setCell (World.setCell w10 ⟨b9, 0, none⟩ (.int .u64 x4)) ⟨b9, 1, none⟩ (.int .u64 x5)) ⟨b9, 2, none⟩ (.slice a6 n7 c8) → ∃ (a12 : Option Addr) (n13 c14 : Nat), w11.cell? ⟨b9, 2, none⟩ = some (.slice a12 n13 c14) ∧ (Calls Tryz.prog 35 #[.slice a12 n13 c14] w11 (fun e15 w16 => ∃ (a17 : Option Addr) (n18 c19 : Nat), e15 = .returned (.slice a17 n18 c19) ∧ (Writable w16 ⟨b9, 2, none⟩ 1 ∧ ∀ w20 : World, w20 = World.setCell w16 ⟨b9, 2, none⟩ (.slice a17 n18 c19) → ∃ (a21 : Option Addr) (n22 c23 : Nat), w20.cell? ⟨b9, 2, none⟩ = some (.slice a21 n22 c23) ∧ (L0 b1 b9 ((n22 : Nat) : Int) 0 [.pointer m_0, undef, undef, .pointer m_0, .pointer (some p3), .pointer (some (p3.add 7)), .agg #[.int .u64 x4, .int .u64 x5, .slice a6 n7 c8], .pointer (some ⟨b9, 2, none⟩), .slice a12 n13 c14, .slice a17 n18 c19, .pointer (some ⟨b9, 2, none⟩), .pointer (some ⟨b9, 2, none⟩), .slice a21 n22 c23, undef, undef, undef, undef, undef, undef, undef, undef, undef, undef, undef, undef, undef, undef, undef, undef] w20))))))
def vc (R : Ending → World → Prop) (m_0 : Option Addr) (w : World) : Prop := ∀ (L0 : Nat → Nat → Int → Int → List Value → World → Prop), (∀ x_2 l_3 x_15 x_16 g w, W0 R x_2 l_3 x_15 x_16 w → L0 x_2 l_3 x_15 x_16 g w) → t0 R L0 m_0 w
theorem at0 (R : Ending → World → Prop) (x_2 : Nat) (l_3 : Nat) (x_15 : Int) (x_16 : Int) (g : List Value) (w : World) (h : W0 R  x_2 l_3 x_15 x_16 w) : atV Tryz.prog (bodyC Tryz.f9) [true, true, true, false, true, false] (retQ Tryz.prog Tryz.f9 R) [nth g 0, nth g 1, .pointer (some ⟨x_2, 0, none⟩), .pointer (some ⟨l_3, 0, none⟩), nth g 2, nth g 3, nth g 4, nth g 5, nth g 6, nth g 7, nth g 8, nth g 9, nth g 10, nth g 11, nth g 12, .int .i64 x_15, .int .i64 x_16, nth g 13, nth g 14, nth g 15, nth g 16, nth g 17, nth g 18, nth g 19, nth g 20, nth g 21, nth g 22, nth g 23, nth g 24, nth g 25, nth g 26, nth g 27, nth g 28] w := by
  obtain ⟨I, n0, h0, hs⟩ := h
  refine atV_loop (by kernel_rfl) (fun n s w => ∃ (x_16 : Int) (g : List Value), s = [nth g 0, nth g 1, .pointer (some ⟨x_2, 0, none⟩), .pointer (some ⟨l_3, 0, none⟩), nth g 2, nth g 3, nth g 4, nth g 5, nth g 6, nth g 7, nth g 8, nth g 9, nth g 10, nth g 11, nth g 12, .int .i64 x_15, .int .i64 x_16, nth g 13, nth g 14, nth g 15, nth g 16, nth g 17, nth g 18, nth g 19, nth g 20, nth g 21, nth g 22, nth g 23, nth g 24, nth g 25, nth g 26, nth g 27, nth g 28] ∧ I n x_16 w) n0 ⟨_, _, rfl, h0⟩ ?_
  rintro n s w ⟨x_16, g, rfl, hI⟩
  exact Eq.mpr (by kernel_rfl) (hs n x_16 g w hI (fun x_16 g w => (backQ (fun n s w => ∃ (x_16 : Int) (g : List Value), s = [nth g 0, nth g 1, .pointer (some ⟨x_2, 0, none⟩), .pointer (some ⟨l_3, 0, none⟩), nth g 2, nth g 3, nth g 4, nth g 5, nth g 6, nth g 7, nth g 8, nth g 9, nth g 10, nth g 11, nth g 12, .int .i64 x_15, .int .i64 x_16, nth g 13, nth g 14, nth g 15, nth g 16, nth g 17, nth g 18, nth g 19, nth g 20, nth g 21, nth g 22, nth g 23, nth g 24, nth g 25, nth g 26, nth g 27, nth g 28] ∧ I n x_16 w) n (ctxQ Tryz.prog (bodyC Tryz.f9) [true, true, true, false, true, false] (retQ Tryz.prog Tryz.f9 R))) .normal [nth g 0, nth g 1, .pointer (some ⟨x_2, 0, none⟩), .pointer (some ⟨l_3, 0, none⟩), nth g 2, nth g 3, nth g 4, nth g 5, nth g 6, nth g 7, nth g 8, nth g 9, nth g 10, nth g 11, nth g 12, .int .i64 x_15, .int .i64 x_16, nth g 13, nth g 14, nth g 15, nth g 16, nth g 17, nth g 18, nth g 19, nth g 20, nth g 21, nth g 22, nth g 23, nth g 24, nth g 25, nth g 26, nth g 27, nth g 28] w) (fun m x_16 g w hm hI => ⟨m, hm, x_16, g, rfl, hI⟩))
theorem calls (R : Ending → World → Prop) (m_0 : Option Addr) (w : World) (h : vc R m_0 w) : Calls Tryz.prog 9 #[.pointer m_0] w R :=
  calls_V Tryz.func9 (Eq.mpr (by kernel_rfl) (h (fun x_2 l_3 x_15 x_16 g w => atV Tryz.prog (bodyC Tryz.f9) [true, true, true, false, true, false] (retQ Tryz.prog Tryz.f9 R) [nth g 0, nth g 1, .pointer (some ⟨x_2, 0, none⟩), .pointer (some ⟨l_3, 0, none⟩), nth g 2, nth g 3, nth g 4, nth g 5, nth g 6, nth g 7, nth g 8, nth g 9, nth g 10, nth g 11, nth g 12, .int .i64 x_15, .int .i64 x_16, nth g 13, nth g 14, nth g 15, nth g 16, nth g 17, nth g 18, nth g 19, nth g 20, nth g 21, nth g 22, nth g 23, nth g 24, nth g 25, nth g 26, nth g 27, nth g 28] w) (fun x_2 l_3 x_15 x_16 g w h => at0 R x_2 l_3 x_15 x_16 g w h)))
end model_Model_Ledger
end Go.Proofs.YtcofknlcdgidpaaGreatDoor
/-! ## GmodelModelReady -/
namespace Go.Proofs.YtcofknlcdgidpaaGreatDoor
open Go Go.Proofs.YtcofknlcdgidpaaGreatDoor.VC
set_option linter.unusedVariables false
set_option maxRecDepth 100000
set_option maxHeartbeats 0

/-! ### (*postroom/model.Model).Ready: function 14 -/
namespace model_Model_Ready
def t2 (R : Ending → World → Prop) (Back0 : (Option Addr) → Nat → Nat → Int → List Value → World → Prop) (Back1 : (Option Addr) → Nat → Nat → Int → List Value → World → Prop)  (m_0 : Option Addr) (out_3a : Option Addr) (out_3b : Nat) (out_3c : Nat) (d_5 : Nat) (x_12a : Option Addr) (x_12b : Nat) (x_12c : Nat) (x_13 : Int) (x_14 : Int) (x_21 : Int) (x_22 : Int) (g : List Value) (w : World) : Prop := boolV (decide (x_22 < x_21)) (∃ s1 : ByteArray, w.cell? ⟨d_5, 0, none⟩ = some (.string s1) ∧ (∀ (b2 : Nat) (w3 : World), b2 = w.heap.size → w3 = World.alloc w (.cells #[.string ByteArray.empty, .int .i64 0] 86) → Writable w3 ⟨b2, 0, none⟩ 2 ∧ ∀ w4 : World, w4 = World.setCell (World.setCell w3 ⟨b2, 0, none⟩ (.string s1)) ⟨b2, 1, none⟩ (.int .i64 x_22) → ∃ S5 : World → Prop, (∀ w6 : World, w6.heap = w4.heap → w6.tape = w4.tape → w6.os = w4.os → w6.output = w4.output → S5 w6 ∧ (∃ s7 : ByteArray, ∃ x8 : Int, (∀ w, S5 w → w.cell? ⟨b2, 0, none⟩ = some (.string s7) ∧ w.cell? ⟨b2, 1, none⟩ = some (.int .i64 x8)) ∧ (someV m_0 (fun p9 => ∃ x10 : Int, (∀ w, S5 w → w.cell? (p9.add 16) = some (.int .u64 x10)) ∧ (Calls Tryz.prog 39 #[.pointer m_0, .agg #[.string s7, .int .i64 x8]] w6 (fun e11 w12 => ∃ x13 : Int, ∃ (a14 : Option Addr) (n15 c16 : Nat), ∃ x17 : Int, ∃ x18 : Int, ∃ x19 : Int, e11 = .returned (.agg #[.int .u64 x13, .slice a14 n15 c16, .int .u64 x17, .int .i64 x18, .int .u64 x19]) ∧ (S5 w12 ∧ (Calls Tryz.prog 38 #[.agg #[.int .u64 x13, .slice a14 n15 c16, .int .u64 x17, .int .i64 x18, .int .u64 x19], .int .u64 x10] w12 (fun e20 w21 => ∃ t22 : Bool, e20 = .returned (.bool t22) ∧ (S5 w21 ∧ (boolV t22 (∃ s23 : ByteArray, ∃ x24 : Int, (∀ w, S5 w → w.cell? ⟨b2, 0, none⟩ = some (.string s23) ∧ w.cell? ⟨b2, 1, none⟩ = some (.int .i64 x24)) ∧ (Calls Tryz.prog 40 #[.pointer m_0, .agg #[.string s23, .int .i64 x24]] w21 (fun e25 w26 => ∃ (a27 : Option Addr) (n28 c29 : Nat), e25 = .returned (.slice a27 n28 c29) ∧ (S5 w26 ∧ (boolV (decide (((n28 : Nat) : Int) > (0 : Int))) (∃ s30 : ByteArray, ∃ x31 : Int, (w26.cell? ⟨b2, 0, none⟩ = some (.string s30) ∧ w26.cell? ⟨b2, 1, none⟩ = some (.int .i64 x31)) ∧ (∀ (b32 : Nat) (w33 : World), b32 = w26.heap.size → w33 = World.alloc w26 (.cells #[.string s30, .int .i64 x31] 86) → runV Tryz.prog (Builtin.append_ #[43, 43] 43 #[.slice out_3a out_3b out_3c, .slice (some ⟨b32, 0, none⟩) 1 1]) w33 (fun v34 w35 => ∃ (a36 : Option Addr) (n37 c38 : Nat), v34 = .slice a36 n37 c38 ∧ (Back1 a36 n37 c38 (IntKind.wrap .i64 (x_22 + 1)) [nth g 0, nth g 1, nth g 2, .int .i64 x_22, .pointer (some ⟨b2, 0, none⟩), nth g 5, nth g 6, nth g 7, nth g 8, nth g 9, nth g 10, nth g 11, nth g 12, nth g 13, nth g 14, .bool (decide (x_22 < x_21)), .int .i64 x_22, .pointer (some ⟨d_5, 0, none⟩), .string s1, .int .i64 x_22, .agg #[.string s1, .int .i64 x_22], .pointer m_0, .agg #[.string s7, .int .i64 x8], .agg #[.int .u64 x13, .slice a14 n15 c16, .int .u64 x17, .int .i64 x18, .int .u64 x19], .pointer m_0, .pointer (some p9), .pointer (some (p9.add 16)), .int .u64 x10, .bool t22, .bool true, .pointer m_0, .agg #[.string s23, .int .i64 x24], .slice a27 n28 c29, .int .i64 ((n28 : Nat) : Int), .bool (decide (((n28 : Nat) : Int) > (0 : Int))), .bool (decide (((n28 : Nat) : Int) > (0 : Int))), .slice out_3a out_3b out_3c, .agg #[.string s30, .int .i64 x31], .slice (some ⟨b32, 0, none⟩) 1 1, .slice a36 n37 c38, .int .i64 (IntKind.wrap .i64 (x_22 + 1)), nth g 41, nth g 42] w35)))) (Back1 out_3a out_3b out_3c (IntKind.wrap .i64 (x_22 + 1)) [nth g 0, nth g 1, nth g 2, .int .i64 x_22, .pointer (some ⟨b2, 0, none⟩), nth g 5, nth g 6, nth g 7, nth g 8, nth g 9, nth g 10, nth g 11, nth g 12, nth g 13, nth g 14, .bool (decide (x_22 < x_21)), .int .i64 x_22, .pointer (some ⟨d_5, 0, none⟩), .string s1, .int .i64 x_22, .agg #[.string s1, .int .i64 x_22], .pointer m_0, .agg #[.string s7, .int .i64 x8], .agg #[.int .u64 x13, .slice a14 n15 c16, .int .u64 x17, .int .i64 x18, .int .u64 x19], .pointer m_0, .pointer (some p9), .pointer (some (p9.add 16)), .int .u64 x10, .bool t22, .bool true, .pointer m_0, .agg #[.string s23, .int .i64 x24], .slice a27 n28 c29, .int .i64 ((n28 : Nat) : Int), .bool (decide (((n28 : Nat) : Int) > (0 : Int))), .bool (decide (((n28 : Nat) : Int) > (0 : Int))), nth g 36, nth g 37, nth g 38, nth g 39, .int .i64 (IntKind.wrap .i64 (x_22 + 1)), nth g 41, nth g 42] w26)))))) (Back1 out_3a out_3b out_3c (IntKind.wrap .i64 (x_22 + 1)) [nth g 0, nth g 1, nth g 2, .int .i64 x_22, .pointer (some ⟨b2, 0, none⟩), nth g 5, nth g 6, nth g 7, nth g 8, nth g 9, nth g 10, nth g 11, nth g 12, nth g 13, nth g 14, .bool (decide (x_22 < x_21)), .int .i64 x_22, .pointer (some ⟨d_5, 0, none⟩), .string s1, .int .i64 x_22, .agg #[.string s1, .int .i64 x_22], .pointer m_0, .agg #[.string s7, .int .i64 x8], .agg #[.int .u64 x13, .slice a14 n15 c16, .int .u64 x17, .int .i64 x18, .int .u64 x19], .pointer m_0, .pointer (some p9), .pointer (some (p9.add 16)), .int .u64 x10, .bool t22, .bool false, undef, undef, undef, undef, undef, .bool false, nth g 36, nth g 37, nth g 38, nth g 39, .int .i64 (IntKind.wrap .i64 (x_22 + 1)), nth g 41, nth g 42] w21)))))))))))))) (Back0 out_3a out_3b out_3c (IntKind.wrap .i64 (x_14 + 1)) [nth g 0, nth g 1, nth g 2, .pointer (some ⟨d_5, 0, none⟩), nth g 3, nth g 4, nth g 5, nth g 6, nth g 7, nth g 8, nth g 9, nth g 10, nth g 11, nth g 12, nth g 13, nth g 14, .int .i64 x_21, .int .i64 x_22, .bool (decide (x_22 < x_21)), nth g 16, nth g 17, nth g 18, nth g 19, nth g 20, nth g 21, nth g 22, nth g 23, nth g 24, nth g 25, nth g 26, nth g 27, nth g 28, nth g 29, nth g 30, nth g 31, nth g 32, nth g 33, nth g 34, nth g 35, nth g 36, nth g 37, nth g 38, nth g 39, nth g 40, .int .i64 (IntKind.wrap .i64 (x_14 + 1)), nth g 42] w)
def W1 (R : Ending → World → Prop) (Back0 : (Option Addr) → Nat → Nat → Int → List Value → World → Prop) (m_0 : Option Addr) (out_3a : Option Addr) (out_3b : Nat) (out_3c : Nat) (d_5 : Nat) (x_12a : Option Addr) (x_12b : Nat) (x_12c : Nat) (x_13 : Int) (x_14 : Int) (x_21 : Int) (x_22 : Int) (w : World) : Prop := ∃ (I : Nat → (Option Addr) → Nat → Nat → Int → World → Prop) (n : Nat), I n out_3a out_3b out_3c x_22 w ∧ ∀ (n : Nat) (out_3a : Option Addr) (out_3b : Nat) (out_3c : Nat) (x_22 : Int) (g : List Value) (w : World), I n out_3a out_3b out_3c x_22 w → ∀ (Back1 : (Option Addr) → Nat → Nat → Int → List Value → World → Prop), (∀ (m : Nat) (out_3a : Option Addr) (out_3b : Nat) (out_3c : Nat) (x_22 : Int) (g : List Value) (w : World), m < n → I m out_3a out_3b out_3c x_22 w → Back1 out_3a out_3b out_3c x_22 g w) → t2 R Back0 Back1  m_0 out_3a out_3b out_3c d_5 x_12a x_12b x_12c x_13 x_14 x_21 x_22 g w
def t1 (R : Ending → World → Prop)  (Back0 : (Option Addr) → Nat → Nat → Int → List Value → World → Prop) (L1 : (Option Addr) → Nat → Nat → Nat → Int → Int → Int → List Value → World → Prop) (m_0 : Option Addr) (out_3a : Option Addr) (out_3b : Nat) (out_3c : Nat) (x_12a : Option Addr) (x_12b : Nat) (x_12c : Nat) (x_13 : Int) (x_14 : Int) (g : List Value) (w : World) : Prop := boolV (decide (x_14 < x_13)) (someV x_12a (fun p1 => (0 ≤ x_14 ∧ x_14 < (x_12b : Nat)) ∧ (∃ s2 : ByteArray, ∃ x3 : Int, ∃ x4 : Int, ∃ (a5 : Option Addr) (n6 c7 : Nat), ∃ x8 : Int, ∃ x9 : Int, ∃ x10 : Int, (w.cell? (p1.add (x_14.toNat * 7)) = some (.string s2) ∧ w.cell? ((p1.add (x_14.toNat * 7)).add 1) = some (.int .u64 x3) ∧ w.cell? ((p1.add (x_14.toNat * 7)).add 2) = some (.int .u64 x4) ∧ w.cell? ((p1.add (x_14.toNat * 7)).add 3) = some (.slice a5 n6 c7) ∧ w.cell? ((p1.add (x_14.toNat * 7)).add 4) = some (.int .u64 x8) ∧ w.cell? ((p1.add (x_14.toNat * 7)).add 5) = some (.int .u64 x9) ∧ w.cell? ((p1.add (x_14.toNat * 7)).add 6) = some (.int .u64 x10)) ∧ (∀ (b11 : Nat) (w12 : World), b11 = w.heap.size → w12 = World.alloc w (.cells #[.string ByteArray.empty, .int .u64 0, .int .u64 0, .slice none 0 0, .int .u64 0, .int .u64 0, .int .u64 0] 63) → Writable w12 ⟨b11, 0, none⟩ 7 ∧ ∀ w13 : World, w13 = World.setCell (World.setCell (World.setCell (World.setCell (World.setCell (World.setCell (World.setCell w12 ⟨b11, 0, none⟩ (.string s2)) ⟨b11, 1, none⟩ (.int .u64 x3)) ⟨b11, 2, none⟩ (.int .u64 x4)) ⟨b11, 3, none⟩ (.slice a5 n6 c7)) ⟨b11, 4, none⟩ (.int .u64 x8)) ⟨b11, 5, none⟩ (.int .u64 x9)) ⟨b11, 6, none⟩ (.int .u64 x10) → someV m_0 (fun p14 => ∃ x15 : Int, w13.cell? (p14.add 13) = some (.int .i64 x15) ∧ (L1 out_3a out_3b out_3c b11 x_14 x15 0 [nth g 0, nth g 1, nth g 2, nth g 4, nth g 5, nth g 6, nth g 7, nth g 8, nth g 9, .bool (decide (x_14 < x_13)), .pointer (some (p1.add (x_14.toNat * 7))), .agg #[.string s2, .int .u64 x3, .int .u64 x4, .slice a5 n6 c7, .int .u64 x8, .int .u64 x9, .int .u64 x10], .pointer m_0, .pointer (some p14), .pointer (some (p14.add 13)), nth g 18, nth g 19, nth g 20, nth g 21, nth g 22, nth g 23, nth g 24, nth g 25, nth g 26, nth g 27, nth g 28, nth g 29, nth g 30, nth g 31, nth g 32, nth g 33, nth g 34, nth g 35, nth g 36, nth g 37, nth g 38, nth g 39, nth g 40, nth g 41, nth g 42, nth g 43, nth g 44, nth g 45] w13)))))) (R (.returned (.slice out_3a out_3b out_3c)) w)
def W0 (R : Ending → World → Prop)  (m_0 : Option Addr) (out_3a : Option Addr) (out_3b : Nat) (out_3c : Nat) (x_12a : Option Addr) (x_12b : Nat) (x_12c : Nat) (x_13 : Int) (x_14 : Int) (w : World) : Prop := ∃ (I : Nat → (Option Addr) → Nat → Nat → Int → World → Prop) (n : Nat), I n out_3a out_3b out_3c x_14 w ∧ ∀ (n : Nat) (out_3a : Option Addr) (out_3b : Nat) (out_3c : Nat) (x_14 : Int) (g : List Value) (w : World), I n out_3a out_3b out_3c x_14 w → ∀ (Back0 : (Option Addr) → Nat → Nat → Int → List Value → World → Prop), (∀ (m : Nat) (out_3a : Option Addr) (out_3b : Nat) (out_3c : Nat) (x_14 : Int) (g : List Value) (w : World), m < n → I m out_3a out_3b out_3c x_14 w → Back0 out_3a out_3b out_3c x_14 g w) → ∀ (L1 : (Option Addr) → Nat → Nat → Nat → Int → Int → Int → List Value → World → Prop), (∀ out_3a out_3b out_3c d_5 x_14 x_21 x_22 g w, W1 R Back0 m_0 out_3a out_3b out_3c d_5 x_12a x_12b x_12c x_13 x_14 x_21 x_22 w → L1 out_3a out_3b out_3c d_5 x_14 x_21 x_22 g w) → t1 R  Back0 L1 m_0 out_3a out_3b out_3c x_12a x_12b x_12c x_13 x_14 g w
def t0 (R : Ending → World → Prop) (L0 : (Option Addr) → (Option Addr) → Nat → Nat → (Option Addr) → Nat → Nat → Int → Int → List Value → World → Prop) (m_0 : Option Addr) (w : World) : Prop := someV m_0 (fun p1 => ∃ (a2 : Option Addr) (n3 c4 : Nat), w.cell? ((p1.add 7).add 2) = some (.slice a2 n3 c4) ∧ (L0 m_0 none 0 0 a2 n3 c4 ((n3 : Nat) : Int) 0 [undef, .slice none 0 0, undef, undef, undef, undef, .pointer m_0, .pointer (some p1), .pointer (some (p1.add 7)), .pointer (some ((p1.add 7).add 2)), undef, undef, undef, undef, undef, undef, undef, undef, undef, undef, undef, undef, undef, undef, undef, undef, undef, undef, undef, undef, undef, undef, undef, undef, undef, undef, undef, undef, undef, undef, undef, undef, undef, undef, undef, undef] w))
def vc (R : Ending → World → Prop) (m_0 : Option Addr) (w : World) : Prop := ∀ (L0 : (Option Addr) → (Option Addr) → Nat → Nat → (Option Addr) → Nat → Nat → Int → Int → List Value → World → Prop), (∀ m_0 out_3a out_3b out_3c x_12a x_12b x_12c x_13 x_14 g w, W0 R m_0 out_3a out_3b out_3c x_12a x_12b x_12c x_13 x_14 w → L0 m_0 out_3a out_3b out_3c x_12a x_12b x_12c x_13 x_14 g w) → t0 R L0 m_0 w
theorem at1 (R : Ending → World → Prop) (J0 : Nat → List Value → World → Prop) (n0 : Nat) (m_0 : Option Addr) (out_3a : Option Addr) (out_3b : Nat) (out_3c : Nat) (d_5 : Nat) (x_12a : Option Addr) (x_12b : Nat) (x_12c : Nat) (x_13 : Int) (x_14 : Int) (x_21 : Int) (x_22 : Int) (g : List Value) (w : World) (h : W1 R (fun out_3a out_3b out_3c x_14 g w => (backQ J0 n0 (ctxQ Tryz.prog (bodyC Tryz.f14) [true, true, false, true, false] (retQ Tryz.prog Tryz.f14 R))) .normal [.pointer m_0, nth g 0, nth g 1, .slice out_3a out_3b out_3c, nth g 2, nth g 3, nth g 4, nth g 5, nth g 6, nth g 7, nth g 8, nth g 9, .slice x_12a x_12b x_12c, .int .i64 x_13, .int .i64 x_14, nth g 10, nth g 11, nth g 12, nth g 13, nth g 14, nth g 15, nth g 16, nth g 17, nth g 18, nth g 19, nth g 20, nth g 21, nth g 22, nth g 23, nth g 24, nth g 25, nth g 26, nth g 27, nth g 28, nth g 29, nth g 30, nth g 31, nth g 32, nth g 33, nth g 34, nth g 35, nth g 36, nth g 37, nth g 38, nth g 39, nth g 40, nth g 41, nth g 42, nth g 43, nth g 44, nth g 45] w) m_0 out_3a out_3b out_3c d_5 x_12a x_12b x_12c x_13 x_14 x_21 x_22 w) : atV Tryz.prog (loopC (bodyC Tryz.f14) [true, true, false, true, false]) [true, true, false, false, true, true, false] (backQ J0 n0 (ctxQ Tryz.prog (bodyC Tryz.f14) [true, true, false, true, false] (retQ Tryz.prog Tryz.f14 R))) [.pointer m_0, nth g 0, nth g 1, .slice out_3a out_3b out_3c, nth g 2, .pointer (some ⟨d_5, 0, none⟩), nth g 3, nth g 4, nth g 5, nth g 6, nth g 7, nth g 8, .slice x_12a x_12b x_12c, .int .i64 x_13, .int .i64 x_14, nth g 9, nth g 10, nth g 11, nth g 12, nth g 13, nth g 14, .int .i64 x_21, .int .i64 x_22, nth g 15, nth g 16, nth g 17, nth g 18, nth g 19, nth g 20, nth g 21, nth g 22, nth g 23, nth g 24, nth g 25, nth g 26, nth g 27, nth g 28, nth g 29, nth g 30, nth g 31, nth g 32, nth g 33, nth g 34, nth g 35, nth g 36, nth g 37, nth g 38, nth g 39, nth g 40, nth g 41, nth g 42] w := by
  obtain ⟨I, n0, h0, hs⟩ := h
  refine atV_loop (by kernel_rfl) (fun n s w => ∃ (out_3a : Option Addr) (out_3b : Nat) (out_3c : Nat) (x_22 : Int) (g : List Value), s = [.pointer m_0, nth g 0, nth g 1, .slice out_3a out_3b out_3c, nth g 2, .pointer (some ⟨d_5, 0, none⟩), nth g 3, nth g 4, nth g 5, nth g 6, nth g 7, nth g 8, .slice x_12a x_12b x_12c, .int .i64 x_13, .int .i64 x_14, nth g 9, nth g 10, nth g 11, nth g 12, nth g 13, nth g 14, .int .i64 x_21, .int .i64 x_22, nth g 15, nth g 16, nth g 17, nth g 18, nth g 19, nth g 20, nth g 21, nth g 22, nth g 23, nth g 24, nth g 25, nth g 26, nth g 27, nth g 28, nth g 29, nth g 30, nth g 31, nth g 32, nth g 33, nth g 34, nth g 35, nth g 36, nth g 37, nth g 38, nth g 39, nth g 40, nth g 41, nth g 42] ∧ I n out_3a out_3b out_3c x_22 w) n0 ⟨_, _, _, _, _, rfl, h0⟩ ?_
  rintro n s w ⟨out_3a, out_3b, out_3c, x_22, g, rfl, hI⟩
  exact Eq.mpr (by kernel_rfl) (hs n out_3a out_3b out_3c x_22 g w hI (fun out_3a out_3b out_3c x_22 g w => (backQ (fun n s w => ∃ (out_3a : Option Addr) (out_3b : Nat) (out_3c : Nat) (x_22 : Int) (g : List Value), s = [.pointer m_0, nth g 0, nth g 1, .slice out_3a out_3b out_3c, nth g 2, .pointer (some ⟨d_5, 0, none⟩), nth g 3, nth g 4, nth g 5, nth g 6, nth g 7, nth g 8, .slice x_12a x_12b x_12c, .int .i64 x_13, .int .i64 x_14, nth g 9, nth g 10, nth g 11, nth g 12, nth g 13, nth g 14, .int .i64 x_21, .int .i64 x_22, nth g 15, nth g 16, nth g 17, nth g 18, nth g 19, nth g 20, nth g 21, nth g 22, nth g 23, nth g 24, nth g 25, nth g 26, nth g 27, nth g 28, nth g 29, nth g 30, nth g 31, nth g 32, nth g 33, nth g 34, nth g 35, nth g 36, nth g 37, nth g 38, nth g 39, nth g 40, nth g 41, nth g 42] ∧ I n out_3a out_3b out_3c x_22 w) n (ctxQ Tryz.prog (loopC (bodyC Tryz.f14) [true, true, false, true, false]) [true, true, false, false, true, true, false] (backQ J0 n0 (ctxQ Tryz.prog (bodyC Tryz.f14) [true, true, false, true, false] (retQ Tryz.prog Tryz.f14 R))))) .normal [.pointer m_0, nth g 0, nth g 1, .slice out_3a out_3b out_3c, nth g 2, .pointer (some ⟨d_5, 0, none⟩), nth g 3, nth g 4, nth g 5, nth g 6, nth g 7, nth g 8, .slice x_12a x_12b x_12c, .int .i64 x_13, .int .i64 x_14, nth g 9, nth g 10, nth g 11, nth g 12, nth g 13, nth g 14, .int .i64 x_21, .int .i64 x_22, nth g 15, nth g 16, nth g 17, nth g 18, nth g 19, nth g 20, nth g 21, nth g 22, nth g 23, nth g 24, nth g 25, nth g 26, nth g 27, nth g 28, nth g 29, nth g 30, nth g 31, nth g 32, nth g 33, nth g 34, nth g 35, nth g 36, nth g 37, nth g 38, nth g 39, nth g 40, nth g 41, nth g 42] w) (fun m out_3a out_3b out_3c x_22 g w hm hI => ⟨m, hm, out_3a, out_3b, out_3c, x_22, g, rfl, hI⟩))
theorem at0 (R : Ending → World → Prop) (m_0 : Option Addr) (out_3a : Option Addr) (out_3b : Nat) (out_3c : Nat) (x_12a : Option Addr) (x_12b : Nat) (x_12c : Nat) (x_13 : Int) (x_14 : Int) (g : List Value) (w : World) (h : W0 R  m_0 out_3a out_3b out_3c x_12a x_12b x_12c x_13 x_14 w) : atV Tryz.prog (bodyC Tryz.f14) [true, true, false, true, false] (retQ Tryz.prog Tryz.f14 R) [.pointer m_0, nth g 0, nth g 1, .slice out_3a out_3b out_3c, nth g 2, nth g 3, nth g 4, nth g 5, nth g 6, nth g 7, nth g 8, nth g 9, .slice x_12a x_12b x_12c, .int .i64 x_13, .int .i64 x_14, nth g 10, nth g 11, nth g 12, nth g 13, nth g 14, nth g 15, nth g 16, nth g 17, nth g 18, nth g 19, nth g 20, nth g 21, nth g 22, nth g 23, nth g 24, nth g 25, nth g 26, nth g 27, nth g 28, nth g 29, nth g 30, nth g 31, nth g 32, nth g 33, nth g 34, nth g 35, nth g 36, nth g 37, nth g 38, nth g 39, nth g 40, nth g 41, nth g 42, nth g 43, nth g 44, nth g 45] w := by
  obtain ⟨I, n0, h0, hs⟩ := h
  refine atV_loop (by kernel_rfl) (fun n s w => ∃ (out_3a : Option Addr) (out_3b : Nat) (out_3c : Nat) (x_14 : Int) (g : List Value), s = [.pointer m_0, nth g 0, nth g 1, .slice out_3a out_3b out_3c, nth g 2, nth g 3, nth g 4, nth g 5, nth g 6, nth g 7, nth g 8, nth g 9, .slice x_12a x_12b x_12c, .int .i64 x_13, .int .i64 x_14, nth g 10, nth g 11, nth g 12, nth g 13, nth g 14, nth g 15, nth g 16, nth g 17, nth g 18, nth g 19, nth g 20, nth g 21, nth g 22, nth g 23, nth g 24, nth g 25, nth g 26, nth g 27, nth g 28, nth g 29, nth g 30, nth g 31, nth g 32, nth g 33, nth g 34, nth g 35, nth g 36, nth g 37, nth g 38, nth g 39, nth g 40, nth g 41, nth g 42, nth g 43, nth g 44, nth g 45] ∧ I n out_3a out_3b out_3c x_14 w) n0 ⟨_, _, _, _, _, rfl, h0⟩ ?_
  rintro n s w ⟨out_3a, out_3b, out_3c, x_14, g, rfl, hI⟩
  exact Eq.mpr (by kernel_rfl) (hs n out_3a out_3b out_3c x_14 g w hI (fun out_3a out_3b out_3c x_14 g w => (backQ (fun n s w => ∃ (out_3a : Option Addr) (out_3b : Nat) (out_3c : Nat) (x_14 : Int) (g : List Value), s = [.pointer m_0, nth g 0, nth g 1, .slice out_3a out_3b out_3c, nth g 2, nth g 3, nth g 4, nth g 5, nth g 6, nth g 7, nth g 8, nth g 9, .slice x_12a x_12b x_12c, .int .i64 x_13, .int .i64 x_14, nth g 10, nth g 11, nth g 12, nth g 13, nth g 14, nth g 15, nth g 16, nth g 17, nth g 18, nth g 19, nth g 20, nth g 21, nth g 22, nth g 23, nth g 24, nth g 25, nth g 26, nth g 27, nth g 28, nth g 29, nth g 30, nth g 31, nth g 32, nth g 33, nth g 34, nth g 35, nth g 36, nth g 37, nth g 38, nth g 39, nth g 40, nth g 41, nth g 42, nth g 43, nth g 44, nth g 45] ∧ I n out_3a out_3b out_3c x_14 w) n (ctxQ Tryz.prog (bodyC Tryz.f14) [true, true, false, true, false] (retQ Tryz.prog Tryz.f14 R))) .normal [.pointer m_0, nth g 0, nth g 1, .slice out_3a out_3b out_3c, nth g 2, nth g 3, nth g 4, nth g 5, nth g 6, nth g 7, nth g 8, nth g 9, .slice x_12a x_12b x_12c, .int .i64 x_13, .int .i64 x_14, nth g 10, nth g 11, nth g 12, nth g 13, nth g 14, nth g 15, nth g 16, nth g 17, nth g 18, nth g 19, nth g 20, nth g 21, nth g 22, nth g 23, nth g 24, nth g 25, nth g 26, nth g 27, nth g 28, nth g 29, nth g 30, nth g 31, nth g 32, nth g 33, nth g 34, nth g 35, nth g 36, nth g 37, nth g 38, nth g 39, nth g 40, nth g 41, nth g 42, nth g 43, nth g 44, nth g 45] w) (fun m out_3a out_3b out_3c x_14 g w hm hI => ⟨m, hm, out_3a, out_3b, out_3c, x_14, g, rfl, hI⟩) (fun out_3a out_3b out_3c d_5 x_14 x_21 x_22 g w => atV Tryz.prog (loopC (bodyC Tryz.f14) [true, true, false, true, false]) [true, true, false, false, true, true, false] (backQ (fun n s w => ∃ (out_3a : Option Addr) (out_3b : Nat) (out_3c : Nat) (x_14 : Int) (g : List Value), s = [.pointer m_0, nth g 0, nth g 1, .slice out_3a out_3b out_3c, nth g 2, nth g 3, nth g 4, nth g 5, nth g 6, nth g 7, nth g 8, nth g 9, .slice x_12a x_12b x_12c, .int .i64 x_13, .int .i64 x_14, nth g 10, nth g 11, nth g 12, nth g 13, nth g 14, nth g 15, nth g 16, nth g 17, nth g 18, nth g 19, nth g 20, nth g 21, nth g 22, nth g 23, nth g 24, nth g 25, nth g 26, nth g 27, nth g 28, nth g 29, nth g 30, nth g 31, nth g 32, nth g 33, nth g 34, nth g 35, nth g 36, nth g 37, nth g 38, nth g 39, nth g 40, nth g 41, nth g 42, nth g 43, nth g 44, nth g 45] ∧ I n out_3a out_3b out_3c x_14 w) n (ctxQ Tryz.prog (bodyC Tryz.f14) [true, true, false, true, false] (retQ Tryz.prog Tryz.f14 R))) [.pointer m_0, nth g 0, nth g 1, .slice out_3a out_3b out_3c, nth g 2, .pointer (some ⟨d_5, 0, none⟩), nth g 3, nth g 4, nth g 5, nth g 6, nth g 7, nth g 8, .slice x_12a x_12b x_12c, .int .i64 x_13, .int .i64 x_14, nth g 9, nth g 10, nth g 11, nth g 12, nth g 13, nth g 14, .int .i64 x_21, .int .i64 x_22, nth g 15, nth g 16, nth g 17, nth g 18, nth g 19, nth g 20, nth g 21, nth g 22, nth g 23, nth g 24, nth g 25, nth g 26, nth g 27, nth g 28, nth g 29, nth g 30, nth g 31, nth g 32, nth g 33, nth g 34, nth g 35, nth g 36, nth g 37, nth g 38, nth g 39, nth g 40, nth g 41, nth g 42] w) (fun out_3a out_3b out_3c d_5 x_14 x_21 x_22 g w h => at1 R (fun n s w => ∃ (out_3a : Option Addr) (out_3b : Nat) (out_3c : Nat) (x_14 : Int) (g : List Value), s = [.pointer m_0, nth g 0, nth g 1, .slice out_3a out_3b out_3c, nth g 2, nth g 3, nth g 4, nth g 5, nth g 6, nth g 7, nth g 8, nth g 9, .slice x_12a x_12b x_12c, .int .i64 x_13, .int .i64 x_14, nth g 10, nth g 11, nth g 12, nth g 13, nth g 14, nth g 15, nth g 16, nth g 17, nth g 18, nth g 19, nth g 20, nth g 21, nth g 22, nth g 23, nth g 24, nth g 25, nth g 26, nth g 27, nth g 28, nth g 29, nth g 30, nth g 31, nth g 32, nth g 33, nth g 34, nth g 35, nth g 36, nth g 37, nth g 38, nth g 39, nth g 40, nth g 41, nth g 42, nth g 43, nth g 44, nth g 45] ∧ I n out_3a out_3b out_3c x_14 w) n  m_0 out_3a out_3b out_3c d_5 x_12a x_12b x_12c x_13 x_14 x_21 x_22 g w h))
theorem calls (R : Ending → World → Prop) (m_0 : Option Addr) (w : World) (h : vc R m_0 w) : Calls Tryz.prog 14 #[.pointer m_0] w R :=
  calls_V Tryz.func14 (Eq.mpr (by kernel_rfl) (h (fun m_0 out_3a out_3b out_3c x_12a x_12b x_12c x_13 x_14 g w => atV Tryz.prog (bodyC Tryz.f14) [true, true, false, true, false] (retQ Tryz.prog Tryz.f14 R) [.pointer m_0, nth g 0, nth g 1, .slice out_3a out_3b out_3c, nth g 2, nth g 3, nth g 4, nth g 5, nth g 6, nth g 7, nth g 8, nth g 9, .slice x_12a x_12b x_12c, .int .i64 x_13, .int .i64 x_14, nth g 10, nth g 11, nth g 12, nth g 13, nth g 14, nth g 15, nth g 16, nth g 17, nth g 18, nth g 19, nth g 20, nth g 21, nth g 22, nth g 23, nth g 24, nth g 25, nth g 26, nth g 27, nth g 28, nth g 29, nth g 30, nth g 31, nth g 32, nth g 33, nth g 34, nth g 35, nth g 36, nth g 37, nth g 38, nth g 39, nth g 40, nth g 41, nth g 42, nth g 43, nth g 44, nth g 45] w) (fun m_0 out_3a out_3b out_3c x_12a x_12b x_12c x_13 x_14 g w h => at0 R m_0 out_3a out_3b out_3c x_12a x_12b x_12c x_13 x_14 g w h)))
end model_Model_Ready
end Go.Proofs.YtcofknlcdgidpaaGreatDoor
/-! ## Stats -/
namespace Go.Proofs.YtcofknlcdgidpaaGreatDoor
open Go Go.RowKit Go.Proofs.YtcofknlcdgidpaaGreatDoor.VC
set_option linter.unusedVariables false
set_option maxRecDepth 100000

def statC (s : MS) (x : DestL) : List Value := [.string (S x.d.name), .int .u64 ((pendL s.l x.d.name s.next).length : Nat), .int .u64 x.d.acked, .int .u64 x.d.evicted, .int .u64 x.d.rejected]
def statCs (s : MS) (l : List DestL) : List Value := l.flatMap (statC s)
theorem pendL_len (l : List DestL) (name : Txt) (next : Nat) : (pendL l name next).length ≤ next := by
  unfold pendL
  split
  · rename_i x _
    have := pendFrom_len x.d next (next - x.d.low) x.d.low
    unfold pendD; omega
  · simp
theorem model_stats {B : Nat} {M : ML} {s : MS} (w0 : World) (h : MAt B M s w0) (hnx : s.next < 4294967296) (hl : s.l.length ≤ 429496729) :
    Calls Tryz.prog 13 #[.pointer (some ⟨M.mb, 0, none⟩)] w0 (fun e w => Below w0.heap.size w0 w ∧ ∃ a c, e = .returned (.slice a s.l.length c) ∧ RowAt w a (statCs s s.l)) := by
  apply model_Model_Stats.calls
  intro L0 hL
  unfold model_Model_Stats.t0
  refine someV_some rfl ⟨_, _, _, h.blk.cell (j := 9) rfl, hL _ _ _ _ _ _ _ _ _ _ _ ?_⟩
  refine ⟨fun m oa on oc i w => ∃ k : Nat, i = (k : Int) ∧ k ≤ s.l.length ∧ m = s.l.length - k ∧ on = k ∧ w.ownsRow w0.heap.size 93 5 (.slice oa k oc) k (statCs s (s.l.take k)) ∧ Below w0.heap.size w0 w, _,
    ⟨0, rfl, Nat.zero_le _, rfl, rfl, World.ownsRow_nil _ _ _ _, Below.refl _ _⟩, ?_⟩
  rintro m oa on oc i g w ⟨k, rfl, hk, rfl, rfl, ho, hb⟩ Back hback
  unfold model_Model_Stats.t1
  have hw := h.below hb
  by_cases hlt : on < s.l.length
  · have hx : s.l[on]? = some s.l[on] := List.getElem?_eq_getElem hlt
    obtain ⟨x, hxe⟩ : ∃ x, x = s.l[on] := ⟨_, rfl⟩
    rw [← hxe] at hx
    obtain ⟨q, hq, hr⟩ := rowDest (RowAt.of_own hw.dst) hx
    refine boolT (by simp; omega) (someV_some hq ⟨⟨by omega, by omega⟩, _, _, _, _, _, _, _, _, _, hr, var7V ?_⟩)
    intro w13 hv hb13 hs13
    have hw13 := hw.below hb13
    have hb13' := hb.trans (hb13.mono hb.size)
    refine ⟨fun V => Blk V w.heap.size 63 x.cells ∧ Blk V M.mb 97 (s.cells M), ?_⟩
    intro w15 e1 e2 e3 e4
    have hs15 := same_below (w := w13) (w' := w15) w13.heap.size e1 e2 e3 e4
    have hw15 := hw13.below hs15
    have hv15 : Blk w15 w.heap.size 63 x.cells := hv.same e1
    refine ⟨⟨hv15, hw15.blk⟩, _, fun V hV => hV.1.cell (j := 0) rfl, someV_some rfl ⟨_, _, _, _, _, fun V hV => ⟨hV.2.cell (j := 7) rfl, hV.2.cell (j := 8) rfl, hV.2.cell (j := 9) rfl⟩, _, fun V hV => hV.1.cell (j := 0) rfl, _, fun V hV => hV.1.cell (j := 4) rfl, _, fun V hV => hV.1.cell (j := 5) rfl, _, fun V hV => hV.1.cell (j := 6) rfl, ?_⟩⟩
    refine (ledger_pending s.first s.next hnx s.l hl x.d.name M.la M.lc w15 (RowAt.of_own hw15.dst) hw15.abv).mono ?_
    rintro e w28 ⟨hb28, a', c', rfl, _⟩
    have hv28 := hv15.below hb28 hv15.lt
    have hm28 := hw15.blk.below hb28 hw15.blk.lt
    have hb28' : Below w0.heap.size w0 w28 := (hb13'.trans (hs15.mono hb13'.size)).trans (hb28.mono (hb13'.trans (hs15.mono hb13'.size)).size)
    have ho28 := own_below (own_below (own_below ho hb13) hs15) hb28
    refine ⟨_, _, _, rfl, ⟨hv28, hm28⟩, ?_⟩
    have hpl := pendL_len s.l x.d.name s.next
    have hwr : IntKind.wrap .u64 (((pendL s.l x.d.name s.next).length : Nat) : Int) = (((pendL s.l x.d.name s.next).length : Nat) : Int) := by rw [wrap_u64, Nat.mod_eq_of_lt (by omega)]
    rw [hwr]
    rintro b32 w33 rfl rfl
    have hal := (Below.refl w28.heap.size w28).alloc (Nat.le_refl _) (.cells (statC s x).toArray 93)
    refine ⟨⟨hv28.below hal hv28.lt, hm28.below hal hm28.lt⟩, ?_⟩
    refine appendV (P := Tryz.prog) (size := 5) (news := statC s x) (by kernel_rfl) ho28 hb28'.size (m := 1) (by rfl) (by simp [statC, Value.oneCell']) (by decide) (by omega) ?_
    intro gg c2 w35 ho35 hb35 hg35 hsz35
    refine ⟨_, _, _, rfl, ⟨hv28.grown hg35 (own_ne ho28 hv28 (by decide)).symm, hm28.grown hg35 (own_ne ho28 hm28 (by decide)).symm⟩, ?_⟩
    refine hback (s.l.length - (on + 1)) _ _ _ _ _ _ (by omega) ⟨on + 1, ?_, hlt, rfl, rfl, ?_, hb28'.trans hb35⟩
    · rw [wrap_i64 (by omega) (by omega)]; omega
    · have e : statCs s (s.l.take (on + 1)) = statCs s (s.l.take on) ++ statC s x := by
        rw [List.take_add_one, hx]
        simp [statCs]
      rw [e]; exact ho35
  · have hkk : on = s.l.length := by omega
    subst hkk
    refine boolF (by simp) ⟨hb, _, _, rfl, ?_⟩
    rw [List.take_length] at ho
    exact RowAt.of_own ho
theorem model_now {B : Nat} {M : ML} {s : MS} (w0 : World) (h : MAt B M s w0) : Calls Tryz.prog 10 #[.pointer (some ⟨M.mb, 0, none⟩)] w0 (fun e w => e = .returned (.int .u64 s.now) ∧ w = w0) := by
  apply model_Model_Now.calls
  unfold model_Model_Now.vc model_Model_Now.t0
  exact someV_some rfl ⟨_, h.blk.cell (j := 16) rfl, rfl, rfl⟩
theorem model_durable {B : Nat} {M : ML} {s : MS} (w0 : World) (h : MAt B M s w0) : Calls Tryz.prog 11 #[.pointer (some ⟨M.mb, 0, none⟩)] w0 (fun e w => e = .returned (.int .u64 s.durable) ∧ w = w0) := by
  apply model_Model_Durable.calls
  unfold model_Model_Durable.vc model_Model_Durable.t0
  exact someV_some rfl ⟨_, h.blk.cell (j := 12) rfl, rfl, rfl⟩
theorem model_ready0 {B : Nat} {M : ML} {s : MS} (w0 : World) (h : MAt B M s w0) (hl : s.l = []) : Calls Tryz.prog 14 #[.pointer (some ⟨M.mb, 0, none⟩)] w0 (fun e w => e = .returned (.slice none 0 0) ∧ w = w0) := by
  apply model_Model_Ready.calls
  intro L0 hL
  unfold model_Model_Ready.t0
  refine someV_some rfl ⟨_, _, _, h.blk.cell (j := 9) rfl, hL _ _ _ _ _ _ _ _ _ _ _ ?_⟩
  refine ⟨fun m oa on oc i w => oa = none ∧ on = 0 ∧ oc = 0 ∧ i = 0 ∧ w = w0, 0, ⟨rfl, rfl, rfl, rfl, rfl⟩, ?_⟩
  rintro m oa on oc i g w ⟨rfl, rfl, rfl, rfl, rfl⟩ Back hback L1 hL1
  unfold model_Model_Ready.t1
  exact boolF (by rw [hl]; rfl) ⟨rfl, rfl⟩
theorem destCs_set3 (a3 : Option Addr) (c3 : Nat) : ∀ (l : List DestL) (i : Nat) (x : DestL), l[i]? = some x → (destCs l).set (i * 7 + 3) (.slice a3 x.d.above.length c3) = destCs (l.set i ⟨x.d, a3, c3⟩)
  | [], i, x, h => by simp at h
  | y :: l, 0, x, h => by
    simp at h; subst h
    rw [List.set_cons_zero, destCs_cons, destCs_cons]
    rfl
  | y :: l, i + 1, x, h => by
    have ih := destCs_set3 a3 c3 l i x (by simpa using h)
    rw [List.set_cons_succ, destCs_cons, destCs_cons, ← ih]
    have e0 : (i + 1) * 7 + 3 = y.cells.length + (i * 7 + 3) := by show _ = 7 + _; omega
    rw [e0, List.set_append_right _ _ (by omega)]
    congr 2; omega
/-- A new place of the numbers of a destination in its row. -/
theorem st3row {W : World} {B c m : Nat} {a : Option Addr} {l : List DestL} {x : DestL} (ho : W.ownsRow B 63 7 (.slice a l.length c) l.length (destCs l)) (hm : m = l.length) {i : Nat} (hi : i < m) (hx : l[i]? = some x) (a3 : Option Addr) (c3 : Nat) {K : Addr → World → Prop}
    (hK : ∀ p w', w'.ownsRow B 63 7 (.slice a l.length c) l.length (destCs (l.set i ⟨x.d, a3, c3⟩)) → W.grownBy w' (Value.ownBlock (.slice a l.length c)) → K p w') :
    someV a (fun p => (0 ≤ ((i : Nat) : Int) ∧ ((i : Nat) : Int) < (m : Nat)) ∧ (Writable W ((p.add (((i : Nat) : Int).toNat * 7)).add 3) 1 ∧ ∀ w' : World, w' = World.setCell W ((p.add (((i : Nat) : Int).toNat * 7)).add 3) (.slice a3 x.d.above.length c3) → K p w')) := by
  subst hm
  obtain ⟨g, hg⟩ : ∃ g, a = some ⟨g, 0, none⟩ := by
    rcases ho.2 with ⟨hv, h0⟩ | ⟨g, cap, cur, hv, _⟩
    · omega
    · injection hv with h1; exact ⟨g, h1⟩
  subst hg
  refine someV_some rfl ⟨⟨by omega, by omega⟩, ?_, ?_⟩
  · intro k hk
    rw [Int.toNat_natCast, Addr_add, Addr_add, Addr_add]
    have hlt : 0 + i * 7 + 3 + k < l.length * 7 := by omega
    refine ⟨⟨(destCs l)[0 + i * 7 + 3 + k]'(by rw [destCs_len]; omega), ?_⟩, ho.frozenAt _⟩
    rw [ho.cellAt _ hlt, List.getElem?_eq_getElem (by rw [destCs_len]; omega)]
  · rintro w' rfl
    simp only [Int.toNat_natCast, Addr_add, Nat.zero_add]
    obtain ⟨o1, g1⟩ := ho.stored (i * 7 + 3) (.slice a3 x.d.above.length c3)
    rw [destCs_set3 a3 c3 l i x hx] at o1
    exact hK _ _ o1 (gset (grown_refl W _) _ _)
/-- 'Ledger': a copy, where nothing is done above. -/
theorem model_ledger {B : Nat} {M : ML} {s : MS} (w0 : World) (h : MAt B M s w0) (hl : s.l.length ≤ 429496729) :
    Calls Tryz.prog 9 #[.pointer (some ⟨M.mb, 0, none⟩)] w0 (fun e w => Below w0.heap.size w0 w ∧ ∃ a c l', e = .returned (.agg #[.int .u64 s.first, .int .u64 s.next, .slice a l'.length c]) ∧ ds l' = ds s.l ∧ w.ownsRow w0.heap.size 63 7 (.slice a l'.length c) l'.length (destCs l')) := by
  apply model_Model_Ledger.calls
  intro L0 hL
  unfold model_Model_Ledger.t0
  refine allocV (cs := [.int .u64 0, .int .u64 0, .slice none 0 0]) ?_
  intro w2 h1 hb2 hs2
  have M2 := h.below hb2
  refine someV_some rfl ⟨_, _, _, _, _, ⟨M2.blk.cell (j := 7) rfl, M2.blk.cell (j := 8) rfl, M2.blk.cell (j := 9) rfl⟩, var3V ?_⟩
  intro w11 h9 hb11 hs11
  have hb11' := hb2.trans (hb11.mono hb2.size)
  have M11 := h.below hb11'
  have h111 := h1.below hb11 h1.lt
  refine ⟨_, _, _, h9.cell (j := 2) rfl, (clone_dest s.l (by omega) M.la M.lc w11 (RowAt.of_own M11.dst)).mono ?_⟩
  rintro e w16 ⟨a', c', rfl, ho, hb16⟩
  have h916 := h9.below hb16 h9.lt
  have h116 := h111.below hb16 h111.lt
  have hb16' := hb11'.trans (hb16.mono hb11'.size)
  refine ⟨_, _, _, rfl, h916.writable (o := 2) (by simp), ?_⟩
  rintro w20 rfl
  have z2 := hb2.size
  have z11 := hb11.size
  have h920 := h916.set 2 (.slice a' s.l.length c')
  have h120 := h116.other (p := ⟨w2.heap.size, 2, none⟩) (by simp; omega) (.slice a' s.l.length c')
  have ho20 := own_set ho h916 (by decide) 2 (.slice a' s.l.length c')
  have hb20 := hb16'.setCell (p := ⟨w2.heap.size, 2, none⟩) (by simp; omega) (.slice a' s.l.length c')
  refine ⟨_, _, _, h920.cell (j := 2) rfl, hL _ _ _ _ _ _ ?_⟩
  refine ⟨fun m i w => ∃ (k : Nat) (l' : List DestL), i = (k : Int) ∧ k ≤ s.l.length ∧ m = s.l.length - k ∧ l'.length = s.l.length ∧ ds l' = ds s.l ∧ Blk w w0.heap.size 37 [.int .u64 0, .int .u64 0, .slice none 0 0] ∧ Blk w w2.heap.size 37 [.int .u64 s.first, .int .u64 s.next, .slice a' s.l.length c'] ∧ w.ownsRow w0.heap.size 63 7 (.slice a' s.l.length c') s.l.length (destCs l') ∧ Below w0.heap.size w0 w, _,
    ⟨0, s.l, rfl, Nat.zero_le _, rfl, rfl, rfl, h120, h920, own_mono ho20 (by omega), hb20⟩, ?_⟩
  rintro m i g w ⟨k, l', rfl, hk, rfl, hlen, hds, B1, B9, how, hb⟩ Back hback
  unfold model_Model_Ledger.t1
  by_cases hlt : k < s.l.length
  · have hx : l'[k]? = some l'[k] := List.getElem?_eq_getElem (by omega)
    obtain ⟨x, hxe⟩ : ∃ x, x = l'[k] := ⟨_, rfl⟩
    rw [← hxe] at hx
    have hxa : x.d.above = [] := by
      have h1 : (ds l')[k]? = some x.d := by simp [ds, hx]
      rw [hds] at h1
      simp only [ds, List.getElem?_map, Option.map_eq_some_iff] at h1
      obtain ⟨y, hy, hye⟩ := h1
      rw [← hye]; exact h.pl y (List.mem_of_getElem? hy)
    have how' : w.ownsRow w0.heap.size 63 7 (.slice a' l'.length c') l'.length (destCs l') := by rw [hlen]; exact how
    obtain ⟨q, hq, hr⟩ := rowDest (RowAt.of_own how') hx
    refine boolT (by simp; omega) ⟨fun V => Blk V w2.heap.size 37 [.int .u64 s.first, .int .u64 s.next, .slice a' s.l.length c'] ∧ RowAt V a' (destCs l'), ?_⟩
    intro w2' e1 e2 e3 e4
    have hs' := same_below (w := w) (w' := w2') w.heap.size e1 e2 e3 e4
    have B9' := B9.same e1
    have B1' := B1.same e1
    have ho' := own_below how' hs'
    have hb' := hb.trans (hs'.mono hb.size)
    have rd : ∀ W, RowAt W a' (destCs l') → Reads7 W (q.add (k * 7)) x := fun W hW => by
      obtain ⟨q', hq', hr⟩ := rowDest hW hx
      rw [hq] at hq'; cases hq'; exact hr
    refine ⟨⟨B9', RowAt.of_own ho'⟩, _, _, _, fun V hV => hV.1.cell (j := 2) rfl, _, _, _, fun V hV => hV.1.cell (j := 2) rfl, someV_some hq ⟨⟨by omega, by omega⟩, _, _, _, fun V hV => (rd V hV.2).2.2.2.1, ?_⟩⟩
    have hcl := slices_clone_u64 x.d.above (by rw [hxa]; simp) x.a x.c w2' (by rw [hxa]; exact RowAt.nil _ _)
    refine hcl.mono ?_
    rintro e w14 ⟨a3, c3, rfl, _, hb14⟩
    have B914 := B9'.below hb14 B9'.lt
    have B114 := B1'.below hb14 B1'.lt
    have ho14 := own_below ho' hb14
    have hb14' := hb'.trans (hb14.mono hb'.size)
    refine ⟨_, _, _, rfl, ⟨B914, RowAt.of_own ho14⟩, ?_⟩
    refine st3row (x := x) ho14 hlen.symm (by omega) hx a3 c3 ?_
    intro p19 w19 ho19 hg19
    have n9 := own_ne ho14 B914 (by decide)
    have n1 := own_ne ho14 B114 (by decide)
    refine hback (s.l.length - (k + 1)) _ _ _ (by omega) ⟨k + 1, l'.set k ⟨x.d, a3, c3⟩, ?_, hlt, rfl, by simpa using hlen, ?_, B114.grown hg19 n1.symm, B914.grown hg19 n9.symm, by rw [hlen] at ho19; exact ho19, hb14'.grown hg19 hb14'.size (fun i hi => (ho14.lt i hi).1)⟩
    · rw [wrap_i64 (by omega) (by omega)]; omega
    · rw [← hds]
      apply List.ext_getElem?
      intro j
      simp only [ds, List.getElem?_map, List.getElem?_set]
      by_cases hj : k = j
      · subst hj
        rw [if_pos rfl, hx, if_pos (by omega)]; rfl
      · rw [if_neg hj]
  · refine boolF (by simp; omega) ⟨_, _, _, _, _, ⟨B9.cell (j := 0) rfl, B9.cell (j := 1) rfl, B9.cell (j := 2) rfl⟩, st3V B1 ?_⟩
    intro w25 hv hg hs
    refine ⟨_, _, _, _, _, ⟨hv.cell (j := 0) rfl, hv.cell (j := 1) rfl, hv.cell (j := 2) rfl⟩, below_grown hb hg hb.size (Nat.le_refl _), a', c', l', by rw [hlen], hds, ?_⟩
    rw [hlen]
    exact how.kept hg (.inr (own_ne how B1 (by decide)))
end Go.Proofs.YtcofknlcdgidpaaGreatDoor
/-! ## Gpostroomlaw20shown -/
namespace Go.Proofs.YtcofknlcdgidpaaGreatDoor
open Go Go.Proofs.YtcofknlcdgidpaaGreatDoor.VC
set_option linter.unusedVariables false
set_option maxRecDepth 100000
set_option maxHeartbeats 0

/-! ### postroom/postroomlaw20.shown: function 6 -/
namespace postroomlaw20_shown
def t0 (R : Ending → World → Prop)   (w : World) : Prop := Calls Tryz.prog 16 #[.int .i64 2016, .int .i64 0, .int .i64 0, .int .i64 0] w (fun e1 w2 => ∃ x3 : Int, ∃ x4 : Int, ∃ x5 : Int, ∃ x6 : Int, ∃ x7 : Int, ∃ x8 : Int, ∃ x9 : Int, e1 = .returned (.agg #[.int .i64 x3, .int .i64 x4, .int .i64 x5, .int .u64 x6, .int .u64 x7, .int .u64 x8, .int .i64 x9]) ∧ (Calls Tryz.prog 7 #[.agg #[.int .i64 x3, .int .i64 x4, .int .i64 x5, .int .u64 x6, .int .u64 x7, .int .u64 x8, .int .i64 x9]] w2 (fun e10 w11 => ∃ q12 : Option Addr, ∃ x13 : Int, e10 = .returned (.tuple #[.pointer q12, .int .i64 x13]) ∧ (boolV q12.isNone (R (.returned (.bool false)) w11) (boolV (x13 != (0 : Int)) (R (.returned (.bool false)) w11) (Calls Tryz.prog 17 #[.pointer q12, .string ⟨#[97]⟩] w11 (fun e14 w15 => ∃ x16 : Int, e14 = .returned (.int .i64 x16) ∧ (boolV (x16 != (0 : Int)) (R (.returned (.bool false)) w15) (Calls Tryz.prog 18 #[.agg #[.int .i64 0, .int .i64 0, .int .i64 0, .int .i64 0, .int .i64 0]] w15 (fun e17 w18 => ∃ (a19 : Option Addr) (n20 c21 : Nat), ∃ (a22 : Option Addr) (n23 c24 : Nat), e17 = .returned (.agg #[.slice a19 n20 c21, .slice a22 n23 c24]) ∧ (Calls Tryz.prog 19 #[.pointer q12, .agg #[.slice a19 n20 c21, .slice a22 n23 c24], .bool true] w18 (fun e25 w26 => ∃ x27 : Int, ∃ x28 : Int, e25 = .returned (.tuple #[.int .u64 x27, .int .i64 x28]) ∧ (Calls Tryz.prog 30 #[.pointer q12, .agg #[.string ⟨#[97]⟩, .int .i64 0]] w26 (fun e29 w30 => ∃ s31 : ByteArray, ∃ x32 : Int, ∃ x33 : Int, ∃ (a34 : Option Addr) (n35 c36 : Nat), ∃ x37 : Int, e29 = .returned (.tuple #[.agg #[.string s31, .int .i64 x32, .int .u64 x33, .slice a34 n35 c36], .int .i64 x37]) ∧ (∀ (b38 : Nat) (w39 : World), b38 = w30.heap.size → w39 = World.alloc w30 (.cells #[.string ByteArray.empty, .int .i64 0, .int .u64 0, .slice none 0 0] 88) → Writable w39 ⟨b38, 0, none⟩ 4 ∧ ∀ w40 : World, w40 = World.setCell (World.setCell (World.setCell (World.setCell w39 ⟨b38, 0, none⟩ (.string s31)) ⟨b38, 1, none⟩ (.int .i64 x32)) ⟨b38, 2, none⟩ (.int .u64 x33)) ⟨b38, 3, none⟩ (.slice a34 n35 c36) → Calls Tryz.prog 31 #[.pointer q12, .agg #[.string ⟨#[97]⟩, .int .i64 0], .int .u64 1, .int .i64 1, .int .u64 0] w40 (fun e41 w42 => ∃ x43 : Int, e41 = .returned (.int .i64 x43) ∧ (Calls Tryz.prog 13 #[.pointer q12] w42 (fun e44 w45 => ∃ (a46 : Option Addr) (n47 c48 : Nat), e44 = .returned (.slice a46 n47 c48) ∧ (boolV (x27 == (1 : Int)) (boolV (x28 == (0 : Int)) (boolV (x37 == (0 : Int)) (boolV (x43 == (0 : Int)) (∃ x49 : Int, w45.cell? ⟨b38, 2, none⟩ = some (.int .u64 x49) ∧ (boolV (x49 == (1 : Int)) (boolV (((n47 : Nat) : Int) == (1 : Int)) (someV a46 (fun p50 => (0 ≤ (0 : Int) ∧ (0 : Int) < (n47 : Nat)) ∧ (∃ s51 : ByteArray, ∃ x52 : Int, ∃ x53 : Int, ∃ x54 : Int, ∃ x55 : Int, (w45.cell? p50 = some (.string s51) ∧ w45.cell? (p50.add 1) = some (.int .u64 x52) ∧ w45.cell? (p50.add 2) = some (.int .u64 x53) ∧ w45.cell? (p50.add 3) = some (.int .u64 x54) ∧ w45.cell? (p50.add 4) = some (.int .u64 x55)) ∧ (runV Tryz.prog (do eqGuard .eql 93 (.tmp 70) (.tmp 71) (.agg #[.string s51, .int .u64 x52, .int .u64 x53, .int .u64 x54, .int .u64 x55]) (.agg #[.string ⟨#[97]⟩, .int .u64 0, .int .u64 1, .int .u64 0, .int .u64 0]); binOp .eql 93 (.agg #[.string s51, .int .u64 x52, .int .u64 x53, .int .u64 x54, .int .u64 x55]) (.agg #[.string ⟨#[97]⟩, .int .u64 0, .int .u64 1, .int .u64 0, .int .u64 0])) w45 (fun v56 w57 => ∃ t58 : Bool, v56 = .bool t58 ∧ (R (.returned (.bool t58)) w57)))))) (R (.returned (.bool false)) w45)) (R (.returned (.bool false)) w45))) (R (.returned (.bool false)) w45)) (R (.returned (.bool false)) w45)) (R (.returned (.bool false)) w45)) (R (.returned (.bool false)) w45))))))))))))))))))))
def vc (R : Ending → World → Prop)  (w : World) : Prop := t0 R   w
theorem calls (R : Ending → World → Prop)  (w : World) (h : vc R  w) : Calls Tryz.prog 6 #[] w R :=
  calls_V Tryz.func6 (Eq.mpr (by kernel_rfl) (h))
end postroomlaw20_shown
end Go.Proofs.YtcofknlcdgidpaaGreatDoor
/-! ## Shown -/
namespace Go.Proofs.YtcofknlcdgidpaaGreatDoor
open Go Go.RowKit Go.Proofs.YtcofknlcdgidpaaGreatDoor.VC
set_option linter.unusedVariables false
set_option maxRecDepth 100000

def act0 : ActV := ⟨0, 0, 0, 0, 0⟩
def cfg0 : Cfg := ⟨2016, 100, 1, 3, 1, 4, 1⟩
theorem cfg0_eq : cfgOf 2016 0 0 0 = cfg0 := by rfl
theorem key0 : KeyOK [97] 0 := Option.isSome_iff_exists.1 (by kernel_rfl : (keyOf Tryz.prog 86 (keyV [97] 0)).isSome = true)
def ent0 : Ent := ⟨[([115], [116])], [(0, 0)]⟩
theorem ent0_eq : madeE act0 = ent0 := by rfl
theorem ent0_check : entCheck ent0 = 0 := by kernel_rfl
theorem name0 : joinErr (ds []) [97] = 0 := by kernel_rfl
theorem labB0 : (labB ent0.labels).length < 9223372036854775807 := by
  have := labB_len (l := ent0.labels) (by kernel_rfl)
  omega
theorem shardOf1 (s : Txt) : shardOf s 1 = 0 := by
  unfold shardOf
  rw [if_neg (by decide), if_neg (by decide), Int.tmod_one]
  rfl
theorem shown_eq (w : World) : (do eqGuard .eql 93 (.tmp 70) (.tmp 71) (.agg #[.string (S [97]), .int .u64 0, .int .u64 1, .int .u64 0, .int .u64 0]) (.agg #[.string ⟨#[97]⟩, .int .u64 0, .int .u64 1, .int .u64 0, .int .u64 0]); binOp .eql 93 (.agg #[.string (S [97]), .int .u64 0, .int .u64 1, .int .u64 0, .int .u64 0]) (.agg #[.string ⟨#[97]⟩, .int .u64 0, .int .u64 1, .int .u64 0, .int .u64 0]) : Sem Value).run Tryz.prog w = .ok (.bool true) w := by kernel_rfl
def dest0 : DestL := newDest [97] 1
def st1 : MS := ⟨cfg0, 1, 1, [dest0], [], [1], 1, 1, [], 0, 0, false⟩
def st2 (ke : KE) : MS := ⟨cfg0, 1, 2, [dest0], [ke], [1], 2, 1, [], 0, 0, false⟩
def snd3 (a : Option Addr) (c clk : Nat) : SE := ⟨[97], 0, 1, a, [1], c, 0, 0, 0, clk⟩
def st3 (ke : KE) (y : SE) : MS := ⟨cfg0, 1, 2, [dest0], [ke], [1], 2, 1, [y], 1, 0, false⟩
def st4 (ke : KE) (ad : Option Addr) (cd : Nat) (snd : List SE) : MS := ⟨cfg0, 1, 2, [⟨ackD dest0.d 2, ad, cd⟩], [ke], [1], 2, 1, snd, 1, 0, false⟩
theorem i64_0 : I64 0 := ⟨by decide, by decide⟩
theorem pend0 : pendL [dest0] [97] 2 = [1] := by rfl
theorem ents0 : EntOK ent0 := ⟨.inl (by decide), by intro s hs; simp [ent0] at hs; subst hs; simp⟩
theorem plain0 : plainD [dest0] := by
  intro x hx
  simp at hx; subst hx
  exact ⟨rfl, by decide, by decide⟩
theorem law_shown (w0 : World) (ht : Tab w0) (hb0 : 1 < w0.heap.size) :
    Calls Tryz.prog 6 #[] w0 (fun e w => e = .returned (.bool true) ∧ Below w0.heap.size w0 w) := by
  apply postroomlaw20_shown.calls
  unfold postroomlaw20_shown.vc postroomlaw20_shown.t0
  refine (law_config 2016 0 0 0 i64_0 i64_0 i64_0 w0).mono ?_
  rintro e w2 ⟨rfl, hb2⟩
  rw [cfg0_eq]
  refine ⟨_, _, _, _, _, _, _, rfl, (model_new cfg0 w2).mono ?_⟩
  rintro e w11 ⟨hb11, hr⟩
  rw [if_pos (by kernel_rfl)] at hr
  obtain ⟨M, rfl, m11⟩ := hr
  have hb11' := hb2.trans (hb11.mono hb2.size)
  have hB := hb2.size
  refine ⟨_, _, rfl, boolF rfl (boolF rfl ?_)⟩
  refine (model_join w11 m11 [97] (by decide) (by decide) name0).mono ?_
  rintro e w15 ⟨rfl, ⟨la, lc, m15⟩, hb15⟩
  have m15 : MAt _ _ st1 w15 := m15
  have hb15' := hb11'.trans (hb15.mono hB)
  refine ⟨_, rfl, boolF rfl ?_⟩
  refine (law_made act0 ⟨i64_0, i64_0, i64_0⟩ w15).mono ?_
  rintro e w18 ⟨hb18, a19, n20, c21, a22, n23, c24, rfl, hent⟩
  rw [ent0_eq] at hent
  have m18 := m15.below hb18
  have hb18' := hb15'.trans (hb18.mono hb15'.size)
  refine ⟨_, _, _, _, _, _, rfl, ?_⟩
  refine (model_ingest0 w18 m18 (ht.below hb18' hb0) (Nat.lt_of_lt_of_le hb0 hb18'.size) ent0 ents0 ent0_check a19 n20 c21 a22 n23 c24 hent rfl rfl ⟨by simp [st1], by simp [st1]⟩ (by simp [st1]) (by decide) (by decide)).mono ?_
  rintro e w26 ⟨rfl, hb26, la2, lc2, ke, hk1, hk2, hk3, hk4, m26⟩
  have m26 : MAt _ _ (st2 ke) w26 := m26
  have hk1 : ke.seq = 1 := hk1
  have hb26' := hb18'.trans (hb26.mono hB)
  refine ⟨_, _, rfl, ?_⟩
  refine (model_start w26 m26 (show (2 : Nat) < 4294967296 by decide) (show (1 : Nat) ≤ 429496729 by decide) [97] 0 dest0 rfl (by decide) (show (0 : Int) < 1 by decide) key0 (fun y hy => nomatch hy) (fun y hy => nomatch hy) (show (0 : Nat) < 4294967295 by decide) (show (0 : Int) ≤ 0 by decide) ?_ (show pendL [dest0] [97] 2 ≠ [] by rw [pend0]; simp) (show (pendL [dest0] [97] 2).length < 4294967296 by rw [pend0]; decide) [1] (show [1] = (pendL [dest0] [97] 2).take 1 by rw [pend0]; rfl) (show min2I (max2I 1 0) (((pendL [dest0] [97] 2).length : Nat) : Int) = 1 by rw [pend0]; rfl)).mono ?_
  · intro q hq
    have hq : q ∈ pendL [dest0] [97] 2 := hq
    rw [pend0] at hq
    simp at hq; subst hq
    refine ⟨show (1 : Nat) < 2 by decide, ke, ?_, by rw [hk3]; exact labB0, shardOf1 _⟩
    show [ke].find? (fun x => x.seq == 1) = some ke
    rw [List.find?_cons_of_pos (by rw [hk1]; rfl)]
  rintro e w30 ⟨a, c, ar, cr, rfl, hb30, m30, ho30⟩
  have m30 : MAt _ _ (st3 ke (snd3 a c _)) w30 := m30
  have hb30' := hb26'.trans (hb30.mono hB)
  refine ⟨_, _, _, _, _, _, _, rfl, var4V ?_⟩
  intro w40 h38 hb40 hs40
  have m40 := m30.below hb40
  have hb40' := hb30'.trans (hb40.mono hb30'.size)
  refine (model_reply1 w40 m40 (show (2 : Nat) < 4294967296 by decide) (show (1 : Nat) ≤ 429496729 by decide) plain0 [97] 0 0 dest0 rfl (by decide) (show (0 : Int) < 1 by decide) rfl rfl (show (1 : Nat) < 2 by decide) (by decide) (snd3 a c _) rfl ⟨rfl, rfl⟩ key0 rfl (RowAt.of_own (own_below ho30 hb40)) 0).mono ?_
  rintro e w42 ⟨rfl, hb42, hk42, la3, lc3, sc, ad, cd, snd, m42⟩
  have m42 : MAt _ _ (st4 ke ad cd snd) w42 := m42
  have hb42' := hb40'.trans (hb42.mono hB)
  have k38 : w30.heap.size < w40.heap.size := h38.lt
  refine ⟨_, rfl, (model_stats w42 m42 (show (2 : Nat) < 4294967296 by decide) (show (1 : Nat) ≤ 429496729 by decide)).mono ?_⟩
  rintro e w45 ⟨hb45, a46, c48, rfl, hrow⟩
  have hb45' := hb42'.trans (hb45.mono hb42'.size)
  have hcs : RowAt w45 a46 [.string (S [97]), .int .u64 0, .int .u64 1, .int .u64 0, .int .u64 0] := hrow
  obtain ⟨g, o, rfl, hc⟩ := hcs.some_ (j := 0) (u := .string (S [97])) rfl
  have h3842 := hk42 _ _ _ h38 (by decide)
  have h3845 := h3842.below hb45 h3842.lt
  refine ⟨_, _, _, rfl, boolT rfl (boolT rfl (boolT rfl (boolT rfl ⟨_, h3845.cell (j := 2) rfl, boolT rfl (boolT rfl (someV_some rfl ⟨⟨by decide, show (0 : Int) < ((1 : Nat) : Int) by decide⟩, _, _, _, _, _, ⟨hc 0 _ rfl, ?_, ?_, ?_, ?_⟩, runV_ok (shown_eq w45) ⟨_, rfl, rfl, hb45'⟩⟩))⟩)))⟩
  · rw [Addr_add]; exact hc 1 _ rfl
  · rw [Addr_add]; exact hc 2 _ rfl
  · rw [Addr_add]; exact hc 3 _ rfl
  · rw [Addr_add]; exact hc 4 _ rfl
end Go.Proofs.YtcofknlcdgidpaaGreatDoor
/-! ## Gpostroomlaw20ModelErrs -/
namespace Go.Proofs.YtcofknlcdgidpaaGreatDoor
open Go Go.Proofs.YtcofknlcdgidpaaGreatDoor.VC
set_option linter.unusedVariables false
set_option maxRecDepth 100000
set_option maxHeartbeats 0

/-! ### postroom/postroomlaw20.ModelErrs: function 3 -/
namespace postroomlaw20_ModelErrs
def t0 (R : Ending → World → Prop)  (c_0a : Int) (c_0b : Int) (c_0c : Int) (c_0d : Int) (c_0e : Int) (c_0f : Int) (c_0g : Int) (w : World) : Prop := ∀ (b1 : Nat) (w2 : World), b1 = w.heap.size → w2 = World.alloc w (.cells #[.int .i64 c_0a, .int .i64 c_0b, .int .i64 c_0c, .int .u64 c_0d, .int .u64 c_0e, .int .u64 c_0f, .int .i64 c_0g] 28) → Calls Tryz.prog 6 #[] w2 (fun e3 w4 => ∃ t5 : Bool, e3 = .returned (.bool t5) ∧ (∃ x6 : Int, ∃ x7 : Int, ∃ x8 : Int, ∃ x9 : Int, ∃ x10 : Int, ∃ x11 : Int, ∃ x12 : Int, (w4.cell? ⟨b1, 0, none⟩ = some (.int .i64 x6) ∧ w4.cell? ⟨b1, 1, none⟩ = some (.int .i64 x7) ∧ w4.cell? ⟨b1, 2, none⟩ = some (.int .i64 x8) ∧ w4.cell? ⟨b1, 3, none⟩ = some (.int .u64 x9) ∧ w4.cell? ⟨b1, 4, none⟩ = some (.int .u64 x10) ∧ w4.cell? ⟨b1, 5, none⟩ = some (.int .u64 x11) ∧ w4.cell? ⟨b1, 6, none⟩ = some (.int .i64 x12)) ∧ (Calls Tryz.prog 7 #[.agg #[.int .i64 x6, .int .i64 x7, .int .i64 x8, .int .u64 x9, .int .u64 x10, .int .u64 x11, .int .i64 x12]] w4 (fun e13 w14 => ∃ q15 : Option Addr, ∃ x16 : Int, e13 = .returned (.tuple #[.pointer q15, .int .i64 x16]) ∧ (boolV (!t5) (R (.returned (.bool false)) w14) (∃ x17 : Int, ∃ x18 : Int, ∃ x19 : Int, ∃ x20 : Int, ∃ x21 : Int, ∃ x22 : Int, ∃ x23 : Int, (w14.cell? ⟨b1, 0, none⟩ = some (.int .i64 x17) ∧ w14.cell? ⟨b1, 1, none⟩ = some (.int .i64 x18) ∧ w14.cell? ⟨b1, 2, none⟩ = some (.int .i64 x19) ∧ w14.cell? ⟨b1, 3, none⟩ = some (.int .u64 x20) ∧ w14.cell? ⟨b1, 4, none⟩ = some (.int .u64 x21) ∧ w14.cell? ⟨b1, 5, none⟩ = some (.int .u64 x22) ∧ w14.cell? ⟨b1, 6, none⟩ = some (.int .i64 x23)) ∧ (Calls Tryz.prog 8 #[.agg #[.int .i64 x17, .int .i64 x18, .int .i64 x19, .int .u64 x20, .int .u64 x21, .int .u64 x22, .int .i64 x23]] w14 (fun e24 w25 => ∃ x26 : Int, e24 = .returned (.int .i64 x26) ∧ (boolV (x16 != x26) (R (.returned (.bool false)) w25) (runV Tryz.prog (do eqGuard .neq 4 (.tmp 23) (.tmp 25) (.bool (!q15.isNone)) (.bool (x16 == (0 : Int))); binOp .neq 4 (.bool (!q15.isNone)) (.bool (x16 == (0 : Int)))) w25 (fun v27 w28 => ∃ t29 : Bool, v27 = .bool t29 ∧ (boolV t29 (R (.returned (.bool false)) w28) (boolV q15.isNone (R (.returned (.bool (x16 == (1 : Int)))) w28) (Calls Tryz.prog 9 #[.pointer q15] w28 (fun e30 w31 => ∃ x32 : Int, ∃ x33 : Int, ∃ (a34 : Option Addr) (n35 c36 : Nat), e30 = .returned (.agg #[.int .u64 x32, .int .u64 x33, .slice a34 n35 c36]) ∧ (∀ (b37 : Nat) (w38 : World), b37 = w31.heap.size → w38 = World.alloc w31 (.cells #[.int .u64 0, .int .u64 0, .slice none 0 0] 37) → Writable w38 ⟨b37, 0, none⟩ 3 ∧ ∀ w39 : World, w39 = World.setCell (World.setCell (World.setCell w38 ⟨b37, 0, none⟩ (.int .u64 x32)) ⟨b37, 1, none⟩ (.int .u64 x33)) ⟨b37, 2, none⟩ (.slice a34 n35 c36) → Calls Tryz.prog 10 #[.pointer q15] w39 (fun e40 w41 => ∃ x42 : Int, e40 = .returned (.int .u64 x42) ∧ (boolV (x42 == (0 : Int)) (Calls Tryz.prog 11 #[.pointer q15] w41 (fun e43 w44 => ∃ x45 : Int, e43 = .returned (.int .u64 x45) ∧ (boolV (x45 == (1 : Int)) (Calls Tryz.prog 12 #[.pointer q15] w44 (fun e46 w47 => ∃ x48 : Int, e46 = .returned (.int .i64 x48) ∧ (boolV (x48 == (0 : Int)) (Calls Tryz.prog 13 #[.pointer q15] w47 (fun e49 w50 => ∃ (a51 : Option Addr) (n52 c53 : Nat), e49 = .returned (.slice a51 n52 c53) ∧ (boolV (((n52 : Nat) : Int) == (0 : Int)) (Calls Tryz.prog 14 #[.pointer q15] w50 (fun e54 w55 => ∃ (a56 : Option Addr) (n57 c58 : Nat), e54 = .returned (.slice a56 n57 c58) ∧ (boolV (((n57 : Nat) : Int) == (0 : Int)) (∃ x59 : Int, w55.cell? ⟨b37, 0, none⟩ = some (.int .u64 x59) ∧ (boolV (x59 == (1 : Int)) (∃ x60 : Int, w55.cell? ⟨b37, 1, none⟩ = some (.int .u64 x60) ∧ (R (.returned (.bool (x60 == (1 : Int)))) w55)) (R (.returned (.bool false)) w55))) (R (.returned (.bool false)) w55)))) (R (.returned (.bool false)) w50)))) (R (.returned (.bool false)) w47)))) (R (.returned (.bool false)) w44)))) (R (.returned (.bool false)) w41)))))))))))))))))))
def vc (R : Ending → World → Prop) (c_0a : Int) (c_0b : Int) (c_0c : Int) (c_0d : Int) (c_0e : Int) (c_0f : Int) (c_0g : Int) (w : World) : Prop := t0 R  c_0a c_0b c_0c c_0d c_0e c_0f c_0g w
theorem calls (R : Ending → World → Prop) (c_0a : Int) (c_0b : Int) (c_0c : Int) (c_0d : Int) (c_0e : Int) (c_0f : Int) (c_0g : Int) (w : World) (h : vc R c_0a c_0b c_0c c_0d c_0e c_0f c_0g w) : Calls Tryz.prog 3 #[.agg #[.int .i64 c_0a, .int .i64 c_0b, .int .i64 c_0c, .int .u64 c_0d, .int .u64 c_0e, .int .u64 c_0f, .int .i64 c_0g]] w R :=
  calls_V Tryz.func3 (Eq.mpr (by kernel_rfl) (h))
end postroomlaw20_ModelErrs
end Go.Proofs.YtcofknlcdgidpaaGreatDoor
/-! ## Errs -/
namespace Go.Proofs.YtcofknlcdgidpaaGreatDoor
open Go Go.RowKit Go.Proofs.YtcofknlcdgidpaaGreatDoor.VC
set_option linter.unusedVariables false
set_option maxRecDepth 100000

theorem errs_neq (x y : Bool) (w : World) : (do eqGuard .neq 4 (.tmp 23) (.tmp 25) (.bool x) (.bool y); binOp .neq 4 (.bool x) (.bool y) : Sem Value).run Tryz.prog w = .ok (.bool (x != y)) w := by
  cases x <;> cases y <;> kernel_rfl
theorem law_errs (c : Cfg) (w0 : World) (ht : Tab w0) (hb0 : 1 < w0.heap.size) :
    Calls Tryz.prog 3 #[c.val] w0 (fun e w => e = .returned (.bool true) ∧ Below w0.heap.size w0 w) := by
  apply postroomlaw20_ModelErrs.calls
  unfold postroomlaw20_ModelErrs.vc postroomlaw20_ModelErrs.t0
  refine allocV (cs := c.cells) ?_
  intro w2 h1 hb2 hs2
  refine (law_shown w2 (ht.below hb2 hb0) (Nat.lt_of_lt_of_le hb0 hb2.size)).mono ?_
  rintro e w4 ⟨rfl, hb4⟩
  have h14 := h1.below hb4 h1.lt
  have hb4' := hb2.trans (hb4.mono hb2.size)
  refine ⟨_, rfl, _, _, _, _, _, _, _, ⟨h14.cell (j := 0) rfl, h14.cell (j := 1) rfl, h14.cell (j := 2) rfl, h14.cell (j := 3) rfl, h14.cell (j := 4) rfl, h14.cell (j := 5) rfl, h14.cell (j := 6) rfl⟩, (model_new c w4).mono ?_⟩
  rintro e w14 ⟨hb14, hr⟩
  have h114 := h14.below hb14 h14.lt
  have hb14' := hb4'.trans (hb14.mono hb4'.size)
  have hB := hb4'.size
  cases hc : cfgOK c
  · rw [if_neg (by rw [hc]; simp)] at hr
    subst hr
    refine ⟨_, _, rfl, boolF rfl ⟨_, _, _, _, _, _, _, ⟨h114.cell (j := 0) rfl, h114.cell (j := 1) rfl, h114.cell (j := 2) rfl, h114.cell (j := 3) rfl, h114.cell (j := 4) rfl, h114.cell (j := 5) rfl, h114.cell (j := 6) rfl⟩, (agent_check c w14).mono ?_⟩⟩
    rintro e w25 ⟨rfl, hb25⟩
    rw [hc]
    refine ⟨_, rfl, boolF rfl (runV_ok (errs_neq _ _ w25) ⟨_, rfl, boolF rfl (boolT rfl ⟨rfl, hb14'.trans (hb25.mono hb14'.size)⟩)⟩)⟩
  · rw [if_pos hc] at hr
    obtain ⟨M, rfl, m14⟩ := hr
    refine ⟨_, _, rfl, boolF rfl ⟨_, _, _, _, _, _, _, ⟨h114.cell (j := 0) rfl, h114.cell (j := 1) rfl, h114.cell (j := 2) rfl, h114.cell (j := 3) rfl, h114.cell (j := 4) rfl, h114.cell (j := 5) rfl, h114.cell (j := 6) rfl⟩, (agent_check c w14).mono ?_⟩⟩
    rintro e w25 ⟨rfl, hb25⟩
    rw [hc]
    have m25 := m14.below hb25
    have hb25' := hb14'.trans (hb25.mono hb14'.size)
    refine ⟨_, rfl, boolF rfl (runV_ok (errs_neq _ _ w25) ⟨_, rfl, boolF rfl (boolF rfl ?_)⟩)⟩
    refine (model_ledger w25 m25 (show (0 : Nat) ≤ 429496729 by decide)).mono ?_
    rintro e w31 ⟨hb31, a, cc, l', rfl, hds, hol⟩
    have m31 := m25.below hb31
    have hb31' := hb25'.trans (hb31.mono hb25'.size)
    refine ⟨_, _, _, _, _, rfl, var3V ?_⟩
    intro w39 h37 hb39 hs39
    have m39 := m31.below hb39
    have hb39' := hb31'.trans (hb39.mono hb31'.size)
    refine (model_now w39 m39).mono ?_
    rintro e w41 ⟨rfl, rfl⟩
    refine ⟨_, rfl, boolT rfl ((model_durable w41 m39).mono ?_)⟩
    rintro e w44 ⟨rfl, rfl⟩
    refine ⟨_, rfl, boolT rfl ((model_bytes w44 m39 ⟨by simp [newMS], by simp [newMS]⟩ (by simp [newMS, sumOf])).mono ?_)⟩
    rintro e w47 ⟨rfl, hb47⟩
    have m47 := m39.below hb47
    have h3747 := h37.below hb47 h37.lt
    have hb47' := hb39'.trans (hb47.mono hb39'.size)
    refine ⟨_, rfl, boolT rfl ((model_stats w47 m47 (show (1 : Nat) < 4294967296 by decide) (show (0 : Nat) ≤ 429496729 by decide)).mono ?_)⟩
    rintro e w50 ⟨hb50, a5, c5, rfl, _⟩
    have m50 := m47.below hb50
    have h3750 := h3747.below hb50 h3747.lt
    have hb50' := hb47'.trans (hb50.mono hb47'.size)
    refine ⟨_, _, _, rfl, boolT rfl ((model_ready0 w50 m50 rfl).mono ?_)⟩
    rintro e w55 ⟨rfl, rfl⟩
    exact ⟨_, _, _, rfl, boolT rfl ⟨_, h3750.cell (j := 0) rfl, boolT rfl ⟨_, h3750.cell (j := 1) rfl, rfl, hb50'⟩⟩⟩
end Go.Proofs.YtcofknlcdgidpaaGreatDoor
/-! ## Row -/
namespace Go.Proofs.YtcofknlcdgidpaaGreatDoor
open Go Go.RowKit Go.Proofs.YtcofknlcdgidpaaGreatDoor.VC Go.ChangeShapes Go.WideShapes
set_option linter.unusedVariables false
set_option maxRecDepth 100000

section
variable {H : Type} {enc : TypeId × Value → H}
/-- A reading stays where only new blocks and draws have come. -/
theorem trod_up {P : Program} {W W' : World} {base : Nat} {sp : Nat → Bool} {hd : Bool} {t : TypeId} {v : Value} {d : DataW H} {ps : List MemPlace}
    (hB : Below W.heap.size W W') (h : DataW.Trod enc P W base sp hd t v d ps) : DataW.Trod enc P W' base sp hd t v d ps := by
  obtain ⟨n, hn⟩ := h
  exact ⟨n, DataW.trod_carry n _ _ _ hn (fun p hp => hB.same (DataW.trod_lt n _ _ _ hn p hp))⟩
theorem trodAll_up {P : Program} {W W' : World} {base : Nat} {sp : Nat → Bool} {hd : Bool} (hB : Below W.heap.size W W') : ∀ {ts : List TypeId} {vs : List Value} {ds : List (DataW H)} {ps : List MemPlace}, DataW.TrodAll enc P W base sp hd ts vs ds ps → DataW.TrodAll enc P W' base sp hd ts vs ds ps
  | [], [], [], _, h => h
  | _ :: _, _ :: _, _ :: _, _, ⟨p, q, h1, h2, e⟩ => ⟨p, q, trod_up hB h1, trodAll_up hB h2, e⟩
theorem kids : Kids Tryz.prog (· < Tryz.prog.types.size) := kids_rows (by kernel_rfl) (by kernel_rfl)
theorem full : ∀ t e, t < Tryz.prog.types.size → Tryz.prog.underlying t = some (.slice e) → 0 < Tryz.prog.cellsOf e := slices_full_of Tryz.prog (by kernel_rfl)
/-- A law that answers true, and of what was there when it was called turns nothing. -/
theorem law_post {f : Func} {s : ChangeSpec} {W W' : World} {args : Array Value} {ds : List (DataW H)} {before : List MemPlace} (hts : ∀ t ∈ f.params.toList, t < Tryz.prog.types.size) (hv : s.vars = [])
    (hW : DataW.Whole enc Tryz.prog f.params.toList s.vars false W args.toList ds [] before) (hb : Below W.heap.size W W') (hr : f.resultTypes = #[4]) (hfn : s.fn H (ds ++ []) = { results := [.lit (.bool true)], args := ds }) :
    s.post enc Tryz.prog f false true false false W args (.bool true) W' := by
  have hW' := hW
  obtain ⟨p, q, hA, hV, e, _, _⟩ := hW'
  rw [hv] at hV
  obtain ⟨_, rfl⟩ := trodVars_none hV
  rw [List.append_nil] at e
  subst e
  refine ⟨ds, [], before, [], before, [], hW, ?_, ?_, ?_, hb.frame _, fun h => by cases h⟩
  · rw [hfn, hr]
    exact trodAll_mk1 (shut_bool Tryz.underlying4 true)
  · rw [hfn]
    have h1 := DataW.TrodAll.respare (spare' := fun b => decide (b < W.heap.size)) kids full hts hA (fun p hp => by simpa using hA.lt p hp)
    exact trodAll_up hb h1
  · rw [hfn, hv]; rfl
end
theorem trodSome {α : Type} {l : List α} {n i : Nat} (h : l.length = n) (hi : i < n) : ∃ y, l[i]? = some y := ⟨l[i]'(by omega), List.getElem?_eq_getElem (by omega)⟩

/-! ### What is laid -/
theorem tab_of_laid {W : World} (h : laidMetH Tryz.prog Rows.modelErrsRow.laid W) : Tab W ∧ 1 < W.heap.size := by
  rw [MakeChecks.laidMetH_plain _ _ _ (by kernel_rfl)] at h
  obtain ⟨ps, ⟨g, t, cs, fuel, p, q, hg, ht, hv, hd, _, _⟩, _, _⟩ := h
  obtain rfl := Option.some.inj ((show Tryz.prog.globalNamed "postroom/crc.table" = some 1 by kernel_rfl).symm.trans hg)
  obtain rfl := Option.some.inj ((show (Tryz.prog.globals[1]?).map (·.type) = some 309 by kernel_rfl).symm.trans ht)
  obtain ⟨xs, m, _, ex, _, hl, hel⟩ := DataW.trod_array Tryz.underlying309 hd
  have c5 : Tryz.prog.cellsOf 235 = 1 := by kernel_rfl
  have e3 : (xs.map (·.1)) = (crcList.map fun (n : Nat) => (DataW.lit (.int .u32 (n : Int)) : DataW Unit)) := (DataW.agg.inj (Prod.mk.inj ex).1).symm.trans (by rfl)
  have tb : Tab W := by
    intro r hr
    have hE := hel r hr
    rw [c5, Nat.mul_one, List.getElem?_eq_getElem (by omega)] at hE
    obtain ⟨z, e1, e2, _⟩ := DataW.trod_int Tryz.underlying235 hE
    have hlen : crcList.length = 16 := by rfl
    have e4 : (xs.map (·.1))[r]? = (crcList.map fun (n : Nat) => (DataW.lit (.int .u32 (n : Int)) : DataW Unit))[r]? := by rw [e3]
    rw [List.getElem?_map, List.getElem?_map, List.getElem?_eq_getElem (by omega : r < xs.length), List.getElem?_eq_getElem (by omega : r < crcList.length), e2] at e4
    have hz : z = ((crcList.getD r 0 : Nat) : Int) := by
      simp only [Option.map_some, Option.some.injEq, DataW.lit.injEq, Lit.int.injEq, true_and] at e4
      rw [e4, List.getD, List.getElem?_eq_getElem (by omega : r < crcList.length)]; rfl
    rw [World.var?_cell hg hv r, ← hz]
    have : cs.toList[r]? = some (.int .u32 z) := by
      have h0 : ((cs.toList.drop r).take 1)[0]? = some (.int .u32 z) := by rw [e1]; rfl
      simpa using h0
    simpa using this
  exact ⟨tb, World.block_lt_of_cell? W _ (tb 0 (by decide))⟩
end Go.Proofs.YtcofknlcdgidpaaGreatDoor
/-! ## ErrsCard -/
namespace Go.Proofs.YtcofknlcdgidpaaGreatDoor
open Go Go.RowKit Go.Proofs.YtcofknlcdgidpaaGreatDoor.VC Go.ChangeShapes Go.WideShapes
set_option linter.unusedVariables false
set_option maxRecDepth 100000

theorem own : ownKnob Tryz.prog.godebug = none := by kernel_rfl
section
variable {H : Type} {enc : TypeId × Value → H}
theorem cfg_open {W : World} {base b0 : Nat} {sp : Nat → Bool} {held : Bool} {r : Reach} {v : Value} {d : DataW H} {p : List MemPlace} (hv : Value.okWide Tryz.prog W r b0 28 v) (h : DataW.Trod enc Tryz.prog W base sp held 28 v d p) : ∃ c : Cfg, v = c.val := by
  obtain ⟨cs, rfl, hsz⟩ := okWide_struct Tryz.underlying28 hv
  obtain ⟨l⟩ := cs
  have c28 : Tryz.prog.cellsOf 28 = 7 := by kernel_rfl
  have c23 : Tryz.prog.cellsOf 23 = 2 := by kernel_rfl
  have c26 : Tryz.prog.cellsOf 26 = 4 := by kernel_rfl
  have c3 : Tryz.prog.cellsOf 3 = 1 := by kernel_rfl
  have c24 : Tryz.prog.cellsOf 24 = 1 := by kernel_rfl
  match l, hsz.trans c28 with
  | [v0, v1, v2, v3, v4, v5, v6], _ =>
    obtain ⟨fuel, hf⟩ := h
    obtain ⟨xs, n, _, _, _, hlen, hg⟩ := DataW.trod_struct Tryz.underlying28 hf
    obtain ⟨y0, e0⟩ := trodSome (i := 0) hlen (by decide)
    obtain ⟨y1, e1⟩ := trodSome (i := 1) hlen (by decide)
    obtain ⟨y2, e2⟩ := trodSome (i := 2) hlen (by decide)
    have g0 : DataW.trod enc Tryz.prog W base sp held n 23 ((([v0, v1, v2, v3, v4, v5, v6] : List Value).drop 0).take (Tryz.prog.cellsOf 23)) = some y0 := (hg 0 _ rfl).trans e0
    have g1 : DataW.trod enc Tryz.prog W base sp held n 26 ((([v0, v1, v2, v3, v4, v5, v6] : List Value).drop 2).take (Tryz.prog.cellsOf 26)) = some y1 := (hg 1 _ rfl).trans e1
    have g2 : DataW.trod enc Tryz.prog W base sp held n 3 ((([v0, v1, v2, v3, v4, v5, v6] : List Value).drop 6).take (Tryz.prog.cellsOf 3)) = some y2 := (hg 2 _ rfl).trans e2
    rw [c23] at g0
    rw [c26] at g1
    rw [c3] at g2
    replace g0 : DataW.trod enc Tryz.prog W base sp held n 23 [v0, v1] = some y0 := g0
    replace g1 : DataW.trod enc Tryz.prog W base sp held n 26 [v2, v3, v4, v5] = some y1 := g1
    replace g2 : DataW.trod enc Tryz.prog W base sp held n 3 [v6] = some y2 := g2
    obtain ⟨a, _, _, _, _, halen, ha⟩ := DataW.trod_struct Tryz.underlying23 g0
    obtain ⟨b, _, _, _, _, hblen, hb⟩ := DataW.trod_struct Tryz.underlying26 g1
    obtain ⟨z0, f0⟩ := trodSome (i := 0) halen (by decide)
    obtain ⟨z1, f1⟩ := trodSome (i := 1) halen (by decide)
    obtain ⟨u0, k0⟩ := trodSome (i := 0) hblen (by decide)
    obtain ⟨u1, k1⟩ := trodSome (i := 1) hblen (by decide)
    obtain ⟨u2, k2⟩ := trodSome (i := 2) hblen (by decide)
    obtain ⟨u3, k3⟩ := trodSome (i := 3) hblen (by decide)
    have a0 : DataW.trod enc Tryz.prog W base sp held _ 3 ((([v0, v1] : List Value).drop 0).take (Tryz.prog.cellsOf 3)) = some z0 := (ha 0 _ rfl).trans f0
    have a1 : DataW.trod enc Tryz.prog W base sp held _ 3 ((([v0, v1] : List Value).drop 1).take (Tryz.prog.cellsOf 3)) = some z1 := (ha 1 _ rfl).trans f1
    have b0 : DataW.trod enc Tryz.prog W base sp held _ 3 ((([v2, v3, v4, v5] : List Value).drop 0).take (Tryz.prog.cellsOf 3)) = some u0 := (hb 0 _ rfl).trans k0
    have b1 : DataW.trod enc Tryz.prog W base sp held _ 24 ((([v2, v3, v4, v5] : List Value).drop 1).take (Tryz.prog.cellsOf 24)) = some u1 := (hb 1 _ rfl).trans k1
    have b2 : DataW.trod enc Tryz.prog W base sp held _ 24 ((([v2, v3, v4, v5] : List Value).drop 2).take (Tryz.prog.cellsOf 24)) = some u2 := (hb 2 _ rfl).trans k2
    have b3 : DataW.trod enc Tryz.prog W base sp held _ 24 ((([v2, v3, v4, v5] : List Value).drop 3).take (Tryz.prog.cellsOf 24)) = some u3 := (hb 3 _ rfl).trans k3
    rw [c3] at a0 a1 b0
    rw [c24] at b1 b2 b3
    obtain ⟨n0, q0, _⟩ := DataW.trod_int Tryz.underlying3 a0
    obtain ⟨n1, q1, _⟩ := DataW.trod_int Tryz.underlying3 a1
    obtain ⟨n2, q2, _⟩ := DataW.trod_int Tryz.underlying3 b0
    obtain ⟨n3, q3, _⟩ := DataW.trod_int Tryz.underlying24 b1
    obtain ⟨n4, q4, _⟩ := DataW.trod_int Tryz.underlying24 b2
    obtain ⟨n5, q5, _⟩ := DataW.trod_int Tryz.underlying24 b3
    obtain ⟨n6, q6, _⟩ := DataW.trod_int Tryz.underlying3 g2
    simp at q0 q1 q2 q3 q4 q5 q6
    subst q0 q1 q2 q3 q4 q5 q6
    exact ⟨⟨n0, n1, n2, n3, n4, n5, n6⟩, rfl⟩
end
noncomputable def cfgArg : Value := .agg #[.int .i64 0, .int .i64 0, .int .i64 0, .int .u64 0, .int .u64 0, .int .u64 0, .int .i64 0]
theorem errs_lifted (os : Os) (started : os.Started) (H : Type) (enc : TypeId × Value → H) :
    ReturnsInHanded {} Tryz.checked os 3 .any (fun w args => (Rows.modelErrsSpec.pre enc Tryz.prog Tryz.f3 [] false w args ∧ laidMetH Tryz.prog Rows.modelErrsRow.laid w) ∧ sizedMet enc Tryz.prog Tryz.f3 (OpenSpec.ofChange Rows.modelErrsSpec) false w args)
      (Rows.modelErrsSpec.post enc Tryz.prog Tryz.f3 false true false false) := by
  refine returnsInHanded_of_change_and (C := Tryz.checked) (X := fun w _ => laidMetH Tryz.prog Rows.modelErrsRow.laid w) (fun _ _ _ hh h => h.of_heap hh) own started (by kernel_rfl) Tryz.func3
    (ChangeSpec.witness_shaped (enc := enc) (C := Tryz.checked) (os := os) (X := fun w _ => laidMetH Tryz.prog Rows.modelErrsRow.laid w) false (World.laidAll Tryz.prog os Rows.modelErrsRow.laid) #[cfgArg] 8 (World.laidAll_os _ _ _)
      (World.shaped_of_ZipB (by kernel_rfl) (by kernel_rfl)) (by kernel_rfl) (by kernel_rfl) (by kernel_rfl)
      (by rw [MakeChecks.laidMetH_plain _ _ _ (by kernel_rfl)]; exact laidMet_laidAll _ (by kernel_rfl) (by kernel_rfl))) ?_
  intro W base args ds gs before hval0 hW _ _ hL _
  have hval : ∀ (j : Nat) t v, Tryz.f3.params[j]? = some t → args[j]? = some v → Value.okWide Tryz.prog W .any base t v := hval0
  have hW' := hW
  obtain ⟨p, q, hA0, hV, rfl, _, _⟩ := hW
  have hA : DataW.TrodAll enc Tryz.prog W 0 (fun _ => true) true Tryz.f3.params.toList args.toList ds p := hA0
  rw [Tryz.params3] at hA hval
  obtain ⟨v0, d0, rfl, rfl, h0⟩ := trodAll_one hA
  obtain ⟨rfl, rfl⟩ := trodVars_none hV
  obtain ⟨c, rfl⟩ := cfg_open (hval 0 28 v0 rfl rfl) h0
  obtain ⟨ht, hlt⟩ := tab_of_laid hL
  refine (law_errs c W ht hlt).mono fun e W' ⟨he, hw⟩ => ?_
  subst he
  exact ⟨_, rfl, law_post (by rw [Tryz.params3]; intro t h; simp at h; subst h; decide) rfl hW' hw (by kernel_rfl) rfl⟩
theorem errs_holds : Rows.ModelErrsSaid :=
  OpenClaim.holds_of_wide 3 Tryz.f3 rfl rfl rfl rfl rfl rfl rfl ⟨rfl, rfl, rfl, rfl, rfl⟩ rfl rfl rfl rfl rfl (by kernel_rfl) Tryz.func3 (by kernel_rfl)
    (of_decide_eq_true (by kernel_rfl)) (by unfold Func.isWrapper; first | (rw [if_pos (by decide +kernel)]; kernel_rfl) | (rw [if_neg (by decide +kernel)]; exact ⟨rfl, rfl⟩))
    (fun os started H enc _ => errs_lifted os started H enc)
theorem modelErrs_card : Rows.ModelErrsCardSaid :=
  Claim7.holds_tied_plain_at .later [] [.data, .data, .pinned] true (true, "efc60ed77193fe23292e9602cafaf3c0a8b8ba52cb30f3a063d95c67f499a05a") true errs_holds (fun _ h => by cases h) (by kernel_rfl) (fun _ h => by cases h) modelErrs_row_tie rfl ⟨rfl, rfl⟩ (by kernel_rfl) rfl
    (fun f fn hf hfn => by
      obtain rfl : f = 3 := Option.some.inj ((show Tryz.prog.funcNamed "postroom/postroomlaw20.ModelErrs" = some 3 by kernel_rfl).symm.trans hf) |>.symm
      obtain rfl : fn = Tryz.f3 := (Option.some.inj (Tryz.func3.symm.trans hfn)).symm
      exact ⟨by kernel_rfl, fun j t ht => by
        rw [Tryz.params3] at ht
        have hm : t ∈ [28] := by simpa using Array.mem_of_getElem? ht
        have hall : ([28].all fun u => !Tryz.prog.wantsStandIn u) = true := by kernel_rfl
        exact (show Tryz.prog.wantsStandIn t = false by simpa using List.all_eq_true.1 hall t hm)⟩)
    (by kernel_rfl)
#print axioms modelErrs_card
end Go.Proofs.YtcofknlcdgidpaaGreatDoor
