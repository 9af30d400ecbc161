/- Part 2 of a proof by parts: contracts of functions that the statement reaches, by the text that each is of. Conditions: as each states them. -/
import Derived.Test.YtcofknlcdgidpaaGreatDoorProg
import Derived.KernelRfl
import Derived.RangeFuncNested
import Derived.RangeFuncBound
import Derived.RangeFuncCalls
import Derived.RangeFuncLeaves
import Derived.RangeFuncBox
import Derived.Shelf.Abstract
import Derived.WalkKit
import Derived.OwnWalkIn
import Derived.TacticsInMore
import Derived.LoopNIn
import Derived.LoopIn
import Derived.Maps.AppendAt
import Derived.Lib.Builder
import Derived.Lib.OthersKept
import Derived.Lib.UnsafeStr
import Derived.Lib.AppendStr
import Derived.Laws.Externs
import Derived.Test.YtcofknlcdgidpaaGreatDoorZE1
/-! ## GlabelCheck -/
namespace Go.Proofs.YtcofknlcdgidpaaGreatDoor
open Go Go.Proofs.YtcofknlcdgidpaaGreatDoor.VC
set_option linter.unusedVariables false
set_option maxRecDepth 100000
set_option maxHeartbeats 0

/-! ### postroom/label.Check: function 113 -/
namespace label_Check
def t1 (R : Ending → World → Prop)  (Back0 : Int → List Value → World → Prop)  (l_0a : Option Addr) (l_0b : Nat) (l_0c : Nat) (x_8a : Option Addr) (x_8b : Nat) (x_8c : Nat) (x_9 : Int) (x_10 : Int) (g : List Value) (w : World) : Prop := boolV (decide (x_10 < x_9)) (someV x_8a (fun p1 => (0 ≤ x_10 ∧ x_10 < (x_8b : Nat)) ∧ (∃ s2 : ByteArray, ∃ s3 : ByteArray, (w.cell? (p1.add (x_10.toNat * 2)) = some (.string s2) ∧ w.cell? ((p1.add (x_10.toNat * 2)).add 1) = some (.string s3)) ∧ (∀ (b4 : Nat) (w5 : World), b4 = w.heap.size → w5 = World.alloc w (.cells #[.string ByteArray.empty, .string ByteArray.empty] 112) → Writable w5 ⟨b4, 0, none⟩ 2 ∧ ∀ w6 : World, w6 = World.setCell (World.setCell w5 ⟨b4, 0, none⟩ (.string s2)) ⟨b4, 1, none⟩ (.string s3) → ∃ s7 : ByteArray, w6.cell? ⟨b4, 0, none⟩ = some (.string s7) ∧ (Calls Tryz.prog 79 #[.string s7] w6 (fun e8 w9 => ∃ t10 : Bool, e8 = .returned (.bool t10) ∧ (boolV (!t10) (R (.returned (.int .i64 3)) w9) (∃ s11 : ByteArray, w9.cell? ⟨b4, 1, none⟩ = some (.string s11) ∧ (boolV (decide (((s11.size : Nat) : Int) > (40 : Int))) (R (.returned (.int .i64 7)) w9) (∃ S12 : World → Prop, (∀ w13 : World, w13.heap = w9.heap → w13.tape = w9.tape → w13.os = w9.os → w13.output = w9.output → S12 w13 ∧ ((0 ≤ x_10 ∧ x_10 ≤ (l_0c : Nat)) ∧ (∃ s14 : ByteArray, (∀ w, S12 w → w.cell? ⟨b4, 0, none⟩ = some (.string s14)) ∧ (Calls Tryz.prog 167 #[.slice l_0a x_10.toNat l_0c, .string s14] w13 (fun e15 w16 => ∃ x17 : Int, e15 = .returned (.int .i64 x17) ∧ (S12 w16 ∧ (boolV (decide (x17 ≥ (0 : Int))) (R (.returned (.int .i64 4)) w16) (Back0 (IntKind.wrap .i64 (x_10 + 1)) [nth g 0, nth g 1, .int .i64 x_10, .pointer (some ⟨b4, 0, none⟩), nth g 4, nth g 5, nth g 6, .bool (decide (x_10 < x_9)), .int .i64 x_10, .pointer (some (p1.add (x_10.toNat * 2))), .agg #[.string s2, .string s3], .bool (!t10), .pointer (some ⟨b4, 0, none⟩), .string s7, .bool t10, .bool (!t10), .bool (decide (((s11.size : Nat) : Int) > (40 : Int))), .pointer (some ⟨b4, 1, none⟩), .string s11, .int .i64 ((s11.size : Nat) : Int), .bool (decide (((s11.size : Nat) : Int) > (40 : Int))), .bool (decide (x17 ≥ (0 : Int))), .slice l_0a l_0b l_0c, .int .i64 x_10, .slice l_0a x_10.toNat l_0c, .pointer (some ⟨b4, 0, none⟩), .string s14, .int .i64 x17, .bool (decide (x17 ≥ (0 : Int))), .int .i64 (IntKind.wrap .i64 (x_10 + 1))] w16)))))))))))))))))) (R (.returned (.int .i64 0)) w)
def W0 (R : Ending → World → Prop)  (l_0a : Option Addr) (l_0b : Nat) (l_0c : Nat) (x_8a : Option Addr) (x_8b : Nat) (x_8c : Nat) (x_9 : Int) (x_10 : Int) (w : World) : Prop := ∃ (I : Nat → Int → World → Prop) (n : Nat), I n x_10 w ∧ ∀ (n : Nat) (x_10 : Int) (g : List Value) (w : World), I n x_10 w → ∀ (Back0 : Int → List Value → World → Prop), (∀ (m : Nat) (x_10 : Int) (g : List Value) (w : World), m < n → I m x_10 w → Back0 x_10 g w) → t1 R  Back0  l_0a l_0b l_0c x_8a x_8b x_8c x_9 x_10 g w
def t0 (R : Ending → World → Prop) (L0 : (Option Addr) → Nat → Nat → (Option Addr) → Nat → Nat → Int → Int → List Value → World → Prop) (l_0a : Option Addr) (l_0b : Nat) (l_0c : Nat) (w : World) : Prop := boolV (decide (((l_0b : Nat) : Int) > (8 : Int))) (R (.returned (.int .i64 6)) w) (L0 l_0a l_0b l_0c l_0a l_0b l_0c ((l_0b : Nat) : Int) 0 [undef, .int .i64 0, undef, undef, .slice l_0a l_0b l_0c, .int .i64 ((l_0b : Nat) : Int), .bool (decide (((l_0b : Nat) : Int) > (8 : Int))), undef, undef, undef, undef, undef, undef, undef, undef, undef, undef, undef, undef, undef, undef, undef, undef, undef, undef, undef, undef, undef, undef, undef] w)
def vc (R : Ending → World → Prop) (l_0a : Option Addr) (l_0b : Nat) (l_0c : Nat) (w : World) : Prop := ∀ (L0 : (Option Addr) → Nat → Nat → (Option Addr) → Nat → Nat → Int → Int → List Value → World → Prop), (∀ l_0a l_0b l_0c x_8a x_8b x_8c x_9 x_10 g w, W0 R l_0a l_0b l_0c x_8a x_8b x_8c x_9 x_10 w → L0 l_0a l_0b l_0c x_8a x_8b x_8c x_9 x_10 g w) → t0 R L0 l_0a l_0b l_0c w
theorem at0 (R : Ending → World → Prop) (l_0a : Option Addr) (l_0b : Nat) (l_0c : Nat) (x_8a : Option Addr) (x_8b : Nat) (x_8c : Nat) (x_9 : Int) (x_10 : Int) (g : List Value) (w : World) (h : W0 R  l_0a l_0b l_0c x_8a x_8b x_8c x_9 x_10 w) : atV Tryz.prog (bodyC Tryz.f113) [true, true, false, true, false] (retQ Tryz.prog Tryz.f113 R) [.slice l_0a l_0b l_0c, nth g 0, nth g 1, nth g 2, nth g 3, nth g 4, nth g 5, nth g 6, .slice x_8a x_8b x_8c, .int .i64 x_9, .int .i64 x_10, nth g 7, nth g 8, nth g 9, nth g 10, nth g 11, nth g 12, nth g 13, nth g 14, nth g 15, nth g 16, nth g 17, nth g 18, nth g 19, nth g 20, nth g 21, nth g 22, nth g 23, nth g 24, nth g 25, nth g 26, nth g 27, nth g 28, nth g 29] w := by
  obtain ⟨I, n0, h0, hs⟩ := h
  refine atV_loop (by kernel_rfl) (fun n s w => ∃ (x_10 : Int) (g : List Value), s = [.slice l_0a l_0b l_0c, nth g 0, nth g 1, nth g 2, nth g 3, nth g 4, nth g 5, nth g 6, .slice x_8a x_8b x_8c, .int .i64 x_9, .int .i64 x_10, nth g 7, nth g 8, nth g 9, nth g 10, nth g 11, nth g 12, nth g 13, nth g 14, nth g 15, nth g 16, nth g 17, nth g 18, nth g 19, nth g 20, nth g 21, nth g 22, nth g 23, nth g 24, nth g 25, nth g 26, nth g 27, nth g 28, nth g 29] ∧ I n x_10 w) n0 ⟨_, _, rfl, h0⟩ ?_
  rintro n s w ⟨x_10, g, rfl, hI⟩
  exact Eq.mpr (by kernel_rfl) (hs n x_10 g w hI (fun x_10 g w => (backQ (fun n s w => ∃ (x_10 : Int) (g : List Value), s = [.slice l_0a l_0b l_0c, nth g 0, nth g 1, nth g 2, nth g 3, nth g 4, nth g 5, nth g 6, .slice x_8a x_8b x_8c, .int .i64 x_9, .int .i64 x_10, nth g 7, nth g 8, nth g 9, nth g 10, nth g 11, nth g 12, nth g 13, nth g 14, nth g 15, nth g 16, nth g 17, nth g 18, nth g 19, nth g 20, nth g 21, nth g 22, nth g 23, nth g 24, nth g 25, nth g 26, nth g 27, nth g 28, nth g 29] ∧ I n x_10 w) n (ctxQ Tryz.prog (bodyC Tryz.f113) [true, true, false, true, false] (retQ Tryz.prog Tryz.f113 R))) .normal [.slice l_0a l_0b l_0c, nth g 0, nth g 1, nth g 2, nth g 3, nth g 4, nth g 5, nth g 6, .slice x_8a x_8b x_8c, .int .i64 x_9, .int .i64 x_10, nth g 7, nth g 8, nth g 9, nth g 10, nth g 11, nth g 12, nth g 13, nth g 14, nth g 15, nth g 16, nth g 17, nth g 18, nth g 19, nth g 20, nth g 21, nth g 22, nth g 23, nth g 24, nth g 25, nth g 26, nth g 27, nth g 28, nth g 29] w) (fun m x_10 g w hm hI => ⟨m, hm, x_10, g, rfl, hI⟩))
theorem calls (R : Ending → World → Prop) (l_0a : Option Addr) (l_0b : Nat) (l_0c : Nat) (w : World) (h : vc R l_0a l_0b l_0c w) : Calls Tryz.prog 113 #[.slice l_0a l_0b l_0c] w R :=
  calls_V Tryz.func113 (Eq.mpr (by kernel_rfl) (h (fun l_0a l_0b l_0c x_8a x_8b x_8c x_9 x_10 g w => atV Tryz.prog (bodyC Tryz.f113) [true, true, false, true, false] (retQ Tryz.prog Tryz.f113 R) [.slice l_0a l_0b l_0c, nth g 0, nth g 1, nth g 2, nth g 3, nth g 4, nth g 5, nth g 6, .slice x_8a x_8b x_8c, .int .i64 x_9, .int .i64 x_10, nth g 7, nth g 8, nth g 9, nth g 10, nth g 11, nth g 12, nth g 13, nth g 14, nth g 15, nth g 16, nth g 17, nth g 18, nth g 19, nth g 20, nth g 21, nth g 22, nth g 23, nth g 24, nth g 25, nth g 26, nth g 27, nth g 28, nth g 29] w) (fun l_0a l_0b l_0c x_8a x_8b x_8c x_9 x_10 g w h => at0 R l_0a l_0b l_0c x_8a x_8b x_8c x_9 x_10 g w h)))
end label_Check
end Go.Proofs.YtcofknlcdgidpaaGreatDoor
/-! ## Label -/
namespace Go.Proofs.YtcofknlcdgidpaaGreatDoor
open Go Go.RowKit Go.Proofs.YtcofknlcdgidpaaGreatDoor.VC
set_option linter.unusedVariables false
set_option maxRecDepth 100000

def firstL : Txt := [97, 98, 99, 100, 101, 102, 103, 104, 105, 106, 107, 108, 109, 110, 111, 112, 113, 114, 115, 116, 117, 118, 119, 120, 121, 122, 95]
def laterL : Txt := firstL ++ [48, 49, 50, 51, 52, 53, 54, 55, 56, 57]
/-- Is a text a name? -/
def nameOK (s : Txt) : Bool := !(s == []) && decide (s.length ≤ 20) && decide (Lib.indexByte firstL (s.headD 0) ≥ 0) && (Lib.trimS s laterL == [])
theorem label_name (s : Txt) (hlen : s.length < 9223372036854775807) (w0 : World) :
    Calls Tryz.prog 79 #[.string (S s)] w0 (fun e w => e = .returned (.bool (nameOK s)) ∧ Below w0.heap.size w0 w) := by
  apply label_Name.calls
  unfold label_Name.vc label_Name.t0
  have hsz : ((((S s).size : Nat)) : Int) = (s.length : Int) := rfl
  rw [S_toList, hsz, nil_toList]
  have hb : Below w0.heap.size w0 w0 := Below.refl _ _
  unfold nameOK
  cases s with
  | nil => exact boolF rfl ⟨rfl, hb⟩
  | cons b r =>
    refine boolT rfl ?_
    by_cases h20 : (b :: r).length ≤ 20
    · refine boolT (by simp at h20 ⊢; omega) ⟨⟨by decide, by show (0 : Int) < ((((b :: r).length : Nat)) : Int); simp⟩, ?_⟩
      have hbyte : byteAt (S (b :: r)) (0 : Int).toNat = b := rfl
      rw [hbyte]
      refine (Any.strings_IndexByte Tryz.lays137 _ _ w0).mono ?_
      rintro e w ⟨rfl, rfl⟩
      refine ⟨_, rfl, ?_⟩
      have hc : ((b.toNat : Nat) : Int).toNat.toUInt8 = b := by simp
      rw [hc]
      by_cases hi : Lib.indexByte firstL b ≥ 0
      · refine boolT (decide_eq_true hi) ?_
        refine (Any.strings_Trim_laid Tryz.lays160 (by kernel_rfl) (S (b :: r)) ⟨#[97, 98, 99, 100, 101, 102, 103, 104, 105, 106, 107, 108, 109, 110, 111, 112, 113, 114, 115, 116, 117, 118, 119, 120, 121, 122, 95, 48, 49, 50, 51, 52, 53, 54, 55, 56, 57]⟩ w (by show (b :: r).length ≤ _; omega) (by decide) (ascii_of_all (by decide))).mono ?_
        rintro e w1 ⟨rfl, hb1⟩
        refine ⟨_, rfl, ?_, hb1⟩
        simp only [List.headD_cons]
        rw [ByteArray.toList_mk]
        have e : (!(b :: r == []) && decide ((b :: r).length ≤ 20) && decide (Lib.indexByte firstL b ≥ 0) && (Lib.trimS (b :: r) laterL == [])) = (Lib.trimS (b :: r) laterL == []) := by
          rw [decide_eq_true hi, decide_eq_true h20]; rfl
        exact congrArg (fun z => Ending.returned (.bool z)) e.symm
      · refine boolF (decide_eq_false hi) ⟨?_, hb⟩
        have h2 : decide (Lib.indexByte firstL ((b :: r).headD 0) ≥ 0) = false := decide_eq_false hi
        rw [h2]; simp
    · refine boolF (by simp at h20 ⊢; omega) ⟨?_, hb⟩
      rw [show decide ((b :: r).length ≤ 20) = false from decide_eq_false h20]; rfl

/-! ### A name's place among labels -/
def findP (l : List (Txt × Txt)) (name : Txt) : Int := match l.findIdx? (fun p => p.1 == name) with | some i => i | none => -1
theorem label_find1 (p : Txt × Txt) (name : Txt) (q : Addr) (w0 : World) (hq : w0.cell? q = some (.string (S name))) :
    Calls Tryz.prog 212 #[.agg #[.string (S p.1), .string (S p.2)], .pointer (some q)] w0 (fun e w => e = .returned (.bool (p.1 == name)) ∧ Below w0.heap.size w0 w) := by
  apply label_find_1.calls
  unfold label_find_1.vc label_find_1.t0
  rintro b w2 rfl rfl
  have hblk := Blk.new w0 112 [.string (S p.1), .string (S p.2)]
  refine ⟨S p.1, hblk.cell (j := 0) rfl, someV_some rfl ⟨S name, ?_, ?_, ?_⟩⟩
  · exact ((Below.refl w0.heap.size w0).alloc (Nat.le_refl _) _ |>.cell (World.block_lt_of_cell? w0 _ hq)).trans hq
  · rw [S_toList, S_toList]
  · exact (Below.refl _ _).alloc (Nat.le_refl _) _
/-- slices.IndexFunc at pairs, of a closure that answers by what it is asked of alone. -/
theorem indexFunc_pair (P : Txt × Txt → Bool) (g : Nat) (cap : Array Value) (l : List (Txt × Txt)) (hl : l.length < 9223372036854775807) (a : Option Addr) (c : Nat) (w0 : World) (hrow : RowAt w0 a (pairCs l)) (hg : callable Tryz.prog g = true)
    (hf : ∀ p w, p ∈ l → Below w0.heap.size w0 w → Calls Tryz.prog g (#[.agg #[.string (S p.1), .string (S p.2)]] ++ cap) w (fun e w' => e = .returned (.bool (P p)) ∧ Below w.heap.size w w')) :
    Calls Tryz.prog 211 #[.slice a l.length c, .func (.func g) #[] cap] w0 (fun e w => e = .returned (.int .i64 (match l.findIdx? P with | some i => (i : Int) | none => -1)) ∧ Below w0.heap.size w0 w) := by
  apply slices_IndexFunc_api_Pair_api_Pair.calls
  intro L0 hL
  apply hL
  refine ⟨fun m x w => ∃ i : Nat, x = (i : Int) ∧ i ≤ l.length ∧ m = l.length - i ∧ (∀ j, j < i → ∀ p, l[j]? = some p → P p = false) ∧ Below w0.heap.size w0 w, _, ⟨0, rfl, by omega, rfl, by omega, Below.refl _ _⟩, ?_⟩
  rintro m x g' w ⟨i, rfl, hi, rfl, hno, hbel⟩ Back hback
  unfold slices_IndexFunc_api_Pair_api_Pair.t1
  by_cases hlt : i < l.length
  · have hli : l[i]? = some l[i] := List.getElem?_eq_getElem hlt
    obtain ⟨q, rfl, c0, c1⟩ := (hrow.below hbel (Nat.le_refl _)).pair hli
    refine boolT (by simp; omega) (someV_some rfl ⟨⟨by omega, by omega⟩, _, _, ⟨c0, c1⟩, ?_⟩)
    show goodCall _ _ _
    unfold goodCall
    rw [hg]
    have := hf l[i] w (List.getElem_mem hlt) hbel
    refine Calls.mono (R := fun e w' => e = .returned (.bool (P l[i])) ∧ Below w.heap.size w w') ?_ ?_
    · have e : (#[Value.agg #[.string (S l[i].1), .string (S l[i].2)]] ++ cap) = (([] : List Value) ++ ([.agg #[.string (S l[i].1), .string (S l[i].2)]] : List Value) ++ cap.toList).toArray := by
        apply Array.ext'; simp
      rw [e] at this; exact this
    rintro e w1 ⟨rfl, hb1⟩
    refine ⟨_, rfl, ?_⟩
    have hb1' := hbel.trans (hb1.mono hbel.size)
    by_cases hp : P l[i] = true
    · refine boolT hp ⟨?_, hb1'⟩
      have : l.findIdx? P = some i := by
        rw [List.findIdx?_eq_some_iff_getElem]
        exact ⟨hlt, hp, fun j hj => by simpa using hno j hj _ (List.getElem?_eq_getElem (by omega))⟩
      rw [this]
    · refine boolF (by simpa using hp) (hback (l.length - (i + 1)) _ _ _ (by omega) ⟨i + 1, ?_, by omega, rfl, ?_, hb1'⟩)
      · rw [wrap_i64 (by omega) (by omega)]; omega
      · intro j hj p hjp
        by_cases hji : j = i
        · subst hji; rw [hli] at hjp; cases hjp; simpa using hp
        · exact hno j (by omega) p hjp
  · refine boolF (by simp; omega) ⟨?_, hbel⟩
    have : l.findIdx? P = none := by
      rw [List.findIdx?_eq_none_iff]
      intro x hx
      obtain ⟨j, hj, rfl⟩ := List.mem_iff_getElem.1 hx
      exact hno j (by omega) _ (List.getElem?_eq_getElem hj)
    rw [this]
theorem label_find_ (l : List (Txt × Txt)) (hl : l.length < 9223372036854775807) (name : Txt) (a : Option Addr) (c : Nat) (w0 : World) (hrow : RowAt w0 a (pairCs l)) :
    Calls Tryz.prog 167 #[.slice a l.length c, .string (S name)] w0 (fun e w => e = .returned (.int .i64 (findP l name)) ∧ Below w0.heap.size w0 w) := by
  apply label_find.calls
  unfold label_find.vc label_find.t0
  rintro b w2 rfl rfl
  have hb0 : Below w0.heap.size w0 (w0.alloc (.cells #[.string (S name)] 9)) := (Below.refl _ _).alloc (Nat.le_refl _) _
  have hblk := Blk.new w0 9 [.string (S name)]
  refine (indexFunc_pair (fun p => p.1 == name) 212 #[.pointer (some ⟨w0.heap.size, 0, none⟩)] l hl a c _ (hrow.below hb0 (Nat.le_refl _)) (by kernel_rfl) ?_).mono ?_
  · intro p w hp hb
    exact label_find1 p name _ w ((hblk.below hb (by simp)).cell rfl)
  · rintro e w ⟨rfl, hb⟩
    exact ⟨_, rfl, rfl, hb0.trans (hb.mono (by simp))⟩
end Go.Proofs.YtcofknlcdgidpaaGreatDoor
/-! ## GsampleCheck -/
namespace Go.Proofs.YtcofknlcdgidpaaGreatDoor
open Go Go.Proofs.YtcofknlcdgidpaaGreatDoor.VC
set_option linter.unusedVariables false
set_option maxRecDepth 100000
set_option maxHeartbeats 0

/-! ### postroom/sample.Check: function 114 -/
namespace sample_Check
def t1 (R : Ending → World → Prop)  (Back0 : Int → List Value → World → Prop)  (l_0a : Option Addr) (l_0b : Nat) (l_0c : Nat) (x_14a : Option Addr) (x_14b : Nat) (x_14c : Nat) (x_15 : Int) (x_16 : Int) (g : List Value) (w : World) : Prop := boolV (decide (x_16 < x_15)) (someV x_14a (fun p1 => (0 ≤ x_16 ∧ x_16 < (x_14b : Nat)) ∧ (∃ x2 : Int, ∃ x3 : Int, (w.cell? (p1.add (x_16.toNat * 2)) = some (.int .u64 x2) ∧ w.cell? ((p1.add (x_16.toNat * 2)).add 1) = some (.int .i64 x3)) ∧ (∀ (b4 : Nat) (w5 : World), b4 = w.heap.size → w5 = World.alloc w (.cells #[.int .u64 0, .int .i64 0] 114) → Writable w5 ⟨b4, 0, none⟩ 2 ∧ ∀ w6 : World, w6 = World.setCell (World.setCell w5 ⟨b4, 0, none⟩ (.int .u64 x2)) ⟨b4, 1, none⟩ (.int .i64 x3) → ∃ C7 : World → Prop, (∀ w' : World, w'.heap = w6.heap → w'.tape = w6.tape → w'.os = w6.os → w'.output = w6.output → C7 w') ∧ (∃ x9 : Int, (∀ w, C7 w → w.cell? ⟨b4, 0, none⟩ = some (.int .u64 x9)) ∧ (someV l_0a (fun p10 => (0 ≤ x_16 ∧ x_16 < (l_0b : Nat)) ∧ (∃ x11 : Int, (∀ w, C7 w → w.cell? (p10.add (x_16.toNat * 2)) = some (.int .u64 x11)) ∧ (∀ w8 : World, C7 w8 → boolV (decide (x9 ≤ x11)) (R (.returned (.int .i64 8)) w8) (Back0 (IntKind.wrap .i64 (x_16 + 1)) [nth g 0, nth g 1, .int .i64 x_16, .pointer (some ⟨b4, 0, none⟩), nth g 4, nth g 5, nth g 6, nth g 7, nth g 8, nth g 9, nth g 10, nth g 11, nth g 12, .bool (decide (x_16 < x_15)), .int .i64 x_16, .pointer (some (p1.add (x_16.toNat * 2))), .agg #[.int .u64 x2, .int .i64 x3], .pointer (some ⟨b4, 0, none⟩), .int .u64 x9, .slice l_0a l_0b l_0c, .int .i64 x_16, .pointer (some (p10.add (x_16.toNat * 2))), .pointer (some (p10.add (x_16.toNat * 2))), .int .u64 x11, .bool (decide (x9 ≤ x11)), .int .i64 (IntKind.wrap .i64 (x_16 + 1))] w8)))))))))) (R (.returned (.int .i64 0)) w)
def W0 (R : Ending → World → Prop)  (l_0a : Option Addr) (l_0b : Nat) (l_0c : Nat) (x_14a : Option Addr) (x_14b : Nat) (x_14c : Nat) (x_15 : Int) (x_16 : Int) (w : World) : Prop := ∃ (I : Nat → Int → World → Prop) (n : Nat), I n x_16 w ∧ ∀ (n : Nat) (x_16 : Int) (g : List Value) (w : World), I n x_16 w → ∀ (Back0 : Int → List Value → World → Prop), (∀ (m : Nat) (x_16 : Int) (g : List Value) (w : World), m < n → I m x_16 w → Back0 x_16 g w) → t1 R  Back0  l_0a l_0b l_0c x_14a x_14b x_14c x_15 x_16 g w
def t0 (R : Ending → World → Prop) (L0 : (Option Addr) → Nat → Nat → (Option Addr) → Nat → Nat → Int → Int → List Value → World → Prop) (l_0a : Option Addr) (l_0b : Nat) (l_0c : Nat) (w : World) : Prop := boolV (((l_0b : Nat) : Int) == (0 : Int)) (R (.returned (.int .i64 6)) w) (boolV (decide (((l_0b : Nat) : Int) > (20 : Int))) (R (.returned (.int .i64 6)) w) ((0 ≤ (1 : Int) ∧ (1 : Int) ≤ (l_0b : Nat)) ∧ ∀ a1, a1 = sliceAddr l_0a l_0c ((1 : Int).toNat) 2 → L0 l_0a l_0b l_0c a1 (l_0b - (1 : Int).toNat) (l_0c - (1 : Int).toNat) ((l_0b - (1 : Int).toNat : Nat) : Int) 0 [undef, .int .i64 0, undef, undef, .slice l_0a l_0b l_0c, .int .i64 ((l_0b : Nat) : Int), .bool (((l_0b : Nat) : Int) == (0 : Int)), .bool false, .slice l_0a l_0b l_0c, .int .i64 ((l_0b : Nat) : Int), .bool (decide (((l_0b : Nat) : Int) > (20 : Int))), .bool (decide (((l_0b : Nat) : Int) > (20 : Int))), .slice l_0a l_0b l_0c, undef, undef, undef, undef, undef, undef, undef, undef, undef, undef, undef, undef, undef] w))
def vc (R : Ending → World → Prop) (l_0a : Option Addr) (l_0b : Nat) (l_0c : Nat) (w : World) : Prop := ∀ (L0 : (Option Addr) → Nat → Nat → (Option Addr) → Nat → Nat → Int → Int → List Value → World → Prop), (∀ l_0a l_0b l_0c x_14a x_14b x_14c x_15 x_16 g w, W0 R l_0a l_0b l_0c x_14a x_14b x_14c x_15 x_16 w → L0 l_0a l_0b l_0c x_14a x_14b x_14c x_15 x_16 g w) → t0 R L0 l_0a l_0b l_0c w
theorem at0 (R : Ending → World → Prop) (l_0a : Option Addr) (l_0b : Nat) (l_0c : Nat) (x_14a : Option Addr) (x_14b : Nat) (x_14c : Nat) (x_15 : Int) (x_16 : Int) (g : List Value) (w : World) (h : W0 R  l_0a l_0b l_0c x_14a x_14b x_14c x_15 x_16 w) : atV Tryz.prog (bodyC Tryz.f114) [true, true, false, true, false] (retQ Tryz.prog Tryz.f114 R) [.slice l_0a l_0b l_0c, nth g 0, nth g 1, nth g 2, nth g 3, nth g 4, nth g 5, nth g 6, nth g 7, nth g 8, nth g 9, nth g 10, nth g 11, nth g 12, .slice x_14a x_14b x_14c, .int .i64 x_15, .int .i64 x_16, nth g 13, nth g 14, nth g 15, nth g 16, nth g 17, nth g 18, nth g 19, nth g 20, nth g 21, nth g 22, nth g 23, nth g 24, nth g 25] w := by
  obtain ⟨I, n0, h0, hs⟩ := h
  refine atV_loop (by kernel_rfl) (fun n s w => ∃ (x_16 : Int) (g : List Value), s = [.slice l_0a l_0b l_0c, nth g 0, nth g 1, nth g 2, nth g 3, nth g 4, nth g 5, nth g 6, nth g 7, nth g 8, nth g 9, nth g 10, nth g 11, nth g 12, .slice x_14a x_14b x_14c, .int .i64 x_15, .int .i64 x_16, nth g 13, nth g 14, nth g 15, nth g 16, nth g 17, nth g 18, nth g 19, nth g 20, nth g 21, nth g 22, nth g 23, nth g 24, nth g 25] ∧ I n x_16 w) n0 ⟨_, _, rfl, h0⟩ ?_
  rintro n s w ⟨x_16, g, rfl, hI⟩
  exact Eq.mpr (by kernel_rfl) (hs n x_16 g w hI (fun x_16 g w => (backQ (fun n s w => ∃ (x_16 : Int) (g : List Value), s = [.slice l_0a l_0b l_0c, nth g 0, nth g 1, nth g 2, nth g 3, nth g 4, nth g 5, nth g 6, nth g 7, nth g 8, nth g 9, nth g 10, nth g 11, nth g 12, .slice x_14a x_14b x_14c, .int .i64 x_15, .int .i64 x_16, nth g 13, nth g 14, nth g 15, nth g 16, nth g 17, nth g 18, nth g 19, nth g 20, nth g 21, nth g 22, nth g 23, nth g 24, nth g 25] ∧ I n x_16 w) n (ctxQ Tryz.prog (bodyC Tryz.f114) [true, true, false, true, false] (retQ Tryz.prog Tryz.f114 R))) .normal [.slice l_0a l_0b l_0c, nth g 0, nth g 1, nth g 2, nth g 3, nth g 4, nth g 5, nth g 6, nth g 7, nth g 8, nth g 9, nth g 10, nth g 11, nth g 12, .slice x_14a x_14b x_14c, .int .i64 x_15, .int .i64 x_16, nth g 13, nth g 14, nth g 15, nth g 16, nth g 17, nth g 18, nth g 19, nth g 20, nth g 21, nth g 22, nth g 23, nth g 24, nth g 25] w) (fun m x_16 g w hm hI => ⟨m, hm, x_16, g, rfl, hI⟩))
theorem calls (R : Ending → World → Prop) (l_0a : Option Addr) (l_0b : Nat) (l_0c : Nat) (w : World) (h : vc R l_0a l_0b l_0c w) : Calls Tryz.prog 114 #[.slice l_0a l_0b l_0c] w R :=
  calls_V Tryz.func114 (Eq.mpr (by kernel_rfl) (h (fun l_0a l_0b l_0c x_14a x_14b x_14c x_15 x_16 g w => atV Tryz.prog (bodyC Tryz.f114) [true, true, false, true, false] (retQ Tryz.prog Tryz.f114 R) [.slice l_0a l_0b l_0c, nth g 0, nth g 1, nth g 2, nth g 3, nth g 4, nth g 5, nth g 6, nth g 7, nth g 8, nth g 9, nth g 10, nth g 11, nth g 12, .slice x_14a x_14b x_14c, .int .i64 x_15, .int .i64 x_16, nth g 13, nth g 14, nth g 15, nth g 16, nth g 17, nth g 18, nth g 19, nth g 20, nth g 21, nth g 22, nth g 23, nth g 24, nth g 25] w) (fun l_0a l_0b l_0c x_14a x_14b x_14c x_15 x_16 g w h => at0 R l_0a l_0b l_0c x_14a x_14b x_14c x_15 x_16 g w h)))
end sample_Check
end Go.Proofs.YtcofknlcdgidpaaGreatDoor
/-! ## GentryCheck -/
namespace Go.Proofs.YtcofknlcdgidpaaGreatDoor
open Go Go.Proofs.YtcofknlcdgidpaaGreatDoor.VC
set_option linter.unusedVariables false
set_option maxRecDepth 100000
set_option maxHeartbeats 0

/-! ### postroom/entry.Check: function 80 -/
namespace entry_Check
def t0 (R : Ending → World → Prop)  (e_0a : Option Addr) (e_0b : Nat) (e_0c : Nat) (e_0d : Option Addr) (e_0e : Nat) (e_0f : Nat) (w : World) : Prop := ∀ (b1 : Nat) (w2 : World), b1 = w.heap.size → w2 = World.alloc w (.cells #[.slice e_0a e_0b e_0c, .slice e_0d e_0e e_0f] 53) → ∃ (a3 : Option Addr) (n4 c5 : Nat), w2.cell? ⟨b1, 0, none⟩ = some (.slice a3 n4 c5) ∧ (Calls Tryz.prog 113 #[.slice a3 n4 c5] w2 (fun e6 w7 => ∃ x8 : Int, e6 = .returned (.int .i64 x8) ∧ (boolV (x8 != (0 : Int)) (R (.returned (.int .i64 x8)) w7) (∃ (a9 : Option Addr) (n10 c11 : Nat), w7.cell? ⟨b1, 1, none⟩ = some (.slice a9 n10 c11) ∧ (Calls Tryz.prog 114 #[.slice a9 n10 c11] w7 (fun e12 w13 => ∃ x14 : Int, e12 = .returned (.int .i64 x14) ∧ (R (.returned (.int .i64 x14)) w13)))))))
def vc (R : Ending → World → Prop) (e_0a : Option Addr) (e_0b : Nat) (e_0c : Nat) (e_0d : Option Addr) (e_0e : Nat) (e_0f : Nat) (w : World) : Prop := t0 R  e_0a e_0b e_0c e_0d e_0e e_0f w
theorem calls (R : Ending → World → Prop) (e_0a : Option Addr) (e_0b : Nat) (e_0c : Nat) (e_0d : Option Addr) (e_0e : Nat) (e_0f : Nat) (w : World) (h : vc R e_0a e_0b e_0c e_0d e_0e e_0f w) : Calls Tryz.prog 80 #[.agg #[.slice e_0a e_0b e_0c, .slice e_0d e_0e e_0f]] w R :=
  calls_V Tryz.func80 (Eq.mpr (by kernel_rfl) (h))
end entry_Check
end Go.Proofs.YtcofknlcdgidpaaGreatDoor
/-! ## Check -/
namespace Go.Proofs.YtcofknlcdgidpaaGreatDoor
open Go Go.RowKit Go.Proofs.YtcofknlcdgidpaaGreatDoor.VC
set_option linter.unusedVariables false
set_option maxRecDepth 100000

theorem findP_neg {l : List (Txt × Txt)} {n : Txt} : findP l n < 0 ↔ ∀ p ∈ l, p.1 ≠ n := by
  unfold findP
  cases h : l.findIdx? (fun p => p.1 == n) with
  | none => rw [List.findIdx?_eq_none_iff] at h; simp; simpa using h
  | some i =>
    simp only
    constructor
    · intro h2; omega
    · intro h2
      rw [List.findIdx?_eq_some_iff_getElem] at h
      obtain ⟨hi, hp, _⟩ := h
      exact absurd (by simpa using hp) (h2 _ (List.getElem_mem hi))
/-- What is wrong with labels, behind those that were seen. -/
def labGo (seen : List (Txt × Txt)) : List (Txt × Txt) → Nat
  | [] => 0
  | p :: r => if nameOK p.1 = false then 3 else if 40 < p.2.length then 7 else if 0 ≤ findP seen p.1 then 4 else labGo (seen ++ [p]) r
def labCheck (l : List (Txt × Txt)) : Nat := if 8 < l.length then 6 else labGo [] l
theorem label_check (l : List (Txt × Txt)) (hs : ∀ p ∈ l, p.1.length < 9223372036854775807) (hl : l.length < 9223372036854775807) (a : Option Addr) (c : Nat) (hc : l.length ≤ c) (w0 : World) (hrow : RowAt w0 a (pairCs l)) :
    Calls Tryz.prog 113 #[.slice a l.length c] w0 (fun e w => e = .returned (.int .i64 (labCheck l)) ∧ Below w0.heap.size w0 w) := by
  apply label_Check.calls
  intro L0 hL
  unfold label_Check.t0
  by_cases h8 : 8 < l.length
  · refine boolT (by simp; omega) ⟨by rw [labCheck, if_pos h8]; rfl, Below.refl _ _⟩
  refine boolF (by simp; omega) ?_
  have hgo0 : labCheck l = labGo [] l := by rw [labCheck, if_neg h8]
  apply hL
  refine ⟨fun m x w => ∃ i : Nat, x = (i : Int) ∧ i ≤ l.length ∧ m = l.length - i ∧ labGo (l.take i) (l.drop i) = labCheck l ∧ Below w0.heap.size w0 w, _, ⟨0, rfl, by omega, rfl, by simp [hgo0], Below.refl _ _⟩, ?_⟩
  rintro m x g w ⟨i, rfl, hi, rfl, hgo, hbel⟩ Back hback
  unfold label_Check.t1
  by_cases hlt : i < l.length
  · have hli : l[i]? = some l[i] := List.getElem?_eq_getElem hlt
    have hmem := List.getElem_mem hlt
    obtain ⟨q, hq, c0, c1⟩ := (hrow.below hbel (Nat.le_refl _)).pair hli
    rw [List.drop_eq_getElem_cons hlt, labGo] at hgo
    refine boolT (by simp; omega) (someV_some hq ⟨⟨by omega, by omega⟩, _, _, ⟨c0, c1⟩, var2V ?_⟩)
    intro w6 hblk hb6 hs6
    have hb6' := hbel.trans (hb6.mono hbel.size)
    refine ⟨_, hblk.cell (j := 0) rfl, (label_name _ (hs _ hmem) w6).mono ?_⟩
    rintro e w9 ⟨rfl, hb9⟩
    have hb9' := hb6'.trans (hb9.mono hb6'.size)
    have hblk9 := hblk.below hb9 hblk.lt
    refine ⟨_, rfl, ?_⟩
    by_cases hn : nameOK l[i].1 = false
    · rw [if_pos hn] at hgo
      exact boolT (by rw [hn]; rfl) ⟨by rw [← hgo]; rfl, hb9'⟩
    rw [if_neg hn] at hgo
    refine boolF (by simpa using hn) ⟨_, hblk9.cell (j := 1) rfl, ?_⟩
    by_cases h40 : 40 < l[i].2.length
    · rw [if_pos h40] at hgo
      exact boolT (by simp [S_size]; omega) ⟨by rw [← hgo]; rfl, hb9'⟩
    rw [if_neg h40] at hgo
    refine boolF (by simp [S_size]; omega) ⟨fun W => W.cell? ⟨w.heap.size, 0, none⟩ = some (.string (S l[i].1)), ?_⟩
    intro w13 e1 e2 e3 e4
    have hb13 := same_below (w := w9) (w' := w13) w0.heap.size e1 e2 e3 e4
    have hb13' := hb9'.trans hb13
    have hblk13 := hblk9.same e1
    refine ⟨hblk13.cell rfl, ⟨by omega, by omega⟩, _, fun _ h => h, ?_⟩
    have hlen : (l.take i).length = i := by simp; omega
    have hf := label_find_ (l.take i) (by omega) l[i].1 a c w13 (by
      have := (hrow.below hb13' (Nat.le_refl _)).take (i * 2)
      rwa [pairCs_take] at this)
    rw [hlen] at hf
    refine hf.mono ?_
    rintro e w16 ⟨rfl, hb16⟩
    have hb16' := hb13'.trans (hb16.mono hb13'.size)
    refine ⟨_, rfl, (hblk13.below hb16 hblk13.lt).cell rfl, ?_⟩
    by_cases hf0 : 0 ≤ findP (l.take i) l[i].1
    · rw [if_pos hf0] at hgo
      exact boolT (decide_eq_true hf0) ⟨by rw [← hgo]; rfl, hb16'⟩
    rw [if_neg hf0] at hgo
    refine boolF (decide_eq_false hf0) (hback (l.length - (i + 1)) _ _ _ (by omega) ⟨i + 1, ?_, by omega, rfl, ?_, hb16'⟩)
    · rw [wrap_i64 (by omega) (by omega)]; omega
    · rw [← hgo, List.take_add_one, hli]; rfl
  · refine boolF (by simp; omega) ⟨?_, hbel⟩
    rw [← hgo, List.drop_eq_nil_of_le (by omega)]; rfl

/-! ### Samples -/
def rising : List (Nat × Int) → Bool
  | [] => true
  | [_] => true
  | a :: b :: r => decide (a.1 < b.1) && rising (b :: r)
theorem rising_cons2 (a b : Nat × Int) (r : List (Nat × Int)) : rising (a :: b :: r) = (decide (a.1 < b.1) && rising (b :: r)) := by rw [rising]
def smpCheck (l : List (Nat × Int)) : Nat := if l.length = 0 ∨ 20 < l.length then 6 else if rising l then 0 else 8
theorem smpCs_drop1 (l : List (Nat × Int)) : (smpCs l).drop 2 = smpCs (l.drop 1) := by
  cases l with
  | nil => rfl
  | cons x r => rfl
theorem sample_check (l : List (Nat × Int)) (hl : l.length < 9223372036854775807) (a : Option Addr) (c : Nat) (hc : l.length ≤ c) (w0 : World) (hrow : RowAt w0 a (smpCs l)) :
    Calls Tryz.prog 114 #[.slice a l.length c] w0 (fun e w => e = .returned (.int .i64 (smpCheck l)) ∧ Below w0.heap.size w0 w) := by
  apply sample_Check.calls
  intro L0 hL
  unfold sample_Check.t0
  have hB0 : Below w0.heap.size w0 w0 := Below.refl _ _
  by_cases h0 : l.length = 0
  · exact boolT (by simp [h0]) ⟨by rw [smpCheck, if_pos (.inl h0)]; rfl, hB0⟩
  refine boolF (by simpa using h0) ?_
  by_cases h20 : 20 < l.length
  · exact boolT (by simp; omega) ⟨by rw [smpCheck, if_pos (.inr h20)]; rfl, hB0⟩
  refine boolF (by simp; omega) ⟨⟨by decide, by omega⟩, ?_⟩
  rintro a1 rfl
  have hck : smpCheck l = if rising l then 0 else 8 := by rw [smpCheck, if_neg (by omega)]
  have hrow1 : RowAt w0 (sliceAddr a c (1 : Int).toNat 2) (smpCs (l.drop 1)) := by
    have := hrow.drop (c := c) (k := 1) (size := 2) (by rw [smpCs_len]; omega)
    rwa [smpCs_drop1] at this
  apply hL
  refine ⟨fun m x w => ∃ i : Nat, x = (i : Int) ∧ i < l.length ∧ m = l.length - i ∧ rising l = rising (l.drop i) ∧ Below w0.heap.size w0 w, _, ⟨0, rfl, by omega, rfl, by simp, hB0⟩, ?_⟩
  rintro m x g w ⟨i, rfl, hi, rfl, hr, hbel⟩ Back hback
  unfold sample_Check.t1
  have e1 : (l.length - (1 : Int).toNat : Nat) = l.length - 1 := rfl
  by_cases hlt : i + 1 < l.length
  · have hli : l[i]? = some l[i] := List.getElem?_eq_getElem hi
    have hli1 : (l.drop 1)[i]? = some l[i + 1] := by rw [List.getElem?_drop, Nat.add_comm, List.getElem?_eq_getElem hlt]
    obtain ⟨q, hq, c0, c1⟩ := (hrow1.below hbel (Nat.le_refl _)).smp hli1
    refine boolT (by rw [e1]; simp; omega) (someV_some hq ⟨⟨by omega, by rw [e1]; omega⟩, _, _, ⟨c0, c1⟩, var2V ?_⟩)
    intro w6 hblk hb6 hs6
    have hb6' := hbel.trans (hb6.mono hbel.size)
    obtain ⟨q', hq', d0, d1⟩ := (hrow.below hb6' (Nat.le_refl _)).smp hli
    refine ⟨fun W => W.heap = w6.heap ∧ Below w0.heap.size w0 W, fun W e1 e2 e3 e4 => ⟨e1, hb6'.trans (same_below _ e1 e2 e3 e4)⟩, _, fun W hW => (hblk.same hW.1).cell (j := 0) rfl, someV_some hq' ⟨⟨by omega, by omega⟩, _, fun W hW => (World.cell?_of_block (w := w6) (by rw [hW.1])).trans d0, fun W hW => ?_⟩⟩
    · rw [List.drop_eq_getElem_cons hi, List.drop_eq_getElem_cons hlt, rising_cons2, ← List.drop_eq_getElem_cons hlt] at hr
      by_cases hle : l[i].1 < l[i + 1].1
      · refine boolF (by simp; omega) (hback (l.length - (i + 1)) _ _ _ (by omega) ⟨i + 1, ?_, hlt, rfl, ?_, hW.2⟩)
        · rw [wrap_i64 (by omega) (by omega)]; omega
        · rw [hr, decide_eq_true hle, Bool.true_and]
      · refine boolT (by simp; omega) ⟨?_, hW.2⟩
        rw [hck, hr, decide_eq_false hle]; rfl
  · refine boolF (by rw [e1]; simp; omega) ⟨?_, hbel⟩
    obtain rfl : i = l.length - 1 := by omega
    rw [hck, hr, List.drop_eq_getElem_cons hi, List.drop_eq_nil_of_le (by omega)]; rfl

/-! ### Entries -/
structure Ent where
  labels : List (Txt × Txt)
  samples : List (Nat × Int)
def entCheck (x : Ent) : Nat := if labCheck x.labels = 0 then smpCheck x.samples else labCheck x.labels
/-- Where an entry's rows lie. -/
structure EntAt (w : World) (x : Ent) (a : Option Addr) (n c : Nat) (b : Option Addr) (m d : Nat) : Prop where
  hl : n = x.labels.length
  hc : n ≤ c
  hn : n < 9223372036854775807
  hs : ∀ p ∈ x.labels, p.1.length < 9223372036854775807
  hlr : RowAt w a (pairCs x.labels)
  hm : m = x.samples.length
  hd : m ≤ d
  hmn : m < 9223372036854775807
  hsr : RowAt w b (smpCs x.samples)
theorem EntAt.below {w w' : World} {x : Ent} {a : Option Addr} {n c : Nat} {b : Option Addr} {m d : Nat} (h : EntAt w x a n c b m d) {B : Nat} (hb : Below B w w') (hB : w.heap.size ≤ B) : EntAt w' x a n c b m d :=
  { h with hlr := h.hlr.below hb hB, hsr := h.hsr.below hb hB }
theorem entry_check (x : Ent) (a : Option Addr) (n c : Nat) (b : Option Addr) (m d : Nat) (w0 : World) (h : EntAt w0 x a n c b m d) :
    Calls Tryz.prog 80 #[.agg #[.slice a n c, .slice b m d]] w0 (fun e w => e = .returned (.int .i64 (entCheck x)) ∧ Below w0.heap.size w0 w) := by
  apply entry_Check.calls
  unfold entry_Check.vc entry_Check.t0
  refine allocV (cs := [.slice a n c, .slice b m d]) ?_
  intro w2 hblk hb2 hs2
  refine ⟨_, _, _, hblk.cell (j := 0) rfl, ?_⟩
  obtain rfl := h.hl
  obtain rfl := h.hm
  refine (label_check x.labels h.hs h.hn a c h.hc w2 (h.hlr.below hb2 (Nat.le_refl _))).mono ?_
  rintro e w7 ⟨rfl, hb7⟩
  have hb7' := hb2.trans (hb7.mono hb2.size)
  refine ⟨_, rfl, ?_⟩
  unfold entCheck
  by_cases h0 : labCheck x.labels = 0
  · rw [if_pos h0]
    refine boolF (by simp [h0]) ⟨_, _, _, (hblk.below hb7 hblk.lt).cell (j := 1) rfl, (sample_check x.samples h.hmn b d h.hd w7 (h.hsr.below hb7' (Nat.le_refl _))).mono ?_⟩
    rintro e w9 ⟨rfl, hb9⟩
    exact ⟨_, rfl, rfl, hb7'.trans (hb9.mono hb7'.size)⟩
  · rw [if_neg h0]
    exact boolT (by simp; omega) ⟨rfl, hb7'⟩
end Go.Proofs.YtcofknlcdgidpaaGreatDoor
/-! ## Seq -/
namespace Go.Proofs.YtcofknlcdgidpaaGreatDoor
open Go Go.RowKit Go.Shelf Go.Proofs.YtcofknlcdgidpaaGreatDoor.VC
set_option linter.unusedVariables false
attribute [local go_sem] Oper.semAt_some

def pairV (p : Txt × Txt) : Value := .agg #[.string (S p.1), .string (S p.2)]
set_option maxRecDepth 100000 in
set_option maxHeartbeats 2000000 in
theorem values1_in (F : Fence) (n : Nat) (h7 : F.fn 223) (hro : F.round = none) (hn : 1 ≤ n) (l Bs n₀ : Nat) (a : Option Addr) (cap : Nat) (zs : List (Txt × Txt)) (hlen : zs.length < 4294967296) (J Jx : List (Txt × Txt) → World → Prop)
    (W : World) (hJ : AbidesFrom W.heap.size J) 
    (hY : ∀ pre x W, J pre W → pre.length < zs.length → YieldAt F (n - 1) Tryz.prog l #[pairV x] W fun e W' =>
      (e = .returned (.bool true) ∧ J (pre ++ [x]) W' ∧ Below n₀ W W') ∨ (e = .returned (.bool false) ∧ Jx (pre ++ [x]) W'))
    (hn₀ : n₀ ≤ W.heap.size) (hq : zs ≠ [] → ∀ g o, a = some ⟨g, o, none⟩ → g < n₀)
    (hBs : W.cell? ⟨Bs, 0, none⟩ = some (.slice a zs.length cap)) (hrow : RowAt W a (pairCs zs)) (h0 : J [] W) :
    CallsIn F n Tryz.prog 223 #[.func (.yield l) #[] #[], .pointer (some ⟨Bs, 0, none⟩)] W fun e W' => (∃ v, e = .returned v) ∧
      ((∃ ys, ys = zs ∧ J ys W') ∨ (∃ pre, pre <+: zs ∧ Jx pre W')) := by
  refine callsIn_of_wp Tryz.func223 rfl h7 ?_ hro
  simp only [Tryz.ntmps223, List.size_toArray, List.length_cons, List.length_nil, Nat.reduceAdd, Nat.reduceSub, Array.replicate_succ, Array.replicate_zero, List.push_toArray, List.append_toArray, List.nil_append, List.cons_append]
  gi_wp2
  gi_loopw [7] (fun i wr => ∃ k : Nat, k ≤ zs.length ∧ i = .int .i64 k ∧ J (zs.take k) wr ∧ Below n₀ W wr)
    (fun i _ => zs.length - (intOf i).toNat)
  case atStart => exact ⟨0, Nat.zero_le _, rfl, by simpa using h0, Below.refl _ _⟩
  case round =>
    obtain ⟨k, hk, rfl, hJs, hnx⟩ := hrel
    by_cases hlt : k < zs.length
    · have hz : zs[k]? = some zs[k] := List.getElem?_eq_getElem hlt
      obtain ⟨g, o, rfl⟩ : ∃ g o, a = some ⟨g, o, none⟩ := hrow.some_of (fun e => by have := pairCs_len zs; rw [e] at this; simp at this; omega)
      have hq := hq (fun e => by rw [e] at hlt; simp at hlt) g o rfl
      obtain ⟨q, hq1, c0, c1⟩ := hrow.pair hz
      cases hq1
      rw [Addr_add] at c0; rw [Addr_add, Addr_add] at c1
      have d0 := (hnx.cell (p := ⟨g, o + k * 2, none⟩) hq).trans c0
      have d1 := (hnx.cell (p := ⟨g, o + k * 2 + 1, none⟩) hq).trans c1
      have hb2 : Below wr.heap.size wr (wr.alloc (.cells #[.string (S zs[k].1), .string (S zs[k].2)] 112)) := (Below.refl _ wr).alloc (Nat.le_refl _) _
      have hJ2 := hJ _ _ _ none hJs (Below.grownBy hb2 none) (by simp)
      obtain ⟨fn, tmps, assign, body, hy, hR⟩ := hY _ zs[k] _ hJ2 (by simp; omega)
      have hnb : n₀ ≤ wr.heap.size := by have := hnx.size; omega
      unfold pairV at hy
      gi_wp2
      refine hR.mono ?_
      rintro e W3 (⟨rfl, hJ3, hk3⟩ | ⟨rfl, hJx3⟩)
      · gi_wp2
        go_roundw
        case rel => exact ⟨k + 1, by omega, by simp, by rw [List.take_add_one, hz]; exact hJ3, (hnx.trans (hb2.mono hnb)).trans hk3⟩
        case measure => simp [intOf]; omega
      · gi_wp2
        refine bodyPost_ret (results_none rfl _ _ _) rfl ?_
        exact ⟨⟨_, rfl⟩, .inr ⟨_, by have := List.take_prefix (k + 1) zs; rw [List.take_add_one, hz] at this; exact this, hJx3⟩⟩
    · obtain rfl : k = zs.length := by omega
      gi_wp2
      go_end0
      exact ⟨⟨_, rfl⟩, .inl ⟨_, rfl, by simpa using hJs⟩⟩

theorem values_stops (F : Fence) (n : Nat) (h7 : F.fn 223) (hro : F.round = none) (hn : 1 ≤ n) (Bs n₀ : Nat) (a : Option Addr) (cap : Nat) (zs : List (Txt × Txt)) (hlen : zs.length < 4294967296) (w : World) (hBs : Bs < w.heap.size) (hn₀ : n₀ ≤ w.heap.size)
    (hc : w.cell? ⟨Bs, 0, none⟩ = some (.slice a zs.length cap)) (hrow : RowAt w a (pairCs zs)) (hq : zs ≠ [] → ∀ g o, a = some ⟨g, o, none⟩ → g < n₀) :
    SeqStopsK F n Tryz.prog 223 #[.pointer (some ⟨Bs, 0, none⟩)] (fun x : Txt × Txt => #[pairV x]) (Below n₀) (fun ys => ys = zs) (fun pre => pre <+: zs) zs.length w := fun l J Jx W hW hJ _ hY h0 =>
  values1_in F n h7 hro hn l Bs n₀ a cap zs hlen J Jx W hJ hY (Nat.le_trans hn₀ hW.size) hq ((hW.cell (p := ⟨Bs, 0, none⟩) hBs).trans hc) (hrow.below hW (Nat.le_refl _)) h0

theorem pairCs_snoc' (l : List (Txt × Txt)) (p : Txt × Txt) : pairCs (l ++ [p]) = pairCs l ++ [.string (S p.1), .string (S p.2)] := by simp [pairCs, pairC]
theorem blk_own {β : Type} (B : Nat) (t : TypeId) (f : β → List Value) : Own (fun s W => Blk W B t (f s)) := fun s X Y row hs hg hrow =>
  hs.grown hg (fun e' => by obtain ⟨o, ho, hc⟩ := hrow B e'.symm; unfold Blk at hs; rw [hs] at ho; cases ho; cases hc)
theorem info_pair : (Tryz.prog.info? 112).map (fun i => (i.zero, i.size, i.bytes)) = some (some (.agg #[.string ⟨#[]⟩, .string ⟨#[]⟩]), 2, 32) := by kernel_rfl
set_option maxRecDepth 100000 in
set_option maxHeartbeats 4000000 in
theorem appendSeq_in (F : Fence) (n : Nat) (h3 : F.fn 234) (h7 : F.fn 223) (hro : F.round = none) (hn : 3 ≤ n) (Bs : Nat) (a : Option Addr) (cap : Nat) (zs : List (Txt × Txt)) (hlen : zs.length ≤ 1000) (w : World) (hBs : Bs < w.heap.size)
    (hc : w.cell? ⟨Bs, 0, none⟩ = some (.slice a zs.length cap)) (hrow : RowAt w a (pairCs zs)) (hq : zs ≠ [] → ∀ g o, a = some ⟨g, o, none⟩ → g < w.heap.size) :
    CallsIn F n Tryz.prog 234 #[.slice none 0 0, .func (.func 223) #[] #[.pointer (some ⟨Bs, 0, none⟩)]] w fun e W' => ∃ v, e = .returned v ∧ W'.ownsRow w.heap.size 112 2 v zs.length (pairCs zs) ∧ Below w.heap.size w W' := by
  have h1 : 1 ≤ n := by omega
  obtain ⟨i0, hi, hz0, hz1, hz2⟩ := info_parts info_pair
  refine callsIn_of_wp_marks Tryz.func234 rfl h3 ?_ hro
  simp only [Tryz.ntmps234, List.size_toArray, List.length_cons, List.length_nil, Nat.reduceAdd, Nat.reduceSub, Array.replicate_succ, Array.replicate_zero, List.push_toArray, List.append_toArray, List.nil_append, List.cons_append]
  gi_wp2
  have bO := Boxed.new w 50 (.slice none 0 0)
  have hB0 : Below w.heap.size w (w.alloc (.cells #[.slice none 0 0] 50)) := (Below.refl _ w).alloc (Nat.le_refl _) _
  refine wpIn_rangeFunc_ownH hro h1 (gf := 223) (lb := #[.pointer (some ⟨Bs, 0, none⟩)]) rfl h7 (enters_of Tryz.func223 (by kernel_rfl) rfl)
    (values_stops F (n - 1) h7 hro (by omega) Bs w.heap.size a cap zs (by omega) _ (by simp; omega) (by simp) ((hB0.cell (p := ⟨Bs, 0, none⟩) hBs).trans hc) (hrow.below hB0 (Nat.le_refl _)) hq) belowK_t (belowK_b (by simp)) (Below.refl _ _) (fun _ => rfl)
    (fun pre W => (∃ v, Boxed W w.heap.size 50 v ∧ W.ownsRow w.heap.size 112 2 v pre.length (pairCs pre) ∧ True) ∧ Below w.heap.size w W)
    (fun _ _ _ => False)
    (OwnFrom.and (Own.from (holdsRow_own w.heap.size w.heap.size 50 112 2 (fun (pre : List (Txt × Txt)) => pre.length) (fun pre => pairCs pre) (fun _ _ => True)) _) (ownFrom_below (Nat.le_refl _) (by simp)))
    (fun _ _ _ _ _ hs _ _ => hs)
    ⟨⟨_, bO, World.ownsRow_nil _ _ _ _, trivial⟩, hB0⟩
    (fun x a' W => ∃ Bx, w.heap.size < Bx ∧ Blk W Bx 112 [.string (S x.1), .string (S x.2)] ∧ a' = { tmps := #[.slice none 0 0, .func (.func 223) #[] #[.pointer (some ⟨Bs, 0, none⟩)], .pointer (some ⟨w.heap.size, 0, none⟩), undef, .slice none 0 0, .pointer (some ⟨Bx, 0, none⟩), .func (.func 223) #[] #[.pointer (some ⟨Bs, 0, none⟩)], .agg #[.string (S x.1), .string (S x.2)], undef, undef, undef, undef, undef], defers := [] })
    (fun x a' _ X Y row hs hg hr => by obtain ⟨Bx, h1, h2, h3⟩ := hs; exact ⟨Bx, h1, blk_own Bx 112 (fun (_ : Unit) => [.string (S x.1), .string (S x.2)]) () X Y row h2 hg (fun r e => (hr r e).2), h3⟩)
    ?assign ?body ?done ?stop
  case assign =>
    rintro l pre x W K ⟨⟨v, hv, hr, _⟩, hB⟩ hK
    unfold pairV
    gi_wp2
    exact hK _ _ ((KeepsOthers.alloc _ _).from _) ((Below.refl _ W).alloc hB.size _) ⟨⟨_, hv.alloc _, hr.alloc _, trivial⟩, hB.alloc hB.size _⟩ ⟨W.heap.size, hv.lt, Blk.new W _ [.string (S x.1), .string (S x.2)], rfl⟩
  case body =>
    rintro l pre x a' W hl ⟨r, hr⟩ ⟨⟨v, hv, hro', _⟩, hB⟩ ⟨Bx, hBx, bX, rfl⟩ hlt
    have hc := hv.cell
    have c0 := bX.cell (j := 0) rfl
    have c1 := bX.cell (j := 1) rfl
    gi_wp2_with (gi_at_builtin; refine wpListIn_append_own _ rfl _ _ 50 rfl w.heap.size 112 i0 (.agg #[.string ⟨#[]⟩, .string ⟨#[]⟩]) 2 32 Tryz.underlying50 hi hz0 hz1 hz2 rfl (by decide) _ _ _ rfl (hro'.alloc _) ⟨W.heap.size, 0, none⟩ 1 1 [.string (S x.1), .string (S x.2)] rfl rfl (fun j u hj => cell_alloc_new (by simpa using hj)) (by simp [Value.oneCell']) (by unfold maxLen; omega) (by omega) (by have := hB.size; simp; omega) ?_; intro v' w1 hown' hgrow _; obtain ⟨g', cap', rfl⟩ := ownsRow_succ hown'; obtain ⟨hv1, hv2, hr2, hk2, hb2⟩ := hv.appended (by decide) hro' hB.size (Nat.le_refl _) hown' hgrow; have hc1 := hv1.cell; have hf1 := hv1.frozen)
    exact ⟨hk2.from _, hb2, ⟨_, hv2, by rw [pairCs_snoc']; simpa using hr2, trivial⟩, hB.trans hb2⟩
  case done =>
    rintro D ys W hD rfl ⟨⟨v, hv, hro', _⟩, hB⟩ hK
    have hc := hv.cell
    gi_wp2
    refine ⟨by simp, .inl ⟨_, _, rfl, run_takeDeferred hK, ?_⟩⟩
    exact ⟨_, results_tmp rfl _ _ _, v, rfl, ownsRow_putObj hro' _ hK rfl, hB.trans (belowK_b (w := w) (Nat.le_refl _) W D _ _ (by simp at hD; omega) hK rfl rfl)⟩
  case stop =>
    rintro D c pre W _ _ h _
    exact h.elim
end Go.Proofs.YtcofknlcdgidpaaGreatDoor
/-! ## GstringsBuildercopyCheck -/
namespace Go.Proofs.YtcofknlcdgidpaaGreatDoor
open Go Go.Proofs.YtcofknlcdgidpaaGreatDoor.VC
set_option linter.unusedVariables false
set_option maxRecDepth 100000
set_option maxHeartbeats 0

/-! ### (*strings.Builder).copyCheck: function 168 -/
namespace strings_Builder_copyCheck
def t0 (R : Ending → World → Prop)  (b_0 : Option Addr) (w : World) : Prop := someV b_0 (fun p1 => ∃ q2 : Option Addr, w.cell? p1 = some (.pointer q2) ∧ (boolV q2.isNone (runV Tryz.prog (convert 206 186 (.pointer b_0)) w (fun v3 w4 => ∃ q5 : Option Addr, v3 = .pointer q5 ∧ (externV Tryz.prog 213 [.pointer q5] w4 (fun v8 w7 => ∃ q9 : Option Addr, v8 = .pointer q9 ∧ (runV Tryz.prog (convert 186 206 (.pointer q9)) w7 (fun v10 w11 => ∃ q12 : Option Addr, v10 = .pointer q12 ∧ (someV b_0 (fun p13 => Writable w11 p13 1 ∧ ∀ w14 : World, w14 = World.setCell w11 p13 (.pointer q12) → R (.returned (.tuple #[])) w14)))))))) (someV b_0 (fun p15 => ∃ q16 : Option Addr, w.cell? p15 = some (.pointer q16) ∧ (runV Tryz.prog (do eqGuard .neq 206 (.tmp 17) (.tmp 18) (.pointer q16) (.pointer b_0); binOp .neq 206 (.pointer q16) (.pointer b_0)) w (fun v17 w18 => ∃ t19 : Bool, v17 = .bool t19 ∧ (boolV t19 (False) (R (.returned (.tuple #[])) w18))))))))
def vc (R : Ending → World → Prop) (b_0 : Option Addr) (w : World) : Prop := t0 R  b_0 w
theorem calls (R : Ending → World → Prop) (b_0 : Option Addr) (w : World) (h : vc R b_0 w) : Calls Tryz.prog 168 #[.pointer b_0] w R :=
  calls_V Tryz.func168 (Eq.mpr (by kernel_rfl) (h))
end strings_Builder_copyCheck
end Go.Proofs.YtcofknlcdgidpaaGreatDoor
/-! ## GstringsBuilderWriteString -/
namespace Go.Proofs.YtcofknlcdgidpaaGreatDoor
open Go Go.Proofs.YtcofknlcdgidpaaGreatDoor.VC
set_option linter.unusedVariables false
set_option maxRecDepth 100000
set_option maxHeartbeats 0

/-! ### (*strings.Builder).WriteString: function 115 -/
namespace strings_Builder_WriteString
def t0 (R : Ending → World → Prop)  (b_0 : Option Addr) (s_1 : ByteArray) (w : World) : Prop := Calls Tryz.prog 168 #[.pointer b_0] w (fun e1 w2 => e1 = .returned (.tuple #[]) ∧ (someV b_0 (fun p3 => ∃ (a4 : Option Addr) (n5 c6 : Nat), w2.cell? (p3.add 1) = some (.slice a4 n5 c6) ∧ (runV Tryz.prog (Builtin.append_ #[198, 9] 198 #[.slice a4 n5 c6, .string s_1]) w2 (fun v7 w8 => ∃ (a9 : Option Addr) (n10 c11 : Nat), v7 = .slice a9 n10 c11 ∧ (someV b_0 (fun p12 => Writable w8 (p12.add 1) 1 ∧ ∀ w13 : World, w13 = World.setCell w8 (p12.add 1) (.slice a9 n10 c11) → R (.returned (.tuple #[.int .i64 ((s_1.size : Nat) : Int), .nilIface])) w13)))))))
def vc (R : Ending → World → Prop) (b_0 : Option Addr) (s_1 : ByteArray) (w : World) : Prop := t0 R  b_0 s_1 w
theorem calls (R : Ending → World → Prop) (b_0 : Option Addr) (s_1 : ByteArray) (w : World) (h : vc R b_0 s_1 w) : Calls Tryz.prog 115 #[.pointer b_0, .string s_1] w R :=
  calls_V Tryz.func115 (Eq.mpr (by kernel_rfl) (h))
end strings_Builder_WriteString
end Go.Proofs.YtcofknlcdgidpaaGreatDoor
/-! ## GstringsBuilderString -/
namespace Go.Proofs.YtcofknlcdgidpaaGreatDoor
open Go Go.Proofs.YtcofknlcdgidpaaGreatDoor.VC
set_option linter.unusedVariables false
set_option maxRecDepth 100000
set_option maxHeartbeats 0

/-! ### (*strings.Builder).String: function 118 -/
namespace strings_Builder_String
def t0 (R : Ending → World → Prop)  (b_0 : Option Addr) (w : World) : Prop := ∃ S1 : World → Prop, (∀ w2 : World, w2.heap = w.heap → w2.tape = w.tape → w2.os = w.os → w2.output = w.output → S1 w2 ∧ (someV b_0 (fun p3 => ∃ (a4 : Option Addr) (n5 c6 : Nat), (∀ w, S1 w → w.cell? (p3.add 1) = some (.slice a4 n5 c6)) ∧ (someV b_0 (fun p7 => ∃ (a8 : Option Addr) (n9 c10 : Nat), (∀ w, S1 w → w.cell? (p7.add 1) = some (.slice a8 n9 c10)) ∧ (runV Tryz.prog (Builtin.unsafeSliceData_ #[198] 253 #[.slice a4 n5 c6]) w2 (fun v11 w12 => ∃ q13 : Option Addr, v11 = .pointer q13 ∧ (S1 w12 ∧ (runV Tryz.prog (Builtin.unsafeString_ #[253, 3] 9 #[.pointer q13, .int .i64 ((n9 : Nat) : Int)]) w12 (fun v14 w15 => ∃ s16 : ByteArray, v14 = .string s16 ∧ (S1 w15 ∧ (R (.returned (.string s16)) w15))))))))))))
def vc (R : Ending → World → Prop) (b_0 : Option Addr) (w : World) : Prop := t0 R  b_0 w
theorem calls (R : Ending → World → Prop) (b_0 : Option Addr) (w : World) (h : vc R b_0 w) : Calls Tryz.prog 118 #[.pointer b_0] w R :=
  calls_V Tryz.func118 (Eq.mpr (by kernel_rfl) (h))
end strings_Builder_String
end Go.Proofs.YtcofknlcdgidpaaGreatDoor
/-! ## Build -/
namespace Go.Proofs.YtcofknlcdgidpaaGreatDoor
open Go Go.RowKit Go.Proofs.YtcofknlcdgidpaaGreatDoor.VC
set_option linter.unusedVariables false
set_option maxRecDepth 100000

theorem runV_ok {P : Program} {f : Sem Value} {w w' : World} {v : Value} {K : Value → World → Prop} (h : f.run P w = .ok v w') (k : K v w') : runV P f w K := by
  unfold runV; rw [h]; exact k
/-- A builder in block b, that holds bytes; its row lies from B on. -/
def Bld (B b : Nat) (bs : List UInt8) (w : World) : Prop := ∃ p, (p = none ∨ p = some ⟨b, 0, none⟩) ∧ Lib.BuilderAt 208 5 B b (.pointer p) (u8s bs) w
abbrev Oth (b : Nat) (w w' : World) : Prop := Lib.OthersKept 5 (some b) w w'
theorem Bld.fresh (w : World) : Bld w.heap.size w.heap.size [] (w.alloc (.cells #[.pointer none, .slice none 0 0] 208)) :=
  ⟨none, .inl rfl, Nat.le_refl _, _, heap_alloc_new w _, World.ownsRow_nil _ _ _ _, by simp [Value.ownBlock]⟩

theorem Bld.kept {B b : Nat} {bs : List UInt8} {w w' : World} (h : Bld B b bs w) {row : Option Nat} (hg : w.grownBy w' row) (h1 : some b ≠ row) (h2 : ∀ k c, row = some k → ∀ e cs, w.heap[k]? = some (.cells cs e c) → e ≠ 5) (h3 : ∀ k, row = some k → ∃ cs e c, w.heap[k]? = some (.cells cs e c)) : Bld B b bs w' := by
  obtain ⟨p, hp, hB, v, hbk, hown, hne⟩ := h
  refine ⟨p, hp, hB, v, (hg.block b (Array.getElem?_eq_some_iff.1 hbk).1 h1).trans hbk, hown.kept hg ?_, hne⟩
  cases hv : v.ownBlock with
  | none => exact .inl rfl
  | some k =>
    refine .inr fun e => ?_
    obtain ⟨cs, e', c, hk⟩ := h3 k e.symm
    have := h2 k c e.symm e' cs hk
    rcases hown.2 with ⟨rfl, _⟩ | ⟨g, cap, cur, rfl, _, hg', _⟩
    · simp [Value.ownBlock] at hv
    · simp only [Value.ownBlock, Option.some.injEq] at hv
      subst hv
      rw [hg'] at hk
      simp only [Option.some.injEq, Obj.cells.injEq] at hk
      exact this hk.2.1.symm
theorem Bld.below {B b : Nat} {bs : List UInt8} {w w' : World} (h : Bld B b bs w) (hb : Below w.heap.size w w') : Bld B b bs w' :=
  h.kept (Below.grownBy hb none) (by simp) (by simp) (by simp)
theorem Bld.lt {B b : Nat} {bs : List UInt8} {w : World} (h : Bld B b bs w) : b < w.heap.size := by
  obtain ⟨p, hp, hB, v, hbk, _⟩ := h; exact (Array.getElem?_eq_some_iff.1 hbk).1
theorem Blk.oth {b k : Nat} {e : TypeId} {cs : List Value} {w w' : World} (h : Blk w k e cs) (ho : Oth b w w') (hne : k ≠ b) (he : e ≠ 5) : Blk w' k e cs :=
  ho k _ h (by simpa using hne) (fun c fz hh => he (by simp only [Obj.cells.injEq] at hh; exact hh.2.1))

theorem Builder_copyCheck (B b : Nat) (bs : List UInt8) (w : World) (h : Bld B b bs w) :
    Calls Tryz.prog 168 #[.pointer (some ⟨b, 0, none⟩)] w (fun e w' => e = .returned (.tuple #[]) ∧ Lib.BuilderAt 208 5 B b (.pointer (some ⟨b, 0, none⟩)) (u8s bs) w' ∧ Below B w w' ∧ Oth b w w') := by
  obtain ⟨p, hp, hat⟩ := h
  apply strings_Builder_copyCheck.calls
  unfold strings_Builder_copyCheck.vc strings_Builder_copyCheck.t0
  refine someV_some rfl ⟨p, hat.cell0, ?_⟩
  have hi : ∃ j, Tryz.prog.info? 208 = some j ∧ j.size = 2 := by
    have : (Tryz.prog.info? 208).map (·.size) = some 2 := by kernel_rfl
    obtain ⟨j, hj, h2⟩ := Option.map_eq_some_iff.1 this
    exact ⟨j, hj, h2⟩
  obtain ⟨j, hj, hjs⟩ := hi
  have hpt : Tryz.prog.underlying 206 = some (.pointer 208) := by kernel_rfl
  have hun : Tryz.prog.underlying 186 = some .unsafePointer := by kernel_rfl
  rcases hp with rfl | rfl
  · refine boolT rfl (runV_ok (Lib.run_to_unsafe (e := 208) (cells := 2) w ⟨b, 0, none⟩ hpt hun hj (by rw [hjs]; decide) hat.shape (Nat.zero_lt_succ 1)) ⟨_, rfl, ?_⟩)
    unfold externV
    rw [run_callFunc_extern Tryz.func213 (by kernel_rfl) (by kernel_rfl) (by kernel_rfl) (e := Extern.AbiNoEscape.same) (by kernel_rfl), Lib.run_noEscape]
    refine ⟨_, rfl, runV_ok (Lib.run_from_unsafe (e := 208) (cells := 2) w ⟨b, 0, none⟩ hun hpt hj hat.shape (by kernel_rfl)) ⟨_, rfl, someV_some rfl ⟨?_, ?_⟩⟩⟩
    · intro i hi
      obtain rfl : i = 0 := by omega
      exact ⟨⟨_, hat.cell0⟩, hat.frozen0⟩
    · rintro w' rfl
      exact ⟨rfl, hat.used _, (Below.refl B w).setCell (p := ⟨b, 0, none⟩) hat.1 _, (Lib.OthersKept.refl _ _ w).setCell ⟨b, 0, none⟩ rfl _⟩
  · refine boolF rfl (someV_some rfl ⟨_, hat.cell0, runV_ok (v := .bool false) (w' := w) ?_ ⟨_, rfl, boolF rfl ⟨rfl, hat, Below.refl _ _, Lib.OthersKept.refl _ _ _⟩⟩⟩)
    have := Lib.run_neq_ptr_same (P := Tryz.prog) w ⟨b, 0, none⟩ hpt hj
    simp [eqGuard, this]

theorem Builder_WriteString (B b : Nat) (bs s : List UInt8) (w : World) (h : Bld B b bs w) (hlen : bs.length + s.length ≤ 140737488355328) (hBw : B ≤ w.heap.size) :
    Calls Tryz.prog 115 #[.pointer (some ⟨b, 0, none⟩), .string (S s)] w (fun e w' => e = .returned (.tuple #[.int .i64 (s.length : Nat), .nilIface]) ∧ Bld B b (bs ++ s) w' ∧ Below B w w' ∧ Oth b w w') := by
  apply strings_Builder_WriteString.calls
  unfold strings_Builder_WriteString.vc strings_Builder_WriteString.t0
  refine (Builder_copyCheck B b bs w h).mono ?_
  rintro e w1 ⟨rfl, ⟨hB, v, hbk, hown, hne⟩, hb1, ho1⟩
  refine ⟨rfl, someV_some rfl ?_⟩
  have hi : ∃ i0, Tryz.prog.info? 5 = some i0 ∧ i0.zero = some (.int .u8 0) ∧ i0.size = 1 ∧ i0.bytes = 1 := by
    have : (Tryz.prog.info? 5).map (fun i => (i.zero, i.size, i.bytes)) = some (some (.int .u8 0), 1, 1) := by kernel_rfl
    obtain ⟨j, hj, h2⟩ := Option.map_eq_some_iff.1 this
    simp only [Prod.mk.injEq] at h2
    exact ⟨j, hj, h2.1, h2.2.1, h2.2.2⟩
  obtain ⟨i0, hi, hz0, hz1, hz2⟩ := hi
  obtain ⟨a, n, c, rfl⟩ : ∃ a n c, v = .slice a n c := by
    rcases hown.2 with ⟨hv, _⟩ | ⟨g, cap, cur, hv, _⟩
    · exact ⟨_, _, _, hv⟩
    · exact ⟨_, _, _, hv⟩
  have hbs : (u8s bs).length = bs.length := by simp [u8s]
  have c1 : w1.cell? ⟨b, 1, none⟩ = some (.slice a n c) := by rw [Lib.cell_of_heap hbk]; rfl
  refine ⟨a, n, c, c1, ?_⟩
  obtain ⟨v', w2, hr, hown', hgrow, _⟩ := Lib.run_append_own_string (P := Tryz.prog) w1 B 198 9 198 5 i0 (by kernel_rfl) (by kernel_rfl) hi hz0 hz1 hz2 _ _ _ hown (S s)
    (by have : (4294967296 : Nat) ≤ maxLen := by decide
        rw [S_size, hbs]; unfold maxLen; omega) (by rw [S_size, hbs]; omega) (by have := hb1.size; omega)
  refine runV_ok hr ?_
  obtain ⟨a', n', c', rfl⟩ : ∃ a n c, v' = .slice a n c := by
    rcases hown'.2 with ⟨hv, _⟩ | ⟨g, cap, cur, hv, _⟩
    · exact ⟨_, _, _, hv⟩
    · exact ⟨_, _, _, hv⟩
  have hlt : b < w1.heap.size := (Array.getElem?_eq_some_iff.1 hbk).1
  have hb2 : w2.heap[b]? = some (.cells #[.pointer (some ⟨b, 0, none⟩), .slice a n c] 208 (0, 0)) := by
    rw [hgrow.block b hlt (fun e => hne e.symm)]
    exact hbk
  have hb2' : Blk w2 b 208 [.pointer (some ⟨b, 0, none⟩), .slice a n c] := hb2
  refine ⟨a', n', c', rfl, someV_some rfl ⟨hb2'.writable (o := 1) (Nat.le_refl 2), ?_⟩⟩
  rintro w3 rfl
  refine ⟨rfl, ⟨_, .inr rfl, ?_⟩, (hb1.grown hgrow (by have := hb1.size; omega) (fun k hk => (hown.lt k hk).1)).setCell (p := ⟨b, 1, none⟩) hB _, ?_⟩
  · refine Lib.BuilderAt.put hB hb2 (bs' := u8s (bs ++ s)) ?_ (by decide)
    rw [u8s_append]
    have e1 : Lib.strCells (S s) = u8s s := rfl
    rw [e1] at hown'
    have e2 : (u8s bs ++ u8s s).length = (u8s bs).length + (S s).size := by simp [u8s, S_size]
    rw [e2]; exact hown'
  · refine (ho1.grown hgrow ?_).setCell ⟨b, 1, none⟩ rfl _
    intro g hg
    rcases hown.2 with ⟨hv, _⟩ | ⟨g', cap, cur, hv, _, hg', _⟩
    · cases hv; cases hg
    · cases hv; cases hg; exact ⟨_, _, hg'⟩

theorem Builder_String (B b : Nat) (bs : List UInt8) (w : World) (h : Bld B b bs w) (hBw : B ≤ w.heap.size) :
    Calls Tryz.prog 118 #[.pointer (some ⟨b, 0, none⟩)] w (fun e w' => e = .returned (.string (S bs)) ∧ Below B w w') := by
  obtain ⟨p, hp, hB, v, hbk, hown, hne⟩ := h
  apply strings_Builder_String.calls
  unfold strings_Builder_String.vc strings_Builder_String.t0
  obtain ⟨a, n, c, rfl⟩ : ∃ a n c, v = .slice a n c := by
    rcases hown.2 with ⟨hv, _⟩ | ⟨g, cap, cur, hv, _⟩
    · exact ⟨_, _, _, hv⟩
    · exact ⟨_, _, _, hv⟩
  have hbs : (u8s bs).length = bs.length := by simp [u8s]
  have hn : n = bs.length := by
    rcases hown.2 with ⟨hv, h0⟩ | ⟨g, cap, cur, hv, _⟩
    · cases hv; omega
    · cases hv; exact hbs
  subst hn
  have hblk : Blk w b 208 [.pointer p, .slice a bs.length c] := hbk
  refine ⟨fun W => W.cell? ⟨b, 1, none⟩ = some (.slice a bs.length c), ?_⟩
  intro w2 h1 h2 h3 h4
  have hb2 : Blk w2 b 208 [.pointer p, .slice a bs.length c] := hblk.same h1
  have c2 : w2.cell? ⟨b, 1, none⟩ = some (.slice a bs.length c) := hb2.cell rfl
  refine ⟨c2, someV_some rfl ⟨a, bs.length, c, fun _ h => h, someV_some rfl ⟨a, bs.length, c, fun _ h => h, ?_⟩⟩⟩
  have hsb := same_below (w := w) (w' := w2) B h1 h2 h3 h4
  rcases hown.2 with ⟨hv, h0⟩ | ⟨g, cap, cur, hv, hBg, hg, hnc, hcm, hcs, htake⟩
  · injection hv with hv1 hv2 hv3
    subst hv1
    have hnil : bs = [] := List.length_eq_zero_iff.mp (by omega)
    subst hnil
    refine runV_ok (Lib.run_unsafeSliceData_nil w2 _ _ _ _) ⟨_, rfl, c2, runV_ok (Lib.run_unsafeString_none w2 _ _ _ _) ⟨_, rfl, c2, rfl, hsb⟩⟩
  · injection hv with hv1 hv2 hv3
    subst hv1; subst hv3
    have hg2 : w2.heap[g]? = some (.cells cur 5 (0, 0)) := by rw [h1]; exact hg
    by_cases hc0 : c = 0
    · subst hc0
      have hnil : bs = [] := List.length_eq_zero_iff.mp (by omega)
      subst hnil
      refine runV_ok (Lib.run_unsafeSliceData_zero w2 _ _ 5 (by kernel_rfl) ⟨g, 0, none⟩ 0 (5, cur.size) (by simp [World.shape?, hg2])) ⟨_, rfl, (hb2.alloc _).cell rfl, runV_ok (Lib.run_unsafeString_none _ _ _ _ _) ⟨_, rfl, (hb2.alloc _).cell rfl, rfl, hsb.alloc (by rw [h1]; exact hBw) _⟩⟩
    · by_cases hnil : bs = []
      · subst hnil
        exact runV_ok (Lib.run_unsafeSliceData_row w2 _ _ _ _ _ hc0) ⟨_, rfl, c2, runV_ok (Lib.run_unsafeString_none _ _ _ _ _) ⟨_, rfl, c2, rfl, hsb⟩⟩
      · have hgb : g ≠ b := fun e => hne (by subst e; rfl)
        refine runV_ok (Lib.run_unsafeSliceData_row w2 _ _ _ _ _ hc0) ⟨_, rfl, c2, runV_ok (Lib.run_unsafeString_row w2 253 3 9 5 (by kernel_rfl) (by kernel_rfl) g cur.size (by simp [World.shape?, hg2]) bs hnil (by omega) (by unfold maxLen at hcm; omega) ?_) ⟨_, rfl, ?_, rfl, Lib.below_freeze hsb (p := ⟨g, 0, none⟩) hBg _⟩⟩
        · intro j x hx
          rw [Addr_add, Nat.zero_add, cell_of_row w2 g j cur 5 (0, 0) hg2]
          have : (u8s bs)[j]? = some (.int .u8 x.toNat) := by simp [u8s, hx]
          rw [← htake, List.getElem?_take] at this
          split at this
          · simpa using this
          · cases this
        · show World.cell? _ _ = _
          rw [World.cell?_of_block (w := w2) (a := ⟨b, 1, none⟩)]
          · exact c2
          · unfold World.freeze
            split
            · rfl
            · simp only [Array.getElem?_modify]; rw [if_neg hgb]
end Go.Proofs.YtcofknlcdgidpaaGreatDoor
/-! ## GbitsLen -/
namespace Go.Proofs.YtcofknlcdgidpaaGreatDoor
open Go Go.Proofs.YtcofknlcdgidpaaGreatDoor.VC
set_option linter.unusedVariables false
set_option maxRecDepth 100000
set_option maxHeartbeats 0

/-! ### math/bits.Len: function 105 -/
namespace bits_Len
def t0 (R : Ending → World → Prop)  (x_0 : Int) (w : World) : Prop := Calls Tryz.prog 148 #[.int .u64 x_0] w (fun e1 w2 => ∃ x3 : Int, e1 = .returned (.int .i64 x3) ∧ (R (.returned (.int .i64 x3)) w2))
def vc (R : Ending → World → Prop) (x_0 : Int) (w : World) : Prop := t0 R  x_0 w
theorem calls (R : Ending → World → Prop) (x_0 : Int) (w : World) (h : vc R x_0 w) : Calls Tryz.prog 105 #[.int .u64 x_0] w R :=
  calls_V Tryz.func105 (Eq.mpr (by kernel_rfl) (h))
end bits_Len
end Go.Proofs.YtcofknlcdgidpaaGreatDoor
/-! ## GbitsLen64 -/
namespace Go.Proofs.YtcofknlcdgidpaaGreatDoor
open Go Go.Proofs.YtcofknlcdgidpaaGreatDoor.VC
set_option linter.unusedVariables false
set_option maxRecDepth 100000
set_option maxHeartbeats 0

/-! ### math/bits.Len64: function 148 -/
namespace bits_Len64
def t0 (R : Ending → World → Prop)  (x_0 : Int) (w : World) : Prop := boolV (decide (x_0 ≥ (4294967296 : Int))) (boolV (decide ((shrI .u64 x_0 32) ≥ (65536 : Int))) (boolV (decide ((shrI .u64 (shrI .u64 x_0 32) 16) ≥ (256 : Int))) ((0 ≤ (IntKind.wrap .u8 (shrI .u64 (shrI .u64 (shrI .u64 x_0 32) 16) 8)) ∧ (IntKind.wrap .u8 (shrI .u64 (shrI .u64 (shrI .u64 x_0 32) 16) 8)) < (⟨#[0, 1, 2, 2, 3, 3, 3, 3, 4, 4, 4, 4, 4, 4, 4, 4, 5, 5, 5, 5, 5, 5, 5, 5, 5, 5, 5, 5, 5, 5, 5, 5, 6, 6, 6, 6, 6, 6, 6, 6, 6, 6, 6, 6, 6, 6, 6, 6, 6, 6, 6, 6, 6, 6, 6, 6, 6, 6, 6, 6, 6, 6, 6, 6, 7, 7, 7, 7, 7, 7, 7, 7, 7, 7, 7, 7, 7, 7, 7, 7, 7, 7, 7, 7, 7, 7, 7, 7, 7, 7, 7, 7, 7, 7, 7, 7, 7, 7, 7, 7, 7, 7, 7, 7, 7, 7, 7, 7, 7, 7, 7, 7, 7, 7, 7, 7, 7, 7, 7, 7, 7, 7, 7, 7, 7, 7, 7, 7, 8, 8, 8, 8, 8, 8, 8, 8, 8, 8, 8, 8, 8, 8, 8, 8, 8, 8, 8, 8, 8, 8, 8, 8, 8, 8, 8, 8, 8, 8, 8, 8, 8, 8, 8, 8, 8, 8, 8, 8, 8, 8, 8, 8, 8, 8, 8, 8, 8, 8, 8, 8, 8, 8, 8, 8, 8, 8, 8, 8, 8, 8, 8, 8, 8, 8, 8, 8, 8, 8, 8, 8, 8, 8, 8, 8, 8, 8, 8, 8, 8, 8, 8, 8, 8, 8, 8, 8, 8, 8, 8, 8, 8, 8, 8, 8, 8, 8, 8, 8, 8, 8, 8, 8, 8, 8, 8, 8, 8, 8, 8, 8, 8, 8, 8, 8, 8, 8, 8, 8, 8, 8, 8, 8, 8, 8, 8, 8]⟩ : ByteArray).size) ∧ (R (.returned (.int .i64 (IntKind.wrap .i64 ((IntKind.wrap .i64 ((IntKind.wrap .i64 (32 + 16)) + 8)) + (IntKind.wrap .i64 ((byteAt (⟨#[0, 1, 2, 2, 3, 3, 3, 3, 4, 4, 4, 4, 4, 4, 4, 4, 5, 5, 5, 5, 5, 5, 5, 5, 5, 5, 5, 5, 5, 5, 5, 5, 6, 6, 6, 6, 6, 6, 6, 6, 6, 6, 6, 6, 6, 6, 6, 6, 6, 6, 6, 6, 6, 6, 6, 6, 6, 6, 6, 6, 6, 6, 6, 6, 7, 7, 7, 7, 7, 7, 7, 7, 7, 7, 7, 7, 7, 7, 7, 7, 7, 7, 7, 7, 7, 7, 7, 7, 7, 7, 7, 7, 7, 7, 7, 7, 7, 7, 7, 7, 7, 7, 7, 7, 7, 7, 7, 7, 7, 7, 7, 7, 7, 7, 7, 7, 7, 7, 7, 7, 7, 7, 7, 7, 7, 7, 7, 7, 8, 8, 8, 8, 8, 8, 8, 8, 8, 8, 8, 8, 8, 8, 8, 8, 8, 8, 8, 8, 8, 8, 8, 8, 8, 8, 8, 8, 8, 8, 8, 8, 8, 8, 8, 8, 8, 8, 8, 8, 8, 8, 8, 8, 8, 8, 8, 8, 8, 8, 8, 8, 8, 8, 8, 8, 8, 8, 8, 8, 8, 8, 8, 8, 8, 8, 8, 8, 8, 8, 8, 8, 8, 8, 8, 8, 8, 8, 8, 8, 8, 8, 8, 8, 8, 8, 8, 8, 8, 8, 8, 8, 8, 8, 8, 8, 8, 8, 8, 8, 8, 8, 8, 8, 8, 8, 8, 8, 8, 8, 8, 8, 8, 8, 8, 8, 8, 8, 8, 8, 8, 8, 8, 8, 8, 8, 8, 8]⟩ : ByteArray) (IntKind.wrap .u8 (shrI .u64 (shrI .u64 (shrI .u64 x_0 32) 16) 8)).toNat).toNat : Int)))))) w)) ((0 ≤ (IntKind.wrap .u8 (shrI .u64 (shrI .u64 x_0 32) 16)) ∧ (IntKind.wrap .u8 (shrI .u64 (shrI .u64 x_0 32) 16)) < (⟨#[0, 1, 2, 2, 3, 3, 3, 3, 4, 4, 4, 4, 4, 4, 4, 4, 5, 5, 5, 5, 5, 5, 5, 5, 5, 5, 5, 5, 5, 5, 5, 5, 6, 6, 6, 6, 6, 6, 6, 6, 6, 6, 6, 6, 6, 6, 6, 6, 6, 6, 6, 6, 6, 6, 6, 6, 6, 6, 6, 6, 6, 6, 6, 6, 7, 7, 7, 7, 7, 7, 7, 7, 7, 7, 7, 7, 7, 7, 7, 7, 7, 7, 7, 7, 7, 7, 7, 7, 7, 7, 7, 7, 7, 7, 7, 7, 7, 7, 7, 7, 7, 7, 7, 7, 7, 7, 7, 7, 7, 7, 7, 7, 7, 7, 7, 7, 7, 7, 7, 7, 7, 7, 7, 7, 7, 7, 7, 7, 8, 8, 8, 8, 8, 8, 8, 8, 8, 8, 8, 8, 8, 8, 8, 8, 8, 8, 8, 8, 8, 8, 8, 8, 8, 8, 8, 8, 8, 8, 8, 8, 8, 8, 8, 8, 8, 8, 8, 8, 8, 8, 8, 8, 8, 8, 8, 8, 8, 8, 8, 8, 8, 8, 8, 8, 8, 8, 8, 8, 8, 8, 8, 8, 8, 8, 8, 8, 8, 8, 8, 8, 8, 8, 8, 8, 8, 8, 8, 8, 8, 8, 8, 8, 8, 8, 8, 8, 8, 8, 8, 8, 8, 8, 8, 8, 8, 8, 8, 8, 8, 8, 8, 8, 8, 8, 8, 8, 8, 8, 8, 8, 8, 8, 8, 8, 8, 8, 8, 8, 8, 8, 8, 8, 8, 8, 8, 8]⟩ : ByteArray).size) ∧ (R (.returned (.int .i64 (IntKind.wrap .i64 ((IntKind.wrap .i64 (32 + 16)) + (IntKind.wrap .i64 ((byteAt (⟨#[0, 1, 2, 2, 3, 3, 3, 3, 4, 4, 4, 4, 4, 4, 4, 4, 5, 5, 5, 5, 5, 5, 5, 5, 5, 5, 5, 5, 5, 5, 5, 5, 6, 6, 6, 6, 6, 6, 6, 6, 6, 6, 6, 6, 6, 6, 6, 6, 6, 6, 6, 6, 6, 6, 6, 6, 6, 6, 6, 6, 6, 6, 6, 6, 7, 7, 7, 7, 7, 7, 7, 7, 7, 7, 7, 7, 7, 7, 7, 7, 7, 7, 7, 7, 7, 7, 7, 7, 7, 7, 7, 7, 7, 7, 7, 7, 7, 7, 7, 7, 7, 7, 7, 7, 7, 7, 7, 7, 7, 7, 7, 7, 7, 7, 7, 7, 7, 7, 7, 7, 7, 7, 7, 7, 7, 7, 7, 7, 8, 8, 8, 8, 8, 8, 8, 8, 8, 8, 8, 8, 8, 8, 8, 8, 8, 8, 8, 8, 8, 8, 8, 8, 8, 8, 8, 8, 8, 8, 8, 8, 8, 8, 8, 8, 8, 8, 8, 8, 8, 8, 8, 8, 8, 8, 8, 8, 8, 8, 8, 8, 8, 8, 8, 8, 8, 8, 8, 8, 8, 8, 8, 8, 8, 8, 8, 8, 8, 8, 8, 8, 8, 8, 8, 8, 8, 8, 8, 8, 8, 8, 8, 8, 8, 8, 8, 8, 8, 8, 8, 8, 8, 8, 8, 8, 8, 8, 8, 8, 8, 8, 8, 8, 8, 8, 8, 8, 8, 8, 8, 8, 8, 8, 8, 8, 8, 8, 8, 8, 8, 8, 8, 8, 8, 8, 8, 8]⟩ : ByteArray) (IntKind.wrap .u8 (shrI .u64 (shrI .u64 x_0 32) 16)).toNat).toNat : Int)))))) w))) (boolV (decide ((shrI .u64 x_0 32) ≥ (256 : Int))) ((0 ≤ (IntKind.wrap .u8 (shrI .u64 (shrI .u64 x_0 32) 8)) ∧ (IntKind.wrap .u8 (shrI .u64 (shrI .u64 x_0 32) 8)) < (⟨#[0, 1, 2, 2, 3, 3, 3, 3, 4, 4, 4, 4, 4, 4, 4, 4, 5, 5, 5, 5, 5, 5, 5, 5, 5, 5, 5, 5, 5, 5, 5, 5, 6, 6, 6, 6, 6, 6, 6, 6, 6, 6, 6, 6, 6, 6, 6, 6, 6, 6, 6, 6, 6, 6, 6, 6, 6, 6, 6, 6, 6, 6, 6, 6, 7, 7, 7, 7, 7, 7, 7, 7, 7, 7, 7, 7, 7, 7, 7, 7, 7, 7, 7, 7, 7, 7, 7, 7, 7, 7, 7, 7, 7, 7, 7, 7, 7, 7, 7, 7, 7, 7, 7, 7, 7, 7, 7, 7, 7, 7, 7, 7, 7, 7, 7, 7, 7, 7, 7, 7, 7, 7, 7, 7, 7, 7, 7, 7, 8, 8, 8, 8, 8, 8, 8, 8, 8, 8, 8, 8, 8, 8, 8, 8, 8, 8, 8, 8, 8, 8, 8, 8, 8, 8, 8, 8, 8, 8, 8, 8, 8, 8, 8, 8, 8, 8, 8, 8, 8, 8, 8, 8, 8, 8, 8, 8, 8, 8, 8, 8, 8, 8, 8, 8, 8, 8, 8, 8, 8, 8, 8, 8, 8, 8, 8, 8, 8, 8, 8, 8, 8, 8, 8, 8, 8, 8, 8, 8, 8, 8, 8, 8, 8, 8, 8, 8, 8, 8, 8, 8, 8, 8, 8, 8, 8, 8, 8, 8, 8, 8, 8, 8, 8, 8, 8, 8, 8, 8, 8, 8, 8, 8, 8, 8, 8, 8, 8, 8, 8, 8, 8, 8, 8, 8, 8, 8]⟩ : ByteArray).size) ∧ (R (.returned (.int .i64 (IntKind.wrap .i64 ((IntKind.wrap .i64 (32 + 8)) + (IntKind.wrap .i64 ((byteAt (⟨#[0, 1, 2, 2, 3, 3, 3, 3, 4, 4, 4, 4, 4, 4, 4, 4, 5, 5, 5, 5, 5, 5, 5, 5, 5, 5, 5, 5, 5, 5, 5, 5, 6, 6, 6, 6, 6, 6, 6, 6, 6, 6, 6, 6, 6, 6, 6, 6, 6, 6, 6, 6, 6, 6, 6, 6, 6, 6, 6, 6, 6, 6, 6, 6, 7, 7, 7, 7, 7, 7, 7, 7, 7, 7, 7, 7, 7, 7, 7, 7, 7, 7, 7, 7, 7, 7, 7, 7, 7, 7, 7, 7, 7, 7, 7, 7, 7, 7, 7, 7, 7, 7, 7, 7, 7, 7, 7, 7, 7, 7, 7, 7, 7, 7, 7, 7, 7, 7, 7, 7, 7, 7, 7, 7, 7, 7, 7, 7, 8, 8, 8, 8, 8, 8, 8, 8, 8, 8, 8, 8, 8, 8, 8, 8, 8, 8, 8, 8, 8, 8, 8, 8, 8, 8, 8, 8, 8, 8, 8, 8, 8, 8, 8, 8, 8, 8, 8, 8, 8, 8, 8, 8, 8, 8, 8, 8, 8, 8, 8, 8, 8, 8, 8, 8, 8, 8, 8, 8, 8, 8, 8, 8, 8, 8, 8, 8, 8, 8, 8, 8, 8, 8, 8, 8, 8, 8, 8, 8, 8, 8, 8, 8, 8, 8, 8, 8, 8, 8, 8, 8, 8, 8, 8, 8, 8, 8, 8, 8, 8, 8, 8, 8, 8, 8, 8, 8, 8, 8, 8, 8, 8, 8, 8, 8, 8, 8, 8, 8, 8, 8, 8, 8, 8, 8, 8, 8]⟩ : ByteArray) (IntKind.wrap .u8 (shrI .u64 (shrI .u64 x_0 32) 8)).toNat).toNat : Int)))))) w)) ((0 ≤ (IntKind.wrap .u8 (shrI .u64 x_0 32)) ∧ (IntKind.wrap .u8 (shrI .u64 x_0 32)) < (⟨#[0, 1, 2, 2, 3, 3, 3, 3, 4, 4, 4, 4, 4, 4, 4, 4, 5, 5, 5, 5, 5, 5, 5, 5, 5, 5, 5, 5, 5, 5, 5, 5, 6, 6, 6, 6, 6, 6, 6, 6, 6, 6, 6, 6, 6, 6, 6, 6, 6, 6, 6, 6, 6, 6, 6, 6, 6, 6, 6, 6, 6, 6, 6, 6, 7, 7, 7, 7, 7, 7, 7, 7, 7, 7, 7, 7, 7, 7, 7, 7, 7, 7, 7, 7, 7, 7, 7, 7, 7, 7, 7, 7, 7, 7, 7, 7, 7, 7, 7, 7, 7, 7, 7, 7, 7, 7, 7, 7, 7, 7, 7, 7, 7, 7, 7, 7, 7, 7, 7, 7, 7, 7, 7, 7, 7, 7, 7, 7, 8, 8, 8, 8, 8, 8, 8, 8, 8, 8, 8, 8, 8, 8, 8, 8, 8, 8, 8, 8, 8, 8, 8, 8, 8, 8, 8, 8, 8, 8, 8, 8, 8, 8, 8, 8, 8, 8, 8, 8, 8, 8, 8, 8, 8, 8, 8, 8, 8, 8, 8, 8, 8, 8, 8, 8, 8, 8, 8, 8, 8, 8, 8, 8, 8, 8, 8, 8, 8, 8, 8, 8, 8, 8, 8, 8, 8, 8, 8, 8, 8, 8, 8, 8, 8, 8, 8, 8, 8, 8, 8, 8, 8, 8, 8, 8, 8, 8, 8, 8, 8, 8, 8, 8, 8, 8, 8, 8, 8, 8, 8, 8, 8, 8, 8, 8, 8, 8, 8, 8, 8, 8, 8, 8, 8, 8, 8, 8]⟩ : ByteArray).size) ∧ (R (.returned (.int .i64 (IntKind.wrap .i64 (32 + (IntKind.wrap .i64 ((byteAt (⟨#[0, 1, 2, 2, 3, 3, 3, 3, 4, 4, 4, 4, 4, 4, 4, 4, 5, 5, 5, 5, 5, 5, 5, 5, 5, 5, 5, 5, 5, 5, 5, 5, 6, 6, 6, 6, 6, 6, 6, 6, 6, 6, 6, 6, 6, 6, 6, 6, 6, 6, 6, 6, 6, 6, 6, 6, 6, 6, 6, 6, 6, 6, 6, 6, 7, 7, 7, 7, 7, 7, 7, 7, 7, 7, 7, 7, 7, 7, 7, 7, 7, 7, 7, 7, 7, 7, 7, 7, 7, 7, 7, 7, 7, 7, 7, 7, 7, 7, 7, 7, 7, 7, 7, 7, 7, 7, 7, 7, 7, 7, 7, 7, 7, 7, 7, 7, 7, 7, 7, 7, 7, 7, 7, 7, 7, 7, 7, 7, 8, 8, 8, 8, 8, 8, 8, 8, 8, 8, 8, 8, 8, 8, 8, 8, 8, 8, 8, 8, 8, 8, 8, 8, 8, 8, 8, 8, 8, 8, 8, 8, 8, 8, 8, 8, 8, 8, 8, 8, 8, 8, 8, 8, 8, 8, 8, 8, 8, 8, 8, 8, 8, 8, 8, 8, 8, 8, 8, 8, 8, 8, 8, 8, 8, 8, 8, 8, 8, 8, 8, 8, 8, 8, 8, 8, 8, 8, 8, 8, 8, 8, 8, 8, 8, 8, 8, 8, 8, 8, 8, 8, 8, 8, 8, 8, 8, 8, 8, 8, 8, 8, 8, 8, 8, 8, 8, 8, 8, 8, 8, 8, 8, 8, 8, 8, 8, 8, 8, 8, 8, 8, 8, 8, 8, 8, 8, 8]⟩ : ByteArray) (IntKind.wrap .u8 (shrI .u64 x_0 32)).toNat).toNat : Int)))))) w)))) (boolV (decide (x_0 ≥ (65536 : Int))) (boolV (decide ((shrI .u64 x_0 16) ≥ (256 : Int))) ((0 ≤ (IntKind.wrap .u8 (shrI .u64 (shrI .u64 x_0 16) 8)) ∧ (IntKind.wrap .u8 (shrI .u64 (shrI .u64 x_0 16) 8)) < (⟨#[0, 1, 2, 2, 3, 3, 3, 3, 4, 4, 4, 4, 4, 4, 4, 4, 5, 5, 5, 5, 5, 5, 5, 5, 5, 5, 5, 5, 5, 5, 5, 5, 6, 6, 6, 6, 6, 6, 6, 6, 6, 6, 6, 6, 6, 6, 6, 6, 6, 6, 6, 6, 6, 6, 6, 6, 6, 6, 6, 6, 6, 6, 6, 6, 7, 7, 7, 7, 7, 7, 7, 7, 7, 7, 7, 7, 7, 7, 7, 7, 7, 7, 7, 7, 7, 7, 7, 7, 7, 7, 7, 7, 7, 7, 7, 7, 7, 7, 7, 7, 7, 7, 7, 7, 7, 7, 7, 7, 7, 7, 7, 7, 7, 7, 7, 7, 7, 7, 7, 7, 7, 7, 7, 7, 7, 7, 7, 7, 8, 8, 8, 8, 8, 8, 8, 8, 8, 8, 8, 8, 8, 8, 8, 8, 8, 8, 8, 8, 8, 8, 8, 8, 8, 8, 8, 8, 8, 8, 8, 8, 8, 8, 8, 8, 8, 8, 8, 8, 8, 8, 8, 8, 8, 8, 8, 8, 8, 8, 8, 8, 8, 8, 8, 8, 8, 8, 8, 8, 8, 8, 8, 8, 8, 8, 8, 8, 8, 8, 8, 8, 8, 8, 8, 8, 8, 8, 8, 8, 8, 8, 8, 8, 8, 8, 8, 8, 8, 8, 8, 8, 8, 8, 8, 8, 8, 8, 8, 8, 8, 8, 8, 8, 8, 8, 8, 8, 8, 8, 8, 8, 8, 8, 8, 8, 8, 8, 8, 8, 8, 8, 8, 8, 8, 8, 8, 8]⟩ : ByteArray).size) ∧ (R (.returned (.int .i64 (IntKind.wrap .i64 ((IntKind.wrap .i64 ((IntKind.wrap .i64 (0 + 16)) + 8)) + (IntKind.wrap .i64 ((byteAt (⟨#[0, 1, 2, 2, 3, 3, 3, 3, 4, 4, 4, 4, 4, 4, 4, 4, 5, 5, 5, 5, 5, 5, 5, 5, 5, 5, 5, 5, 5, 5, 5, 5, 6, 6, 6, 6, 6, 6, 6, 6, 6, 6, 6, 6, 6, 6, 6, 6, 6, 6, 6, 6, 6, 6, 6, 6, 6, 6, 6, 6, 6, 6, 6, 6, 7, 7, 7, 7, 7, 7, 7, 7, 7, 7, 7, 7, 7, 7, 7, 7, 7, 7, 7, 7, 7, 7, 7, 7, 7, 7, 7, 7, 7, 7, 7, 7, 7, 7, 7, 7, 7, 7, 7, 7, 7, 7, 7, 7, 7, 7, 7, 7, 7, 7, 7, 7, 7, 7, 7, 7, 7, 7, 7, 7, 7, 7, 7, 7, 8, 8, 8, 8, 8, 8, 8, 8, 8, 8, 8, 8, 8, 8, 8, 8, 8, 8, 8, 8, 8, 8, 8, 8, 8, 8, 8, 8, 8, 8, 8, 8, 8, 8, 8, 8, 8, 8, 8, 8, 8, 8, 8, 8, 8, 8, 8, 8, 8, 8, 8, 8, 8, 8, 8, 8, 8, 8, 8, 8, 8, 8, 8, 8, 8, 8, 8, 8, 8, 8, 8, 8, 8, 8, 8, 8, 8, 8, 8, 8, 8, 8, 8, 8, 8, 8, 8, 8, 8, 8, 8, 8, 8, 8, 8, 8, 8, 8, 8, 8, 8, 8, 8, 8, 8, 8, 8, 8, 8, 8, 8, 8, 8, 8, 8, 8, 8, 8, 8, 8, 8, 8, 8, 8, 8, 8, 8, 8]⟩ : ByteArray) (IntKind.wrap .u8 (shrI .u64 (shrI .u64 x_0 16) 8)).toNat).toNat : Int)))))) w)) ((0 ≤ (IntKind.wrap .u8 (shrI .u64 x_0 16)) ∧ (IntKind.wrap .u8 (shrI .u64 x_0 16)) < (⟨#[0, 1, 2, 2, 3, 3, 3, 3, 4, 4, 4, 4, 4, 4, 4, 4, 5, 5, 5, 5, 5, 5, 5, 5, 5, 5, 5, 5, 5, 5, 5, 5, 6, 6, 6, 6, 6, 6, 6, 6, 6, 6, 6, 6, 6, 6, 6, 6, 6, 6, 6, 6, 6, 6, 6, 6, 6, 6, 6, 6, 6, 6, 6, 6, 7, 7, 7, 7, 7, 7, 7, 7, 7, 7, 7, 7, 7, 7, 7, 7, 7, 7, 7, 7, 7, 7, 7, 7, 7, 7, 7, 7, 7, 7, 7, 7, 7, 7, 7, 7, 7, 7, 7, 7, 7, 7, 7, 7, 7, 7, 7, 7, 7, 7, 7, 7, 7, 7, 7, 7, 7, 7, 7, 7, 7, 7, 7, 7, 8, 8, 8, 8, 8, 8, 8, 8, 8, 8, 8, 8, 8, 8, 8, 8, 8, 8, 8, 8, 8, 8, 8, 8, 8, 8, 8, 8, 8, 8, 8, 8, 8, 8, 8, 8, 8, 8, 8, 8, 8, 8, 8, 8, 8, 8, 8, 8, 8, 8, 8, 8, 8, 8, 8, 8, 8, 8, 8, 8, 8, 8, 8, 8, 8, 8, 8, 8, 8, 8, 8, 8, 8, 8, 8, 8, 8, 8, 8, 8, 8, 8, 8, 8, 8, 8, 8, 8, 8, 8, 8, 8, 8, 8, 8, 8, 8, 8, 8, 8, 8, 8, 8, 8, 8, 8, 8, 8, 8, 8, 8, 8, 8, 8, 8, 8, 8, 8, 8, 8, 8, 8, 8, 8, 8, 8, 8, 8]⟩ : ByteArray).size) ∧ (R (.returned (.int .i64 (IntKind.wrap .i64 ((IntKind.wrap .i64 (0 + 16)) + (IntKind.wrap .i64 ((byteAt (⟨#[0, 1, 2, 2, 3, 3, 3, 3, 4, 4, 4, 4, 4, 4, 4, 4, 5, 5, 5, 5, 5, 5, 5, 5, 5, 5, 5, 5, 5, 5, 5, 5, 6, 6, 6, 6, 6, 6, 6, 6, 6, 6, 6, 6, 6, 6, 6, 6, 6, 6, 6, 6, 6, 6, 6, 6, 6, 6, 6, 6, 6, 6, 6, 6, 7, 7, 7, 7, 7, 7, 7, 7, 7, 7, 7, 7, 7, 7, 7, 7, 7, 7, 7, 7, 7, 7, 7, 7, 7, 7, 7, 7, 7, 7, 7, 7, 7, 7, 7, 7, 7, 7, 7, 7, 7, 7, 7, 7, 7, 7, 7, 7, 7, 7, 7, 7, 7, 7, 7, 7, 7, 7, 7, 7, 7, 7, 7, 7, 8, 8, 8, 8, 8, 8, 8, 8, 8, 8, 8, 8, 8, 8, 8, 8, 8, 8, 8, 8, 8, 8, 8, 8, 8, 8, 8, 8, 8, 8, 8, 8, 8, 8, 8, 8, 8, 8, 8, 8, 8, 8, 8, 8, 8, 8, 8, 8, 8, 8, 8, 8, 8, 8, 8, 8, 8, 8, 8, 8, 8, 8, 8, 8, 8, 8, 8, 8, 8, 8, 8, 8, 8, 8, 8, 8, 8, 8, 8, 8, 8, 8, 8, 8, 8, 8, 8, 8, 8, 8, 8, 8, 8, 8, 8, 8, 8, 8, 8, 8, 8, 8, 8, 8, 8, 8, 8, 8, 8, 8, 8, 8, 8, 8, 8, 8, 8, 8, 8, 8, 8, 8, 8, 8, 8, 8, 8, 8]⟩ : ByteArray) (IntKind.wrap .u8 (shrI .u64 x_0 16)).toNat).toNat : Int)))))) w))) (boolV (decide (x_0 ≥ (256 : Int))) ((0 ≤ (IntKind.wrap .u8 (shrI .u64 x_0 8)) ∧ (IntKind.wrap .u8 (shrI .u64 x_0 8)) < (⟨#[0, 1, 2, 2, 3, 3, 3, 3, 4, 4, 4, 4, 4, 4, 4, 4, 5, 5, 5, 5, 5, 5, 5, 5, 5, 5, 5, 5, 5, 5, 5, 5, 6, 6, 6, 6, 6, 6, 6, 6, 6, 6, 6, 6, 6, 6, 6, 6, 6, 6, 6, 6, 6, 6, 6, 6, 6, 6, 6, 6, 6, 6, 6, 6, 7, 7, 7, 7, 7, 7, 7, 7, 7, 7, 7, 7, 7, 7, 7, 7, 7, 7, 7, 7, 7, 7, 7, 7, 7, 7, 7, 7, 7, 7, 7, 7, 7, 7, 7, 7, 7, 7, 7, 7, 7, 7, 7, 7, 7, 7, 7, 7, 7, 7, 7, 7, 7, 7, 7, 7, 7, 7, 7, 7, 7, 7, 7, 7, 8, 8, 8, 8, 8, 8, 8, 8, 8, 8, 8, 8, 8, 8, 8, 8, 8, 8, 8, 8, 8, 8, 8, 8, 8, 8, 8, 8, 8, 8, 8, 8, 8, 8, 8, 8, 8, 8, 8, 8, 8, 8, 8, 8, 8, 8, 8, 8, 8, 8, 8, 8, 8, 8, 8, 8, 8, 8, 8, 8, 8, 8, 8, 8, 8, 8, 8, 8, 8, 8, 8, 8, 8, 8, 8, 8, 8, 8, 8, 8, 8, 8, 8, 8, 8, 8, 8, 8, 8, 8, 8, 8, 8, 8, 8, 8, 8, 8, 8, 8, 8, 8, 8, 8, 8, 8, 8, 8, 8, 8, 8, 8, 8, 8, 8, 8, 8, 8, 8, 8, 8, 8, 8, 8, 8, 8, 8, 8]⟩ : ByteArray).size) ∧ (R (.returned (.int .i64 (IntKind.wrap .i64 ((IntKind.wrap .i64 (0 + 8)) + (IntKind.wrap .i64 ((byteAt (⟨#[0, 1, 2, 2, 3, 3, 3, 3, 4, 4, 4, 4, 4, 4, 4, 4, 5, 5, 5, 5, 5, 5, 5, 5, 5, 5, 5, 5, 5, 5, 5, 5, 6, 6, 6, 6, 6, 6, 6, 6, 6, 6, 6, 6, 6, 6, 6, 6, 6, 6, 6, 6, 6, 6, 6, 6, 6, 6, 6, 6, 6, 6, 6, 6, 7, 7, 7, 7, 7, 7, 7, 7, 7, 7, 7, 7, 7, 7, 7, 7, 7, 7, 7, 7, 7, 7, 7, 7, 7, 7, 7, 7, 7, 7, 7, 7, 7, 7, 7, 7, 7, 7, 7, 7, 7, 7, 7, 7, 7, 7, 7, 7, 7, 7, 7, 7, 7, 7, 7, 7, 7, 7, 7, 7, 7, 7, 7, 7, 8, 8, 8, 8, 8, 8, 8, 8, 8, 8, 8, 8, 8, 8, 8, 8, 8, 8, 8, 8, 8, 8, 8, 8, 8, 8, 8, 8, 8, 8, 8, 8, 8, 8, 8, 8, 8, 8, 8, 8, 8, 8, 8, 8, 8, 8, 8, 8, 8, 8, 8, 8, 8, 8, 8, 8, 8, 8, 8, 8, 8, 8, 8, 8, 8, 8, 8, 8, 8, 8, 8, 8, 8, 8, 8, 8, 8, 8, 8, 8, 8, 8, 8, 8, 8, 8, 8, 8, 8, 8, 8, 8, 8, 8, 8, 8, 8, 8, 8, 8, 8, 8, 8, 8, 8, 8, 8, 8, 8, 8, 8, 8, 8, 8, 8, 8, 8, 8, 8, 8, 8, 8, 8, 8, 8, 8, 8, 8]⟩ : ByteArray) (IntKind.wrap .u8 (shrI .u64 x_0 8)).toNat).toNat : Int)))))) w)) ((0 ≤ (IntKind.wrap .u8 x_0) ∧ (IntKind.wrap .u8 x_0) < (⟨#[0, 1, 2, 2, 3, 3, 3, 3, 4, 4, 4, 4, 4, 4, 4, 4, 5, 5, 5, 5, 5, 5, 5, 5, 5, 5, 5, 5, 5, 5, 5, 5, 6, 6, 6, 6, 6, 6, 6, 6, 6, 6, 6, 6, 6, 6, 6, 6, 6, 6, 6, 6, 6, 6, 6, 6, 6, 6, 6, 6, 6, 6, 6, 6, 7, 7, 7, 7, 7, 7, 7, 7, 7, 7, 7, 7, 7, 7, 7, 7, 7, 7, 7, 7, 7, 7, 7, 7, 7, 7, 7, 7, 7, 7, 7, 7, 7, 7, 7, 7, 7, 7, 7, 7, 7, 7, 7, 7, 7, 7, 7, 7, 7, 7, 7, 7, 7, 7, 7, 7, 7, 7, 7, 7, 7, 7, 7, 7, 8, 8, 8, 8, 8, 8, 8, 8, 8, 8, 8, 8, 8, 8, 8, 8, 8, 8, 8, 8, 8, 8, 8, 8, 8, 8, 8, 8, 8, 8, 8, 8, 8, 8, 8, 8, 8, 8, 8, 8, 8, 8, 8, 8, 8, 8, 8, 8, 8, 8, 8, 8, 8, 8, 8, 8, 8, 8, 8, 8, 8, 8, 8, 8, 8, 8, 8, 8, 8, 8, 8, 8, 8, 8, 8, 8, 8, 8, 8, 8, 8, 8, 8, 8, 8, 8, 8, 8, 8, 8, 8, 8, 8, 8, 8, 8, 8, 8, 8, 8, 8, 8, 8, 8, 8, 8, 8, 8, 8, 8, 8, 8, 8, 8, 8, 8, 8, 8, 8, 8, 8, 8, 8, 8, 8, 8, 8, 8]⟩ : ByteArray).size) ∧ (R (.returned (.int .i64 (IntKind.wrap .i64 (0 + (IntKind.wrap .i64 ((byteAt (⟨#[0, 1, 2, 2, 3, 3, 3, 3, 4, 4, 4, 4, 4, 4, 4, 4, 5, 5, 5, 5, 5, 5, 5, 5, 5, 5, 5, 5, 5, 5, 5, 5, 6, 6, 6, 6, 6, 6, 6, 6, 6, 6, 6, 6, 6, 6, 6, 6, 6, 6, 6, 6, 6, 6, 6, 6, 6, 6, 6, 6, 6, 6, 6, 6, 7, 7, 7, 7, 7, 7, 7, 7, 7, 7, 7, 7, 7, 7, 7, 7, 7, 7, 7, 7, 7, 7, 7, 7, 7, 7, 7, 7, 7, 7, 7, 7, 7, 7, 7, 7, 7, 7, 7, 7, 7, 7, 7, 7, 7, 7, 7, 7, 7, 7, 7, 7, 7, 7, 7, 7, 7, 7, 7, 7, 7, 7, 7, 7, 8, 8, 8, 8, 8, 8, 8, 8, 8, 8, 8, 8, 8, 8, 8, 8, 8, 8, 8, 8, 8, 8, 8, 8, 8, 8, 8, 8, 8, 8, 8, 8, 8, 8, 8, 8, 8, 8, 8, 8, 8, 8, 8, 8, 8, 8, 8, 8, 8, 8, 8, 8, 8, 8, 8, 8, 8, 8, 8, 8, 8, 8, 8, 8, 8, 8, 8, 8, 8, 8, 8, 8, 8, 8, 8, 8, 8, 8, 8, 8, 8, 8, 8, 8, 8, 8, 8, 8, 8, 8, 8, 8, 8, 8, 8, 8, 8, 8, 8, 8, 8, 8, 8, 8, 8, 8, 8, 8, 8, 8, 8, 8, 8, 8, 8, 8, 8, 8, 8, 8, 8, 8, 8, 8, 8, 8, 8, 8]⟩ : ByteArray) (IntKind.wrap .u8 x_0).toNat).toNat : Int)))))) w))))
def vc (R : Ending → World → Prop) (x_0 : Int) (w : World) : Prop := t0 R  x_0 w
theorem calls (R : Ending → World → Prop) (x_0 : Int) (w : World) (h : vc R x_0 w) : Calls Tryz.prog 148 #[.int .u64 x_0] w R :=
  calls_V Tryz.func148 (Eq.mpr (by kernel_rfl) (h))
end bits_Len64
end Go.Proofs.YtcofknlcdgidpaaGreatDoor
/-! ## GslicesValuesapiPairapiPair -/
namespace Go.Proofs.YtcofknlcdgidpaaGreatDoor
open Go Go.Proofs.YtcofknlcdgidpaaGreatDoor.VC
set_option linter.unusedVariables false
set_option maxRecDepth 100000
set_option maxHeartbeats 0

/-! ### slices.Values[[]postroom/api.Pair,postroom/api.Pair]: function 186 -/
namespace slices_Values_api_Pair_api_Pair
def t0 (R : Ending → World → Prop)  (s_0a : Option Addr) (s_0b : Nat) (s_0c : Nat) (w : World) : Prop := ∀ (b1 : Nat) (w2 : World), b1 = w.heap.size → w2 = World.alloc w (.cells #[.slice s_0a s_0b s_0c] 50) → R (.returned (.func (.func 223) #[] #[.pointer (some ⟨b1, 0, none⟩)])) w2
def vc (R : Ending → World → Prop) (s_0a : Option Addr) (s_0b : Nat) (s_0c : Nat) (w : World) : Prop := t0 R  s_0a s_0b s_0c w
theorem calls (R : Ending → World → Prop) (s_0a : Option Addr) (s_0b : Nat) (s_0c : Nat) (w : World) (h : vc R s_0a s_0b s_0c w) : Calls Tryz.prog 186 #[.slice s_0a s_0b s_0c] w R :=
  calls_V Tryz.func186 (Eq.mpr (by kernel_rfl) (h))
end slices_Values_api_Pair_api_Pair
end Go.Proofs.YtcofknlcdgidpaaGreatDoor
/-! ## GslicesCollectapiPair -/
namespace Go.Proofs.YtcofknlcdgidpaaGreatDoor
open Go Go.Proofs.YtcofknlcdgidpaaGreatDoor.VC
set_option linter.unusedVariables false
set_option maxRecDepth 100000
set_option maxHeartbeats 0

/-! ### slices.Collect[postroom/api.Pair]: function 221 -/
namespace slices_Collect_api_Pair
def t0 (R : Ending → World → Prop)  (seq_0 : Value) (w : World) : Prop := Calls Tryz.prog 234 #[.slice none 0 0, seq_0] w (fun e1 w2 => ∃ (a3 : Option Addr) (n4 c5 : Nat), e1 = .returned (.slice a3 n4 c5) ∧ (R (.returned (.slice a3 n4 c5)) w2))
def vc (R : Ending → World → Prop) (seq_0 : Value) (w : World) : Prop := t0 R  seq_0 w
theorem calls (R : Ending → World → Prop) (seq_0 : Value) (w : World) (h : vc R seq_0 w) : Calls Tryz.prog 221 #[seq_0] w R :=
  calls_V Tryz.func221 (Eq.mpr (by kernel_rfl) (h))
end slices_Collect_api_Pair
end Go.Proofs.YtcofknlcdgidpaaGreatDoor
/-! ## GslicesSortedFuncapiPair -/
namespace Go.Proofs.YtcofknlcdgidpaaGreatDoor
open Go Go.Proofs.YtcofknlcdgidpaaGreatDoor.VC
set_option linter.unusedVariables false
set_option maxRecDepth 100000
set_option maxHeartbeats 0

/-! ### slices.SortedFunc[postroom/api.Pair]: function 185 -/
namespace slices_SortedFunc_api_Pair
def t0 (R : Ending → World → Prop)  (seq_0 : Value) (cmp_1 : Value) (w : World) : Prop := Calls Tryz.prog 221 #[seq_0] w (fun e1 w2 => ∃ (a3 : Option Addr) (n4 c5 : Nat), e1 = .returned (.slice a3 n4 c5) ∧ (Calls Tryz.prog 222 #[.slice a3 n4 c5, cmp_1] w2 (fun e6 w7 => e6 = .returned (.tuple #[]) ∧ (R (.returned (.slice a3 n4 c5)) w7))))
def vc (R : Ending → World → Prop) (seq_0 : Value) (cmp_1 : Value) (w : World) : Prop := t0 R  seq_0 cmp_1 w
theorem calls (R : Ending → World → Prop) (seq_0 : Value) (cmp_1 : Value) (w : World) (h : vc R seq_0 cmp_1 w) : Calls Tryz.prog 185 #[seq_0, cmp_1] w R :=
  calls_V Tryz.func185 (Eq.mpr (by kernel_rfl) (h))
end slices_SortedFunc_api_Pair
end Go.Proofs.YtcofknlcdgidpaaGreatDoor
/-! ## GslicesSortFuncapiPairapiPair -/
namespace Go.Proofs.YtcofknlcdgidpaaGreatDoor
open Go Go.Proofs.YtcofknlcdgidpaaGreatDoor.VC
set_option linter.unusedVariables false
set_option maxRecDepth 100000
set_option maxHeartbeats 0

/-! ### slices.SortFunc[[]postroom/api.Pair,postroom/api.Pair]: function 222 -/
namespace slices_SortFunc_api_Pair_api_Pair
def t0 (R : Ending → World → Prop)  (x_0a : Option Addr) (x_0b : Nat) (x_0c : Nat) (cmp_1 : Value) (w : World) : Prop := Calls Tryz.prog 105 #[.int .u64 (IntKind.wrap .u64 ((x_0b : Nat) : Int))] w (fun e1 w2 => ∃ x3 : Int, e1 = .returned (.int .i64 x3) ∧ (Calls Tryz.prog 235 #[.slice x_0a x_0b x_0c, .int .i64 0, .int .i64 ((x_0b : Nat) : Int), .int .i64 x3, cmp_1] w2 (fun e4 w5 => e4 = .returned (.tuple #[]) ∧ (R (.returned (.tuple #[])) w5))))
def vc (R : Ending → World → Prop) (x_0a : Option Addr) (x_0b : Nat) (x_0c : Nat) (cmp_1 : Value) (w : World) : Prop := t0 R  x_0a x_0b x_0c cmp_1 w
theorem calls (R : Ending → World → Prop) (x_0a : Option Addr) (x_0b : Nat) (x_0c : Nat) (cmp_1 : Value) (w : World) (h : vc R x_0a x_0b x_0c cmp_1 w) : Calls Tryz.prog 222 #[.slice x_0a x_0b x_0c, cmp_1] w R :=
  calls_V Tryz.func222 (Eq.mpr (by kernel_rfl) (h))
end slices_SortFunc_api_Pair_api_Pair
end Go.Proofs.YtcofknlcdgidpaaGreatDoor
/-! ## GslicespdqsortCmpFuncapiPair -/
namespace Go.Proofs.YtcofknlcdgidpaaGreatDoor
open Go Go.Proofs.YtcofknlcdgidpaaGreatDoor.VC
set_option linter.unusedVariables false
set_option maxRecDepth 100000
set_option maxHeartbeats 0

/-! ### slices.pdqsortCmpFunc[postroom/api.Pair]: function 235 -/
namespace slices_pdqsortCmpFunc_api_Pair
def t1 (R : Ending → World → Prop)  (Back0 : Int → Int → Int → Bool → Bool → List Value → World → Prop) (X0 : Prop)  (data_0a : Option Addr) (data_0b : Nat) (data_0c : Nat) (a_1 : Int) (b_2 : Int) (limit_3 : Int) (cmp_4 : Value) (wasBalanced_10 : Bool) (wasPartitioned_11 : Bool) (g : List Value) (w : World) : Prop := boolV (decide ((IntKind.wrap .i64 (b_2 - a_1)) ≤ (12 : Int))) (Calls Tryz.prog 241 #[.slice data_0a data_0b data_0c, .int .i64 a_1, .int .i64 b_2, cmp_4] w (fun e1 w2 => e1 = .returned (.tuple #[]) ∧ (R (.returned (.tuple #[])) w2))) X0
def W0 (R : Ending → World → Prop)  (data_0a : Option Addr) (data_0b : Nat) (data_0c : Nat) (a_1 : Int) (b_2 : Int) (limit_3 : Int) (cmp_4 : Value) (wasBalanced_10 : Bool) (wasPartitioned_11 : Bool) (w : World) : Prop := ∃ (I : Nat → Int → Int → Int → Bool → Bool → World → Prop) (n : Nat), I n a_1 b_2 limit_3 wasBalanced_10 wasPartitioned_11 w ∧ ∀ (n : Nat) (a_1 : Int) (b_2 : Int) (limit_3 : Int) (wasBalanced_10 : Bool) (wasPartitioned_11 : Bool) (g : List Value) (w : World), I n a_1 b_2 limit_3 wasBalanced_10 wasPartitioned_11 w → ∀ (Back0 : Int → Int → Int → Bool → Bool → List Value → World → Prop) (X0 : Prop), (∀ (m : Nat) (a_1 : Int) (b_2 : Int) (limit_3 : Int) (wasBalanced_10 : Bool) (wasPartitioned_11 : Bool) (g : List Value) (w : World), m < n → I m a_1 b_2 limit_3 wasBalanced_10 wasPartitioned_11 w → Back0 a_1 b_2 limit_3 wasBalanced_10 wasPartitioned_11 g w) → t1 R  Back0  X0  data_0a data_0b data_0c a_1 b_2 limit_3 cmp_4 wasBalanced_10 wasPartitioned_11 g w
def t0 (R : Ending → World → Prop) (L0 : (Option Addr) → Nat → Nat → Int → Int → Int → Value → Bool → Bool → List Value → World → Prop) (data_0a : Option Addr) (data_0b : Nat) (data_0c : Nat) (a_1 : Int) (b_2 : Int) (limit_3 : Int) (cmp_4 : Value) (w : World) : Prop := L0 data_0a data_0b data_0c a_1 b_2 limit_3 cmp_4 true true [undef, undef, undef, undef, undef, undef, undef, undef, undef, undef, undef, undef, undef, undef, undef, undef, undef, undef, undef, undef, undef, undef, undef, undef, undef, undef, undef, undef, undef, undef, undef, undef, undef, undef, undef, undef, undef, undef, undef, undef, undef, undef, undef, undef, undef, undef, undef, undef, undef, undef, undef, undef, undef, undef, undef, undef, undef, undef, undef, undef, undef, undef, undef, undef, undef, undef, undef, undef, undef, undef, undef, undef, undef, undef, undef, undef, undef, undef, undef, undef, undef, undef, undef, undef, undef, undef, undef, undef, undef, undef, undef, undef, undef, undef, undef, undef, undef, undef, undef, undef, undef, undef, undef, undef, undef, undef, undef, undef, undef, undef, undef, undef, undef, undef, undef, undef, undef, undef, undef, undef, undef, undef, undef, undef, undef, undef, undef, undef, undef, undef, undef, undef, undef, undef, undef, undef, undef, undef, undef, undef, undef] w
def vc (R : Ending → World → Prop) (data_0a : Option Addr) (data_0b : Nat) (data_0c : Nat) (a_1 : Int) (b_2 : Int) (limit_3 : Int) (cmp_4 : Value) (w : World) : Prop := ∀ (L0 : (Option Addr) → Nat → Nat → Int → Int → Int → Value → Bool → Bool → List Value → World → Prop), (∀ data_0a data_0b data_0c a_1 b_2 limit_3 cmp_4 wasBalanced_10 wasPartitioned_11 g w, W0 R data_0a data_0b data_0c a_1 b_2 limit_3 cmp_4 wasBalanced_10 wasPartitioned_11 w → L0 data_0a data_0b data_0c a_1 b_2 limit_3 cmp_4 wasBalanced_10 wasPartitioned_11 g w) → t0 R L0 data_0a data_0b data_0c a_1 b_2 limit_3 cmp_4 w
theorem at0 (R : Ending → World → Prop) (data_0a : Option Addr) (data_0b : Nat) (data_0c : Nat) (a_1 : Int) (b_2 : Int) (limit_3 : Int) (cmp_4 : Value) (wasBalanced_10 : Bool) (wasPartitioned_11 : Bool) (g : List Value) (w : World) (h : W0 R  data_0a data_0b data_0c a_1 b_2 limit_3 cmp_4 wasBalanced_10 wasPartitioned_11 w) : atV Tryz.prog (bodyC Tryz.f235) [true, true, false] (retQ Tryz.prog Tryz.f235 R) [.slice data_0a data_0b data_0c, .int .i64 a_1, .int .i64 b_2, .int .i64 limit_3, cmp_4, nth g 0, nth g 1, nth g 2, nth g 3, nth g 4, .bool wasBalanced_10, .bool wasPartitioned_11, nth g 5, nth g 6, nth g 7, nth g 8, nth g 9, nth g 10, nth g 11, nth g 12, nth g 13, nth g 14, nth g 15, nth g 16, nth g 17, nth g 18, nth g 19, nth g 20, nth g 21, nth g 22, nth g 23, nth g 24, nth g 25, nth g 26, nth g 27, nth g 28, nth g 29, nth g 30, nth g 31, nth g 32, nth g 33, nth g 34, nth g 35, nth g 36, nth g 37, nth g 38, nth g 39, nth g 40, nth g 41, nth g 42, nth g 43, nth g 44, nth g 45, nth g 46, nth g 47, nth g 48, nth g 49, nth g 50, nth g 51, nth g 52, nth g 53, nth g 54, nth g 55, nth g 56, nth g 57, nth g 58, nth g 59, nth g 60, nth g 61, nth g 62, nth g 63, nth g 64, nth g 65, nth g 66, nth g 67, nth g 68, nth g 69, nth g 70, nth g 71, nth g 72, nth g 73, nth g 74, nth g 75, nth g 76, nth g 77, nth g 78, nth g 79, nth g 80, nth g 81, nth g 82, nth g 83, nth g 84, nth g 85, nth g 86, nth g 87, nth g 88, nth g 89, nth g 90, nth g 91, nth g 92, nth g 93, nth g 94, nth g 95, nth g 96, nth g 97, nth g 98, nth g 99, nth g 100, nth g 101, nth g 102, nth g 103, nth g 104, nth g 105, nth g 106, nth g 107, nth g 108, nth g 109, nth g 110, nth g 111, nth g 112, nth g 113, nth g 114, nth g 115, nth g 116, nth g 117, nth g 118, nth g 119, nth g 120, nth g 121, nth g 122, nth g 123, nth g 124, nth g 125, nth g 126, nth g 127, nth g 128, nth g 129, nth g 130, nth g 131, nth g 132, nth g 133, nth g 134, nth g 135, nth g 136, nth g 137, nth g 138, nth g 139, nth g 140] w := by
  obtain ⟨I, n0, h0, hs⟩ := h
  refine atV_loop (by kernel_rfl) (fun n s w => ∃ (a_1 : Int) (b_2 : Int) (limit_3 : Int) (wasBalanced_10 : Bool) (wasPartitioned_11 : Bool) (g : List Value), s = [.slice data_0a data_0b data_0c, .int .i64 a_1, .int .i64 b_2, .int .i64 limit_3, cmp_4, nth g 0, nth g 1, nth g 2, nth g 3, nth g 4, .bool wasBalanced_10, .bool wasPartitioned_11, nth g 5, nth g 6, nth g 7, nth g 8, nth g 9, nth g 10, nth g 11, nth g 12, nth g 13, nth g 14, nth g 15, nth g 16, nth g 17, nth g 18, nth g 19, nth g 20, nth g 21, nth g 22, nth g 23, nth g 24, nth g 25, nth g 26, nth g 27, nth g 28, nth g 29, nth g 30, nth g 31, nth g 32, nth g 33, nth g 34, nth g 35, nth g 36, nth g 37, nth g 38, nth g 39, nth g 40, nth g 41, nth g 42, nth g 43, nth g 44, nth g 45, nth g 46, nth g 47, nth g 48, nth g 49, nth g 50, nth g 51, nth g 52, nth g 53, nth g 54, nth g 55, nth g 56, nth g 57, nth g 58, nth g 59, nth g 60, nth g 61, nth g 62, nth g 63, nth g 64, nth g 65, nth g 66, nth g 67, nth g 68, nth g 69, nth g 70, nth g 71, nth g 72, nth g 73, nth g 74, nth g 75, nth g 76, nth g 77, nth g 78, nth g 79, nth g 80, nth g 81, nth g 82, nth g 83, nth g 84, nth g 85, nth g 86, nth g 87, nth g 88, nth g 89, nth g 90, nth g 91, nth g 92, nth g 93, nth g 94, nth g 95, nth g 96, nth g 97, nth g 98, nth g 99, nth g 100, nth g 101, nth g 102, nth g 103, nth g 104, nth g 105, nth g 106, nth g 107, nth g 108, nth g 109, nth g 110, nth g 111, nth g 112, nth g 113, nth g 114, nth g 115, nth g 116, nth g 117, nth g 118, nth g 119, nth g 120, nth g 121, nth g 122, nth g 123, nth g 124, nth g 125, nth g 126, nth g 127, nth g 128, nth g 129, nth g 130, nth g 131, nth g 132, nth g 133, nth g 134, nth g 135, nth g 136, nth g 137, nth g 138, nth g 139, nth g 140] ∧ I n a_1 b_2 limit_3 wasBalanced_10 wasPartitioned_11 w) n0 ⟨_, _, _, _, _, _, rfl, h0⟩ ?_
  rintro n s w ⟨a_1, b_2, limit_3, wasBalanced_10, wasPartitioned_11, g, rfl, hI⟩
  exact Eq.mpr (by kernel_rfl) (hs n a_1 b_2 limit_3 wasBalanced_10 wasPartitioned_11 g w hI (fun a_1 b_2 limit_3 wasBalanced_10 wasPartitioned_11 g w => (backQ (fun n s w => ∃ (a_1 : Int) (b_2 : Int) (limit_3 : Int) (wasBalanced_10 : Bool) (wasPartitioned_11 : Bool) (g : List Value), s = [.slice data_0a data_0b data_0c, .int .i64 a_1, .int .i64 b_2, .int .i64 limit_3, cmp_4, nth g 0, nth g 1, nth g 2, nth g 3, nth g 4, .bool wasBalanced_10, .bool wasPartitioned_11, nth g 5, nth g 6, nth g 7, nth g 8, nth g 9, nth g 10, nth g 11, nth g 12, nth g 13, nth g 14, nth g 15, nth g 16, nth g 17, nth g 18, nth g 19, nth g 20, nth g 21, nth g 22, nth g 23, nth g 24, nth g 25, nth g 26, nth g 27, nth g 28, nth g 29, nth g 30, nth g 31, nth g 32, nth g 33, nth g 34, nth g 35, nth g 36, nth g 37, nth g 38, nth g 39, nth g 40, nth g 41, nth g 42, nth g 43, nth g 44, nth g 45, nth g 46, nth g 47, nth g 48, nth g 49, nth g 50, nth g 51, nth g 52, nth g 53, nth g 54, nth g 55, nth g 56, nth g 57, nth g 58, nth g 59, nth g 60, nth g 61, nth g 62, nth g 63, nth g 64, nth g 65, nth g 66, nth g 67, nth g 68, nth g 69, nth g 70, nth g 71, nth g 72, nth g 73, nth g 74, nth g 75, nth g 76, nth g 77, nth g 78, nth g 79, nth g 80, nth g 81, nth g 82, nth g 83, nth g 84, nth g 85, nth g 86, nth g 87, nth g 88, nth g 89, nth g 90, nth g 91, nth g 92, nth g 93, nth g 94, nth g 95, nth g 96, nth g 97, nth g 98, nth g 99, nth g 100, nth g 101, nth g 102, nth g 103, nth g 104, nth g 105, nth g 106, nth g 107, nth g 108, nth g 109, nth g 110, nth g 111, nth g 112, nth g 113, nth g 114, nth g 115, nth g 116, nth g 117, nth g 118, nth g 119, nth g 120, nth g 121, nth g 122, nth g 123, nth g 124, nth g 125, nth g 126, nth g 127, nth g 128, nth g 129, nth g 130, nth g 131, nth g 132, nth g 133, nth g 134, nth g 135, nth g 136, nth g 137, nth g 138, nth g 139, nth g 140] ∧ I n a_1 b_2 limit_3 wasBalanced_10 wasPartitioned_11 w) n (ctxQ Tryz.prog (bodyC Tryz.f235) [true, true, false] (retQ Tryz.prog Tryz.f235 R))) .normal [.slice data_0a data_0b data_0c, .int .i64 a_1, .int .i64 b_2, .int .i64 limit_3, cmp_4, nth g 0, nth g 1, nth g 2, nth g 3, nth g 4, .bool wasBalanced_10, .bool wasPartitioned_11, nth g 5, nth g 6, nth g 7, nth g 8, nth g 9, nth g 10, nth g 11, nth g 12, nth g 13, nth g 14, nth g 15, nth g 16, nth g 17, nth g 18, nth g 19, nth g 20, nth g 21, nth g 22, nth g 23, nth g 24, nth g 25, nth g 26, nth g 27, nth g 28, nth g 29, nth g 30, nth g 31, nth g 32, nth g 33, nth g 34, nth g 35, nth g 36, nth g 37, nth g 38, nth g 39, nth g 40, nth g 41, nth g 42, nth g 43, nth g 44, nth g 45, nth g 46, nth g 47, nth g 48, nth g 49, nth g 50, nth g 51, nth g 52, nth g 53, nth g 54, nth g 55, nth g 56, nth g 57, nth g 58, nth g 59, nth g 60, nth g 61, nth g 62, nth g 63, nth g 64, nth g 65, nth g 66, nth g 67, nth g 68, nth g 69, nth g 70, nth g 71, nth g 72, nth g 73, nth g 74, nth g 75, nth g 76, nth g 77, nth g 78, nth g 79, nth g 80, nth g 81, nth g 82, nth g 83, nth g 84, nth g 85, nth g 86, nth g 87, nth g 88, nth g 89, nth g 90, nth g 91, nth g 92, nth g 93, nth g 94, nth g 95, nth g 96, nth g 97, nth g 98, nth g 99, nth g 100, nth g 101, nth g 102, nth g 103, nth g 104, nth g 105, nth g 106, nth g 107, nth g 108, nth g 109, nth g 110, nth g 111, nth g 112, nth g 113, nth g 114, nth g 115, nth g 116, nth g 117, nth g 118, nth g 119, nth g 120, nth g 121, nth g 122, nth g 123, nth g 124, nth g 125, nth g 126, nth g 127, nth g 128, nth g 129, nth g 130, nth g 131, nth g 132, nth g 133, nth g 134, nth g 135, nth g 136, nth g 137, nth g 138, nth g 139, nth g 140] w) (atV Tryz.prog (loopC (bodyC Tryz.f235) [true, true, false]) [true, true, false, true, true] (backQ (fun n s w => ∃ (a_1 : Int) (b_2 : Int) (limit_3 : Int) (wasBalanced_10 : Bool) (wasPartitioned_11 : Bool) (g : List Value), s = [.slice data_0a data_0b data_0c, .int .i64 a_1, .int .i64 b_2, .int .i64 limit_3, cmp_4, nth g 0, nth g 1, nth g 2, nth g 3, nth g 4, .bool wasBalanced_10, .bool wasPartitioned_11, nth g 5, nth g 6, nth g 7, nth g 8, nth g 9, nth g 10, nth g 11, nth g 12, nth g 13, nth g 14, nth g 15, nth g 16, nth g 17, nth g 18, nth g 19, nth g 20, nth g 21, nth g 22, nth g 23, nth g 24, nth g 25, nth g 26, nth g 27, nth g 28, nth g 29, nth g 30, nth g 31, nth g 32, nth g 33, nth g 34, nth g 35, nth g 36, nth g 37, nth g 38, nth g 39, nth g 40, nth g 41, nth g 42, nth g 43, nth g 44, nth g 45, nth g 46, nth g 47, nth g 48, nth g 49, nth g 50, nth g 51, nth g 52, nth g 53, nth g 54, nth g 55, nth g 56, nth g 57, nth g 58, nth g 59, nth g 60, nth g 61, nth g 62, nth g 63, nth g 64, nth g 65, nth g 66, nth g 67, nth g 68, nth g 69, nth g 70, nth g 71, nth g 72, nth g 73, nth g 74, nth g 75, nth g 76, nth g 77, nth g 78, nth g 79, nth g 80, nth g 81, nth g 82, nth g 83, nth g 84, nth g 85, nth g 86, nth g 87, nth g 88, nth g 89, nth g 90, nth g 91, nth g 92, nth g 93, nth g 94, nth g 95, nth g 96, nth g 97, nth g 98, nth g 99, nth g 100, nth g 101, nth g 102, nth g 103, nth g 104, nth g 105, nth g 106, nth g 107, nth g 108, nth g 109, nth g 110, nth g 111, nth g 112, nth g 113, nth g 114, nth g 115, nth g 116, nth g 117, nth g 118, nth g 119, nth g 120, nth g 121, nth g 122, nth g 123, nth g 124, nth g 125, nth g 126, nth g 127, nth g 128, nth g 129, nth g 130, nth g 131, nth g 132, nth g 133, nth g 134, nth g 135, nth g 136, nth g 137, nth g 138, nth g 139, nth g 140] ∧ I n a_1 b_2 limit_3 wasBalanced_10 wasPartitioned_11 w) n (ctxQ Tryz.prog (bodyC Tryz.f235) [true, true, false] (retQ Tryz.prog Tryz.f235 R))) (put (put (put (put (put (put [.slice data_0a data_0b data_0c, .int .i64 a_1, .int .i64 b_2, .int .i64 limit_3, cmp_4, nth g 0, nth g 1, nth g 2, nth g 3, nth g 4, .bool wasBalanced_10, .bool wasPartitioned_11, nth g 5, nth g 6, nth g 7, nth g 8, nth g 9, nth g 10, nth g 11, nth g 12, nth g 13, nth g 14, nth g 15, nth g 16, nth g 17, nth g 18, nth g 19, nth g 20, nth g 21, nth g 22, nth g 23, nth g 24, nth g 25, nth g 26, nth g 27, nth g 28, nth g 29, nth g 30, nth g 31, nth g 32, nth g 33, nth g 34, nth g 35, nth g 36, nth g 37, nth g 38, nth g 39, nth g 40, nth g 41, nth g 42, nth g 43, nth g 44, nth g 45, nth g 46, nth g 47, nth g 48, nth g 49, nth g 50, nth g 51, nth g 52, nth g 53, nth g 54, nth g 55, nth g 56, nth g 57, nth g 58, nth g 59, nth g 60, nth g 61, nth g 62, nth g 63, nth g 64, nth g 65, nth g 66, nth g 67, nth g 68, nth g 69, nth g 70, nth g 71, nth g 72, nth g 73, nth g 74, nth g 75, nth g 76, nth g 77, nth g 78, nth g 79, nth g 80, nth g 81, nth g 82, nth g 83, nth g 84, nth g 85, nth g 86, nth g 87, nth g 88, nth g 89, nth g 90, nth g 91, nth g 92, nth g 93, nth g 94, nth g 95, nth g 96, nth g 97, nth g 98, nth g 99, nth g 100, nth g 101, nth g 102, nth g 103, nth g 104, nth g 105, nth g 106, nth g 107, nth g 108, nth g 109, nth g 110, nth g 111, nth g 112, nth g 113, nth g 114, nth g 115, nth g 116, nth g 117, nth g 118, nth g 119, nth g 120, nth g 121, nth g 122, nth g 123, nth g 124, nth g 125, nth g 126, nth g 127, nth g 128, nth g 129, nth g 130, nth g 131, nth g 132, nth g 133, nth g 134, nth g 135, nth g 136, nth g 137, nth g 138, nth g 139, nth g 140] 21 (.int .i64 b_2)) 22 (.int .i64 a_1)) 23 (.int .i64 (IntKind.wrap .i64 (b_2 - a_1)))) 12 (.int .i64 (IntKind.wrap .i64 (b_2 - a_1)))) 24 (.int .i64 (IntKind.wrap .i64 (b_2 - a_1)))) 25 (.bool (decide ((IntKind.wrap .i64 (b_2 - a_1)) ≤ (12 : Int))))) w) (fun m a_1 b_2 limit_3 wasBalanced_10 wasPartitioned_11 g w hm hI => ⟨m, hm, a_1, b_2, limit_3, wasBalanced_10, wasPartitioned_11, g, rfl, hI⟩))
theorem calls (R : Ending → World → Prop) (data_0a : Option Addr) (data_0b : Nat) (data_0c : Nat) (a_1 : Int) (b_2 : Int) (limit_3 : Int) (cmp_4 : Value) (w : World) (h : vc R data_0a data_0b data_0c a_1 b_2 limit_3 cmp_4 w) : Calls Tryz.prog 235 #[.slice data_0a data_0b data_0c, .int .i64 a_1, .int .i64 b_2, .int .i64 limit_3, cmp_4] w R :=
  calls_V Tryz.func235 (Eq.mpr (by kernel_rfl) (h (fun data_0a data_0b data_0c a_1 b_2 limit_3 cmp_4 wasBalanced_10 wasPartitioned_11 g w => atV Tryz.prog (bodyC Tryz.f235) [true, true, false] (retQ Tryz.prog Tryz.f235 R) [.slice data_0a data_0b data_0c, .int .i64 a_1, .int .i64 b_2, .int .i64 limit_3, cmp_4, nth g 0, nth g 1, nth g 2, nth g 3, nth g 4, .bool wasBalanced_10, .bool wasPartitioned_11, nth g 5, nth g 6, nth g 7, nth g 8, nth g 9, nth g 10, nth g 11, nth g 12, nth g 13, nth g 14, nth g 15, nth g 16, nth g 17, nth g 18, nth g 19, nth g 20, nth g 21, nth g 22, nth g 23, nth g 24, nth g 25, nth g 26, nth g 27, nth g 28, nth g 29, nth g 30, nth g 31, nth g 32, nth g 33, nth g 34, nth g 35, nth g 36, nth g 37, nth g 38, nth g 39, nth g 40, nth g 41, nth g 42, nth g 43, nth g 44, nth g 45, nth g 46, nth g 47, nth g 48, nth g 49, nth g 50, nth g 51, nth g 52, nth g 53, nth g 54, nth g 55, nth g 56, nth g 57, nth g 58, nth g 59, nth g 60, nth g 61, nth g 62, nth g 63, nth g 64, nth g 65, nth g 66, nth g 67, nth g 68, nth g 69, nth g 70, nth g 71, nth g 72, nth g 73, nth g 74, nth g 75, nth g 76, nth g 77, nth g 78, nth g 79, nth g 80, nth g 81, nth g 82, nth g 83, nth g 84, nth g 85, nth g 86, nth g 87, nth g 88, nth g 89, nth g 90, nth g 91, nth g 92, nth g 93, nth g 94, nth g 95, nth g 96, nth g 97, nth g 98, nth g 99, nth g 100, nth g 101, nth g 102, nth g 103, nth g 104, nth g 105, nth g 106, nth g 107, nth g 108, nth g 109, nth g 110, nth g 111, nth g 112, nth g 113, nth g 114, nth g 115, nth g 116, nth g 117, nth g 118, nth g 119, nth g 120, nth g 121, nth g 122, nth g 123, nth g 124, nth g 125, nth g 126, nth g 127, nth g 128, nth g 129, nth g 130, nth g 131, nth g 132, nth g 133, nth g 134, nth g 135, nth g 136, nth g 137, nth g 138, nth g 139, nth g 140] w) (fun data_0a data_0b data_0c a_1 b_2 limit_3 cmp_4 wasBalanced_10 wasPartitioned_11 g w h => at0 R data_0a data_0b data_0c a_1 b_2 limit_3 cmp_4 wasBalanced_10 wasPartitioned_11 g w h)))
end slices_pdqsortCmpFunc_api_Pair
end Go.Proofs.YtcofknlcdgidpaaGreatDoor
/-! ## GslicesinsertionSortCmpFuncapiPair -/
namespace Go.Proofs.YtcofknlcdgidpaaGreatDoor
open Go Go.Proofs.YtcofknlcdgidpaaGreatDoor.VC
set_option linter.unusedVariables false
set_option maxRecDepth 100000
set_option maxHeartbeats 0

/-! ### slices.insertionSortCmpFunc[postroom/api.Pair]: function 241 -/
namespace slices_insertionSortCmpFunc_api_Pair
def t2 (R : Ending → World → Prop) (Back0 : Int → List Value → World → Prop) (Back1 : Int → List Value → World → Prop)  (data_0a : Option Addr) (data_0b : Nat) (data_0c : Nat) (a_1 : Int) (b_2 : Int) (cmp_3 : Value) (i_8 : Int) (j_9 : Int) (g : List Value) (w : World) : Prop := ∃ S1 : World → Prop, (∀ w2 : World, w2.heap = w.heap → w2.tape = w.tape → w2.os = w.os → w2.output = w.output → S1 w2 ∧ (boolV (decide (j_9 > a_1)) (someV data_0a (fun p3 => (0 ≤ j_9 ∧ j_9 < (data_0b : Nat)) ∧ (∃ s4 : ByteArray, ∃ s5 : ByteArray, (∀ w, S1 w → w.cell? (p3.add (j_9.toNat * 2)) = some (.string s4) ∧ w.cell? ((p3.add (j_9.toNat * 2)).add 1) = some (.string s5)) ∧ (someV data_0a (fun p6 => (0 ≤ (IntKind.wrap .i64 (j_9 - 1)) ∧ (IntKind.wrap .i64 (j_9 - 1)) < (data_0b : Nat)) ∧ (∃ s7 : ByteArray, ∃ s8 : ByteArray, (∀ w, S1 w → w.cell? (p6.add ((IntKind.wrap .i64 (j_9 - 1)).toNat * 2)) = some (.string s7) ∧ w.cell? ((p6.add ((IntKind.wrap .i64 (j_9 - 1)).toNat * 2)).add 1) = some (.string s8)) ∧ (funcV cmp_3 (fun g11 first12 captured13 => goodCall Tryz.prog g11 (Calls Tryz.prog g11 (first12.toList ++ ([.agg #[.string s4, .string s5], .agg #[.string s7, .string s8]] : List Value) ++ captured13.toList).toArray w2 (fun e9 w10 => ∃ x14 : Int, e9 = .returned (.int .i64 x14) ∧ (S1 w10 ∧ (boolV (decide (x14 < (0 : Int))) (∃ S15 : World → Prop, (∀ w16 : World, w16.heap = w10.heap → w16.tape = w10.tape → w16.os = w10.os → w16.output = w10.output → S15 w16 ∧ (someV data_0a (fun p17 => (0 ≤ (IntKind.wrap .i64 (j_9 - 1)) ∧ (IntKind.wrap .i64 (j_9 - 1)) < (data_0b : Nat)) ∧ (∃ s18 : ByteArray, ∃ s19 : ByteArray, (∀ w, S15 w → w.cell? (p17.add ((IntKind.wrap .i64 (j_9 - 1)).toNat * 2)) = some (.string s18) ∧ w.cell? ((p17.add ((IntKind.wrap .i64 (j_9 - 1)).toNat * 2)).add 1) = some (.string s19)) ∧ (someV data_0a (fun p20 => (0 ≤ j_9 ∧ j_9 < (data_0b : Nat)) ∧ (∃ s21 : ByteArray, ∃ s22 : ByteArray, (∀ w, S15 w → w.cell? (p20.add (j_9.toNat * 2)) = some (.string s21) ∧ w.cell? ((p20.add (j_9.toNat * 2)).add 1) = some (.string s22)) ∧ (someV data_0a (fun p23 => (0 ≤ j_9 ∧ j_9 < (data_0b : Nat)) ∧ (Writable w16 (p23.add (j_9.toNat * 2)) 2 ∧ ∀ w24 : World, w24 = World.setCell (World.setCell w16 (p23.add (j_9.toNat * 2)) (.string s18)) ((p23.add (j_9.toNat * 2)).add 1) (.string s19) → S15 w24 ∧ (someV data_0a (fun p25 => (0 ≤ (IntKind.wrap .i64 (j_9 - 1)) ∧ (IntKind.wrap .i64 (j_9 - 1)) < (data_0b : Nat)) ∧ (Writable w24 (p25.add ((IntKind.wrap .i64 (j_9 - 1)).toNat * 2)) 2 ∧ ∀ w26 : World, w26 = World.setCell (World.setCell w24 (p25.add ((IntKind.wrap .i64 (j_9 - 1)).toNat * 2)) (.string s21)) ((p25.add ((IntKind.wrap .i64 (j_9 - 1)).toNat * 2)).add 1) (.string s22) → Back1 (IntKind.wrap .i64 (j_9 - 1)) [nth g 0, nth g 1, nth g 2, nth g 3, nth g 4, nth g 5, nth g 6, nth g 7, nth g 8, nth g 9, nth g 10, nth g 11, .int .i64 j_9, .int .i64 a_1, .bool (decide (j_9 > a_1)), .bool true, cmp_3, .slice data_0a data_0b data_0c, .int .i64 j_9, .pointer (some (p3.add (j_9.toNat * 2))), .agg #[.string s4, .string s5], .slice data_0a data_0b data_0c, .int .i64 j_9, .int .i64 (IntKind.wrap .i64 (j_9 - 1)), .pointer (some (p6.add ((IntKind.wrap .i64 (j_9 - 1)).toNat * 2))), .agg #[.string s7, .string s8], .int .i64 x14, .bool (decide (x14 < (0 : Int))), .bool (decide (x14 < (0 : Int))), .int .i64 j_9, .int .i64 (IntKind.wrap .i64 (j_9 - 1)), .slice data_0a data_0b data_0c, .int .i64 j_9, .slice data_0a data_0b data_0c, .int .i64 j_9, .int .i64 (IntKind.wrap .i64 (j_9 - 1)), .slice data_0a data_0b data_0c, .int .i64 j_9, .int .i64 (IntKind.wrap .i64 (j_9 - 1)), .pointer (some (p17.add ((IntKind.wrap .i64 (j_9 - 1)).toNat * 2))), .agg #[.string s18, .string s19], .slice data_0a data_0b data_0c, .int .i64 j_9, .pointer (some (p20.add (j_9.toNat * 2))), .agg #[.string s21, .string s22], .pointer (some (p23.add (j_9.toNat * 2))), .pointer (some (p25.add ((IntKind.wrap .i64 (j_9 - 1)).toNat * 2)))] w26)))))))))))))) (Back0 (IntKind.wrap .i64 (i_8 + 1)) [nth g 0, nth g 1, nth g 2, nth g 3, .int .i64 j_9, nth g 4, nth g 5, nth g 6, nth g 7, nth g 8, .int .i64 i_8, .int .i64 (IntKind.wrap .i64 (i_8 + 1)), nth g 11, .int .i64 j_9, .int .i64 a_1, .bool (decide (j_9 > a_1)), .bool true, cmp_3, .slice data_0a data_0b data_0c, .int .i64 j_9, .pointer (some (p3.add (j_9.toNat * 2))), .agg #[.string s4, .string s5], .slice data_0a data_0b data_0c, .int .i64 j_9, .int .i64 (IntKind.wrap .i64 (j_9 - 1)), .pointer (some (p6.add ((IntKind.wrap .i64 (j_9 - 1)).toNat * 2))), .agg #[.string s7, .string s8], .int .i64 x14, .bool (decide (x14 < (0 : Int))), .bool (decide (x14 < (0 : Int))), nth g 29, nth g 30, nth g 31, nth g 32, nth g 33, nth g 34, nth g 35, nth g 36, nth g 37, nth g 38, nth g 39, nth g 40, nth g 41, nth g 42, nth g 43, nth g 44, nth g 45, nth g 46] w10))))))))))))) (Back0 (IntKind.wrap .i64 (i_8 + 1)) [nth g 0, nth g 1, nth g 2, nth g 3, .int .i64 j_9, nth g 4, nth g 5, nth g 6, nth g 7, nth g 8, .int .i64 i_8, .int .i64 (IntKind.wrap .i64 (i_8 + 1)), nth g 11, .int .i64 j_9, .int .i64 a_1, .bool (decide (j_9 > a_1)), .bool false, undef, undef, undef, undef, undef, undef, undef, undef, undef, undef, undef, undef, .bool false, nth g 29, nth g 30, nth g 31, nth g 32, nth g 33, nth g 34, nth g 35, nth g 36, nth g 37, nth g 38, nth g 39, nth g 40, nth g 41, nth g 42, nth g 43, nth g 44, nth g 45, nth g 46] w2)))
def W1 (R : Ending → World → Prop) (Back0 : Int → List Value → World → Prop) (data_0a : Option Addr) (data_0b : Nat) (data_0c : Nat) (a_1 : Int) (b_2 : Int) (cmp_3 : Value) (i_8 : Int) (j_9 : Int) (w : World) : Prop := ∃ (I : Nat → Int → World → Prop) (n : Nat), I n j_9 w ∧ ∀ (n : Nat) (j_9 : Int) (g : List Value) (w : World), I n j_9 w → ∀ (Back1 : Int → List Value → World → Prop), (∀ (m : Nat) (j_9 : Int) (g : List Value) (w : World), m < n → I m j_9 w → Back1 j_9 g w) → t2 R Back0 Back1  data_0a data_0b data_0c a_1 b_2 cmp_3 i_8 j_9 g w
def t1 (R : Ending → World → Prop)  (Back0 : Int → List Value → World → Prop) (L1 : Int → Int → List Value → World → Prop) (data_0a : Option Addr) (data_0b : Nat) (data_0c : Nat) (a_1 : Int) (b_2 : Int) (cmp_3 : Value) (i_8 : Int) (g : List Value) (w : World) : Prop := boolV (decide (i_8 < b_2)) (L1 i_8 i_8 [nth g 0, nth g 1, nth g 2, nth g 3, nth g 5, nth g 6, .int .i64 i_8, .int .i64 b_2, .bool (decide (i_8 < b_2)), nth g 10, nth g 11, .int .i64 i_8, nth g 13, nth g 14, nth g 15, nth g 16, nth g 17, nth g 18, nth g 19, nth g 20, nth g 21, nth g 22, nth g 23, nth g 24, nth g 25, nth g 26, nth g 27, nth g 28, nth g 29, nth g 30, nth g 31, nth g 32, nth g 33, nth g 34, nth g 35, nth g 36, nth g 37, nth g 38, nth g 39, nth g 40, nth g 41, nth g 42, nth g 43, nth g 44, nth g 45, nth g 46, nth g 47] w) (R (.returned (.tuple #[])) w)
def W0 (R : Ending → World → Prop)  (data_0a : Option Addr) (data_0b : Nat) (data_0c : Nat) (a_1 : Int) (b_2 : Int) (cmp_3 : Value) (i_8 : Int) (w : World) : Prop := ∃ (I : Nat → Int → World → Prop) (n : Nat), I n i_8 w ∧ ∀ (n : Nat) (i_8 : Int) (g : List Value) (w : World), I n i_8 w → ∀ (Back0 : Int → List Value → World → Prop), (∀ (m : Nat) (i_8 : Int) (g : List Value) (w : World), m < n → I m i_8 w → Back0 i_8 g w) → ∀ (L1 : Int → Int → List Value → World → Prop), (∀ i_8 j_9 g w, W1 R Back0 data_0a data_0b data_0c a_1 b_2 cmp_3 i_8 j_9 w → L1 i_8 j_9 g w) → t1 R  Back0 L1 data_0a data_0b data_0c a_1 b_2 cmp_3 i_8 g w
def t0 (R : Ending → World → Prop) (L0 : (Option Addr) → Nat → Nat → Int → Int → Value → Int → List Value → World → Prop) (data_0a : Option Addr) (data_0b : Nat) (data_0c : Nat) (a_1 : Int) (b_2 : Int) (cmp_3 : Value) (w : World) : Prop := L0 data_0a data_0b data_0c a_1 b_2 cmp_3 (IntKind.wrap .i64 (a_1 + 1)) [undef, undef, undef, undef, undef, .int .i64 a_1, .int .i64 (IntKind.wrap .i64 (a_1 + 1)), undef, undef, undef, undef, undef, undef, undef, undef, undef, undef, undef, undef, undef, undef, undef, undef, undef, undef, undef, undef, undef, undef, undef, undef, undef, undef, undef, undef, undef, undef, undef, undef, undef, undef, undef, undef, undef, undef, undef, undef, undef] w
def vc (R : Ending → World → Prop) (data_0a : Option Addr) (data_0b : Nat) (data_0c : Nat) (a_1 : Int) (b_2 : Int) (cmp_3 : Value) (w : World) : Prop := ∀ (L0 : (Option Addr) → Nat → Nat → Int → Int → Value → Int → List Value → World → Prop), (∀ data_0a data_0b data_0c a_1 b_2 cmp_3 i_8 g w, W0 R data_0a data_0b data_0c a_1 b_2 cmp_3 i_8 w → L0 data_0a data_0b data_0c a_1 b_2 cmp_3 i_8 g w) → t0 R L0 data_0a data_0b data_0c a_1 b_2 cmp_3 w
theorem at1 (R : Ending → World → Prop) (J0 : Nat → List Value → World → Prop) (n0 : Nat) (data_0a : Option Addr) (data_0b : Nat) (data_0c : Nat) (a_1 : Int) (b_2 : Int) (cmp_3 : Value) (i_8 : Int) (j_9 : Int) (g : List Value) (w : World) (h : W1 R (fun i_8 g w => (backQ J0 n0 (ctxQ Tryz.prog (bodyC Tryz.f241) [true, false] (retQ Tryz.prog Tryz.f241 R))) .normal [.slice data_0a data_0b data_0c, .int .i64 a_1, .int .i64 b_2, cmp_3, nth g 0, nth g 1, nth g 2, nth g 3, .int .i64 i_8, nth g 4, nth g 5, nth g 6, nth g 7, nth g 8, nth g 9, nth g 10, nth g 11, nth g 12, nth g 13, nth g 14, nth g 15, nth g 16, nth g 17, nth g 18, nth g 19, nth g 20, nth g 21, nth g 22, nth g 23, nth g 24, nth g 25, nth g 26, nth g 27, nth g 28, nth g 29, nth g 30, nth g 31, nth g 32, nth g 33, nth g 34, nth g 35, nth g 36, nth g 37, nth g 38, nth g 39, nth g 40, nth g 41, nth g 42, nth g 43, nth g 44, nth g 45, nth g 46, nth g 47] w) data_0a data_0b data_0c a_1 b_2 cmp_3 i_8 j_9 w) : atV Tryz.prog (loopC (bodyC Tryz.f241) [true, false]) [true, false, false, true, false] (backQ J0 n0 (ctxQ Tryz.prog (bodyC Tryz.f241) [true, false] (retQ Tryz.prog Tryz.f241 R))) [.slice data_0a data_0b data_0c, .int .i64 a_1, .int .i64 b_2, cmp_3, nth g 0, nth g 1, nth g 2, nth g 3, .int .i64 i_8, .int .i64 j_9, nth g 4, nth g 5, nth g 6, nth g 7, nth g 8, nth g 9, nth g 10, nth g 11, nth g 12, nth g 13, nth g 14, nth g 15, nth g 16, nth g 17, nth g 18, nth g 19, nth g 20, nth g 21, nth g 22, nth g 23, nth g 24, nth g 25, nth g 26, nth g 27, nth g 28, nth g 29, nth g 30, nth g 31, nth g 32, nth g 33, nth g 34, nth g 35, nth g 36, nth g 37, nth g 38, nth g 39, nth g 40, nth g 41, nth g 42, nth g 43, nth g 44, nth g 45, nth g 46] w := by
  obtain ⟨I, n0, h0, hs⟩ := h
  refine atV_loop (by kernel_rfl) (fun n s w => ∃ (j_9 : Int) (g : List Value), s = [.slice data_0a data_0b data_0c, .int .i64 a_1, .int .i64 b_2, cmp_3, nth g 0, nth g 1, nth g 2, nth g 3, .int .i64 i_8, .int .i64 j_9, nth g 4, nth g 5, nth g 6, nth g 7, nth g 8, nth g 9, nth g 10, nth g 11, nth g 12, nth g 13, nth g 14, nth g 15, nth g 16, nth g 17, nth g 18, nth g 19, nth g 20, nth g 21, nth g 22, nth g 23, nth g 24, nth g 25, nth g 26, nth g 27, nth g 28, nth g 29, nth g 30, nth g 31, nth g 32, nth g 33, nth g 34, nth g 35, nth g 36, nth g 37, nth g 38, nth g 39, nth g 40, nth g 41, nth g 42, nth g 43, nth g 44, nth g 45, nth g 46] ∧ I n j_9 w) n0 ⟨_, _, rfl, h0⟩ ?_
  rintro n s w ⟨j_9, g, rfl, hI⟩
  exact Eq.mpr (by kernel_rfl) (hs n j_9 g w hI (fun j_9 g w => (backQ (fun n s w => ∃ (j_9 : Int) (g : List Value), s = [.slice data_0a data_0b data_0c, .int .i64 a_1, .int .i64 b_2, cmp_3, nth g 0, nth g 1, nth g 2, nth g 3, .int .i64 i_8, .int .i64 j_9, nth g 4, nth g 5, nth g 6, nth g 7, nth g 8, nth g 9, nth g 10, nth g 11, nth g 12, nth g 13, nth g 14, nth g 15, nth g 16, nth g 17, nth g 18, nth g 19, nth g 20, nth g 21, nth g 22, nth g 23, nth g 24, nth g 25, nth g 26, nth g 27, nth g 28, nth g 29, nth g 30, nth g 31, nth g 32, nth g 33, nth g 34, nth g 35, nth g 36, nth g 37, nth g 38, nth g 39, nth g 40, nth g 41, nth g 42, nth g 43, nth g 44, nth g 45, nth g 46] ∧ I n j_9 w) n (ctxQ Tryz.prog (loopC (bodyC Tryz.f241) [true, false]) [true, false, false, true, false] (backQ J0 n0 (ctxQ Tryz.prog (bodyC Tryz.f241) [true, false] (retQ Tryz.prog Tryz.f241 R))))) .normal [.slice data_0a data_0b data_0c, .int .i64 a_1, .int .i64 b_2, cmp_3, nth g 0, nth g 1, nth g 2, nth g 3, .int .i64 i_8, .int .i64 j_9, nth g 4, nth g 5, nth g 6, nth g 7, nth g 8, nth g 9, nth g 10, nth g 11, nth g 12, nth g 13, nth g 14, nth g 15, nth g 16, nth g 17, nth g 18, nth g 19, nth g 20, nth g 21, nth g 22, nth g 23, nth g 24, nth g 25, nth g 26, nth g 27, nth g 28, nth g 29, nth g 30, nth g 31, nth g 32, nth g 33, nth g 34, nth g 35, nth g 36, nth g 37, nth g 38, nth g 39, nth g 40, nth g 41, nth g 42, nth g 43, nth g 44, nth g 45, nth g 46] w) (fun m j_9 g w hm hI => ⟨m, hm, j_9, g, rfl, hI⟩))
theorem at0 (R : Ending → World → Prop) (data_0a : Option Addr) (data_0b : Nat) (data_0c : Nat) (a_1 : Int) (b_2 : Int) (cmp_3 : Value) (i_8 : Int) (g : List Value) (w : World) (h : W0 R  data_0a data_0b data_0c a_1 b_2 cmp_3 i_8 w) : atV Tryz.prog (bodyC Tryz.f241) [true, false] (retQ Tryz.prog Tryz.f241 R) [.slice data_0a data_0b data_0c, .int .i64 a_1, .int .i64 b_2, cmp_3, nth g 0, nth g 1, nth g 2, nth g 3, .int .i64 i_8, nth g 4, nth g 5, nth g 6, nth g 7, nth g 8, nth g 9, nth g 10, nth g 11, nth g 12, nth g 13, nth g 14, nth g 15, nth g 16, nth g 17, nth g 18, nth g 19, nth g 20, nth g 21, nth g 22, nth g 23, nth g 24, nth g 25, nth g 26, nth g 27, nth g 28, nth g 29, nth g 30, nth g 31, nth g 32, nth g 33, nth g 34, nth g 35, nth g 36, nth g 37, nth g 38, nth g 39, nth g 40, nth g 41, nth g 42, nth g 43, nth g 44, nth g 45, nth g 46, nth g 47] w := by
  obtain ⟨I, n0, h0, hs⟩ := h
  refine atV_loop (by kernel_rfl) (fun n s w => ∃ (i_8 : Int) (g : List Value), s = [.slice data_0a data_0b data_0c, .int .i64 a_1, .int .i64 b_2, cmp_3, nth g 0, nth g 1, nth g 2, nth g 3, .int .i64 i_8, nth g 4, nth g 5, nth g 6, nth g 7, nth g 8, nth g 9, nth g 10, nth g 11, nth g 12, nth g 13, nth g 14, nth g 15, nth g 16, nth g 17, nth g 18, nth g 19, nth g 20, nth g 21, nth g 22, nth g 23, nth g 24, nth g 25, nth g 26, nth g 27, nth g 28, nth g 29, nth g 30, nth g 31, nth g 32, nth g 33, nth g 34, nth g 35, nth g 36, nth g 37, nth g 38, nth g 39, nth g 40, nth g 41, nth g 42, nth g 43, nth g 44, nth g 45, nth g 46, nth g 47] ∧ I n i_8 w) n0 ⟨_, _, rfl, h0⟩ ?_
  rintro n s w ⟨i_8, g, rfl, hI⟩
  exact Eq.mpr (by kernel_rfl) (hs n i_8 g w hI (fun i_8 g w => (backQ (fun n s w => ∃ (i_8 : Int) (g : List Value), s = [.slice data_0a data_0b data_0c, .int .i64 a_1, .int .i64 b_2, cmp_3, nth g 0, nth g 1, nth g 2, nth g 3, .int .i64 i_8, nth g 4, nth g 5, nth g 6, nth g 7, nth g 8, nth g 9, nth g 10, nth g 11, nth g 12, nth g 13, nth g 14, nth g 15, nth g 16, nth g 17, nth g 18, nth g 19, nth g 20, nth g 21, nth g 22, nth g 23, nth g 24, nth g 25, nth g 26, nth g 27, nth g 28, nth g 29, nth g 30, nth g 31, nth g 32, nth g 33, nth g 34, nth g 35, nth g 36, nth g 37, nth g 38, nth g 39, nth g 40, nth g 41, nth g 42, nth g 43, nth g 44, nth g 45, nth g 46, nth g 47] ∧ I n i_8 w) n (ctxQ Tryz.prog (bodyC Tryz.f241) [true, false] (retQ Tryz.prog Tryz.f241 R))) .normal [.slice data_0a data_0b data_0c, .int .i64 a_1, .int .i64 b_2, cmp_3, nth g 0, nth g 1, nth g 2, nth g 3, .int .i64 i_8, nth g 4, nth g 5, nth g 6, nth g 7, nth g 8, nth g 9, nth g 10, nth g 11, nth g 12, nth g 13, nth g 14, nth g 15, nth g 16, nth g 17, nth g 18, nth g 19, nth g 20, nth g 21, nth g 22, nth g 23, nth g 24, nth g 25, nth g 26, nth g 27, nth g 28, nth g 29, nth g 30, nth g 31, nth g 32, nth g 33, nth g 34, nth g 35, nth g 36, nth g 37, nth g 38, nth g 39, nth g 40, nth g 41, nth g 42, nth g 43, nth g 44, nth g 45, nth g 46, nth g 47] w) (fun m i_8 g w hm hI => ⟨m, hm, i_8, g, rfl, hI⟩) (fun i_8 j_9 g w => atV Tryz.prog (loopC (bodyC Tryz.f241) [true, false]) [true, false, false, true, false] (backQ (fun n s w => ∃ (i_8 : Int) (g : List Value), s = [.slice data_0a data_0b data_0c, .int .i64 a_1, .int .i64 b_2, cmp_3, nth g 0, nth g 1, nth g 2, nth g 3, .int .i64 i_8, nth g 4, nth g 5, nth g 6, nth g 7, nth g 8, nth g 9, nth g 10, nth g 11, nth g 12, nth g 13, nth g 14, nth g 15, nth g 16, nth g 17, nth g 18, nth g 19, nth g 20, nth g 21, nth g 22, nth g 23, nth g 24, nth g 25, nth g 26, nth g 27, nth g 28, nth g 29, nth g 30, nth g 31, nth g 32, nth g 33, nth g 34, nth g 35, nth g 36, nth g 37, nth g 38, nth g 39, nth g 40, nth g 41, nth g 42, nth g 43, nth g 44, nth g 45, nth g 46, nth g 47] ∧ I n i_8 w) n (ctxQ Tryz.prog (bodyC Tryz.f241) [true, false] (retQ Tryz.prog Tryz.f241 R))) [.slice data_0a data_0b data_0c, .int .i64 a_1, .int .i64 b_2, cmp_3, nth g 0, nth g 1, nth g 2, nth g 3, .int .i64 i_8, .int .i64 j_9, nth g 4, nth g 5, nth g 6, nth g 7, nth g 8, nth g 9, nth g 10, nth g 11, nth g 12, nth g 13, nth g 14, nth g 15, nth g 16, nth g 17, nth g 18, nth g 19, nth g 20, nth g 21, nth g 22, nth g 23, nth g 24, nth g 25, nth g 26, nth g 27, nth g 28, nth g 29, nth g 30, nth g 31, nth g 32, nth g 33, nth g 34, nth g 35, nth g 36, nth g 37, nth g 38, nth g 39, nth g 40, nth g 41, nth g 42, nth g 43, nth g 44, nth g 45, nth g 46] w) (fun i_8 j_9 g w h => at1 R (fun n s w => ∃ (i_8 : Int) (g : List Value), s = [.slice data_0a data_0b data_0c, .int .i64 a_1, .int .i64 b_2, cmp_3, nth g 0, nth g 1, nth g 2, nth g 3, .int .i64 i_8, nth g 4, nth g 5, nth g 6, nth g 7, nth g 8, nth g 9, nth g 10, nth g 11, nth g 12, nth g 13, nth g 14, nth g 15, nth g 16, nth g 17, nth g 18, nth g 19, nth g 20, nth g 21, nth g 22, nth g 23, nth g 24, nth g 25, nth g 26, nth g 27, nth g 28, nth g 29, nth g 30, nth g 31, nth g 32, nth g 33, nth g 34, nth g 35, nth g 36, nth g 37, nth g 38, nth g 39, nth g 40, nth g 41, nth g 42, nth g 43, nth g 44, nth g 45, nth g 46, nth g 47] ∧ I n i_8 w) n  data_0a data_0b data_0c a_1 b_2 cmp_3 i_8 j_9 g w h))
theorem calls (R : Ending → World → Prop) (data_0a : Option Addr) (data_0b : Nat) (data_0c : Nat) (a_1 : Int) (b_2 : Int) (cmp_3 : Value) (w : World) (h : vc R data_0a data_0b data_0c a_1 b_2 cmp_3 w) : Calls Tryz.prog 241 #[.slice data_0a data_0b data_0c, .int .i64 a_1, .int .i64 b_2, cmp_3] w R :=
  calls_V Tryz.func241 (Eq.mpr (by kernel_rfl) (h (fun data_0a data_0b data_0c a_1 b_2 cmp_3 i_8 g w => atV Tryz.prog (bodyC Tryz.f241) [true, false] (retQ Tryz.prog Tryz.f241 R) [.slice data_0a data_0b data_0c, .int .i64 a_1, .int .i64 b_2, cmp_3, nth g 0, nth g 1, nth g 2, nth g 3, .int .i64 i_8, nth g 4, nth g 5, nth g 6, nth g 7, nth g 8, nth g 9, nth g 10, nth g 11, nth g 12, nth g 13, nth g 14, nth g 15, nth g 16, nth g 17, nth g 18, nth g 19, nth g 20, nth g 21, nth g 22, nth g 23, nth g 24, nth g 25, nth g 26, nth g 27, nth g 28, nth g 29, nth g 30, nth g 31, nth g 32, nth g 33, nth g 34, nth g 35, nth g 36, nth g 37, nth g 38, nth g 39, nth g 40, nth g 41, nth g 42, nth g 43, nth g 44, nth g 45, nth g 46, nth g 47] w) (fun data_0a data_0b data_0c a_1 b_2 cmp_3 i_8 g w h => at0 R data_0a data_0b data_0c a_1 b_2 cmp_3 i_8 g w h)))
end slices_insertionSortCmpFunc_api_Pair
end Go.Proofs.YtcofknlcdgidpaaGreatDoor
/-! ## GlabelorderedapiPairstring -/
namespace Go.Proofs.YtcofknlcdgidpaaGreatDoor
open Go Go.Proofs.YtcofknlcdgidpaaGreatDoor.VC
set_option linter.unusedVariables false
set_option maxRecDepth 100000
set_option maxHeartbeats 0

/-! ### postroom/label.ordered[postroom/api.Pair,string]: function 134 -/
namespace label_ordered_api_Pair_string
def t0 (R : Ending → World → Prop)  (l_0a : Option Addr) (l_0b : Nat) (l_0c : Nat) (key_1 : Value) (w : World) : Prop := ∀ (b1 : Nat) (w2 : World), b1 = w.heap.size → w2 = World.alloc w (.cells (Value.cells key_1) 228) → Calls Tryz.prog 186 #[.slice l_0a l_0b l_0c] w2 (fun e3 w4 => ∃ v5 : Value, e3 = .returned v5 ∧ (Calls Tryz.prog 185 #[v5, .func (.func 187) #[] #[.pointer (some ⟨b1, 0, none⟩)]] w4 (fun e6 w7 => ∃ (a8 : Option Addr) (n9 c10 : Nat), e6 = .returned (.slice a8 n9 c10) ∧ (R (.returned (.slice a8 n9 c10)) w7))))
def vc (R : Ending → World → Prop) (l_0a : Option Addr) (l_0b : Nat) (l_0c : Nat) (key_1 : Value) (w : World) : Prop := t0 R  l_0a l_0b l_0c key_1 w
theorem calls (R : Ending → World → Prop) (l_0a : Option Addr) (l_0b : Nat) (l_0c : Nat) (key_1 : Value) (w : World) (h : vc R l_0a l_0b l_0c key_1 w) : Calls Tryz.prog 134 #[.slice l_0a l_0b l_0c, key_1] w R :=
  calls_V Tryz.func134 (Eq.mpr (by kernel_rfl) (h))
end label_ordered_api_Pair_string
end Go.Proofs.YtcofknlcdgidpaaGreatDoor
/-! ## GlabelCanon -/
namespace Go.Proofs.YtcofknlcdgidpaaGreatDoor
open Go Go.Proofs.YtcofknlcdgidpaaGreatDoor.VC
set_option linter.unusedVariables false
set_option maxRecDepth 100000
set_option maxHeartbeats 0

/-! ### postroom/label.Canon: function 96 -/
namespace label_Canon
def t0 (R : Ending → World → Prop)  (l_0a : Option Addr) (l_0b : Nat) (l_0c : Nat) (w : World) : Prop := Calls Tryz.prog 113 #[.slice l_0a l_0b l_0c] w (fun e1 w2 => ∃ x3 : Int, e1 = .returned (.int .i64 x3) ∧ (boolV (x3 != (0 : Int)) (R (.returned (.tuple #[.slice none 0 0, .int .i64 x3])) w2) (Calls Tryz.prog 134 #[.slice l_0a l_0b l_0c, .func (.func 135) #[] #[]] w2 (fun e4 w5 => ∃ (a6 : Option Addr) (n7 c8 : Nat), e4 = .returned (.slice a6 n7 c8) ∧ (R (.returned (.tuple #[.slice a6 n7 c8, .int .i64 0])) w5)))))
def vc (R : Ending → World → Prop) (l_0a : Option Addr) (l_0b : Nat) (l_0c : Nat) (w : World) : Prop := t0 R  l_0a l_0b l_0c w
theorem calls (R : Ending → World → Prop) (l_0a : Option Addr) (l_0b : Nat) (l_0c : Nat) (w : World) (h : vc R l_0a l_0b l_0c w) : Calls Tryz.prog 96 #[.slice l_0a l_0b l_0c] w R :=
  calls_V Tryz.func96 (Eq.mpr (by kernel_rfl) (h))
end label_Canon
end Go.Proofs.YtcofknlcdgidpaaGreatDoor
/-! ## GlabelPut -/
namespace Go.Proofs.YtcofknlcdgidpaaGreatDoor
open Go Go.Proofs.YtcofknlcdgidpaaGreatDoor.VC
set_option linter.unusedVariables false
set_option maxRecDepth 100000
set_option maxHeartbeats 0

/-! ### postroom/label.Put: function 81 -/
namespace label_Put
def t1 (R : Ending → World → Prop)  (Back0 : Int → List Value → World → Prop)  (b_6 : Nat) (x_22a : Option Addr) (x_22b : Nat) (x_22c : Nat) (x_23 : Int) (x_24 : Int) (g : List Value) (w : World) : Prop := boolV (decide (x_24 < x_23)) (someV x_22a (fun p1 => (0 ≤ x_24 ∧ x_24 < (x_22b : Nat)) ∧ (∃ s2 : ByteArray, ∃ s3 : ByteArray, (w.cell? (p1.add (x_24.toNat * 2)) = some (.string s2) ∧ w.cell? ((p1.add (x_24.toNat * 2)).add 1) = some (.string s3)) ∧ (∀ (b4 : Nat) (w5 : World), b4 = w.heap.size → w5 = World.alloc w (.cells #[.string ByteArray.empty, .string ByteArray.empty] 112) → Writable w5 ⟨b4, 0, none⟩ 2 ∧ ∀ w6 : World, w6 = World.setCell (World.setCell w5 ⟨b4, 0, none⟩ (.string s2)) ⟨b4, 1, none⟩ (.string s3) → ∃ S7 : World → Prop, (∀ w8 : World, w8.heap = w6.heap → w8.tape = w6.tape → w8.os = w6.os → w8.output = w6.output → S7 w8 ∧ (∃ s9 : ByteArray, (∀ w, S7 w → w.cell? ⟨b4, 0, none⟩ = some (.string s9)) ∧ (∃ s10 : ByteArray, (∀ w, S7 w → w.cell? ⟨b4, 1, none⟩ = some (.string s10)) ∧ (Calls Tryz.prog 117 #[.string s9] w8 (fun e11 w12 => ∃ s13 : ByteArray, e11 = .returned (.string s13) ∧ (S7 w12 ∧ (Calls Tryz.prog 117 #[.string s10] w12 (fun e14 w15 => ∃ s16 : ByteArray, e14 = .returned (.string s16) ∧ (S7 w15 ∧ (s13.size + s16.size ≤ 9223372036854775807 ∧ (Calls Tryz.prog 115 #[.pointer (some ⟨b_6, 0, none⟩), .string (s13 ++ s16)] w15 (fun e17 w18 => ∃ x19 : Int, ∃ v20 : Value, e17 = .returned (.tuple #[.int .i64 x19, v20]) ∧ (Back0 (IntKind.wrap .i64 (x_24 + 1)) [nth g 0, nth g 1, nth g 2, nth g 3, nth g 4, nth g 5, nth g 6, .pointer (some ⟨b4, 0, none⟩), nth g 8, nth g 9, nth g 10, nth g 11, nth g 12, nth g 13, nth g 14, nth g 15, nth g 16, nth g 17, nth g 18, nth g 19, nth g 20, .bool (decide (x_24 < x_23)), .pointer (some (p1.add (x_24.toNat * 2))), .agg #[.string s2, .string s3], .pointer (some ⟨b4, 0, none⟩), .string s9, .string s13, .pointer (some ⟨b4, 1, none⟩), .string s10, .string s16, .string (s13 ++ s16), .tuple #[.int .i64 x19, v20], .int .i64 (IntKind.wrap .i64 (x_24 + 1)), nth g 33] w18))))))))))))))))) (Calls Tryz.prog 118 #[.pointer (some ⟨b_6, 0, none⟩)] w (fun e21 w22 => ∃ s23 : ByteArray, e21 = .returned (.string s23) ∧ (R (.returned (.tuple #[.string s23, .int .i64 0])) w22)))
def W0 (R : Ending → World → Prop)  (b_6 : Nat) (x_22a : Option Addr) (x_22b : Nat) (x_22c : Nat) (x_23 : Int) (x_24 : Int) (w : World) : Prop := ∃ (I : Nat → Int → World → Prop) (n : Nat), I n x_24 w ∧ ∀ (n : Nat) (x_24 : Int) (g : List Value) (w : World), I n x_24 w → ∀ (Back0 : Int → List Value → World → Prop), (∀ (m : Nat) (x_24 : Int) (g : List Value) (w : World), m < n → I m x_24 w → Back0 x_24 g w) → t1 R  Back0  b_6 x_22a x_22b x_22c x_23 x_24 g w
def t0 (R : Ending → World → Prop) (L0 : Nat → (Option Addr) → Nat → Nat → Int → Int → List Value → World → Prop) (l_0a : Option Addr) (l_0b : Nat) (l_0c : Nat) (w : World) : Prop := Calls Tryz.prog 96 #[.slice l_0a l_0b l_0c] w (fun e1 w2 => ∃ (a3 : Option Addr) (n4 c5 : Nat), ∃ x6 : Int, e1 = .returned (.tuple #[.slice a3 n4 c5, .int .i64 x6]) ∧ (boolV (x6 != (0 : Int)) (R (.returned (.tuple #[.string ⟨#[]⟩, .int .i64 x6])) w2) (∀ (b7 : Nat) (w8 : World), b7 = w2.heap.size → w8 = World.alloc w2 (.cells #[.pointer none, .slice none 0 0] 208) → Calls Tryz.prog 116 #[.int .u64 (IntKind.wrap .u64 ((n4 : Nat) : Int))] w8 (fun e9 w10 => ∃ s11 : ByteArray, e9 = .returned (.string s11) ∧ (Calls Tryz.prog 115 #[.pointer (some ⟨b7, 0, none⟩), .string s11] w10 (fun e12 w13 => ∃ x14 : Int, ∃ v15 : Value, e12 = .returned (.tuple #[.int .i64 x14, v15]) ∧ (L0 b7 a3 n4 c5 ((n4 : Nat) : Int) 0 [.slice l_0a l_0b l_0c, undef, .string ⟨#[]⟩, .int .i64 0, .slice a3 n4 c5, .int .i64 x6, undef, undef, .tuple #[.slice a3 n4 c5, .int .i64 x6], .slice l_0a l_0b l_0c, .tuple #[.slice a3 n4 c5, .int .i64 x6], .slice a3 n4 c5, .int .i64 x6, .int .i64 x6, .bool (x6 != (0 : Int)), undef, .slice a3 n4 c5, .int .i64 ((n4 : Nat) : Int), .int .u64 (IntKind.wrap .u64 ((n4 : Nat) : Int)), .string s11, .tuple #[.int .i64 x14, v15], undef, undef, undef, undef, undef, undef, undef, undef, undef, undef, undef, undef, undef] w13)))))))
def vc (R : Ending → World → Prop) (l_0a : Option Addr) (l_0b : Nat) (l_0c : Nat) (w : World) : Prop := ∀ (L0 : Nat → (Option Addr) → Nat → Nat → Int → Int → List Value → World → Prop), (∀ b_6 x_22a x_22b x_22c x_23 x_24 g w, W0 R b_6 x_22a x_22b x_22c x_23 x_24 w → L0 b_6 x_22a x_22b x_22c x_23 x_24 g w) → t0 R L0 l_0a l_0b l_0c w
theorem at0 (R : Ending → World → Prop) (b_6 : Nat) (x_22a : Option Addr) (x_22b : Nat) (x_22c : Nat) (x_23 : Int) (x_24 : Int) (g : List Value) (w : World) (h : W0 R  b_6 x_22a x_22b x_22c x_23 x_24 w) : atV Tryz.prog (bodyC Tryz.f81) [true, true, true, true, true, false, true, false] (retQ Tryz.prog Tryz.f81 R) [nth g 0, nth g 1, nth g 2, nth g 3, nth g 4, nth g 5, .pointer (some ⟨b_6, 0, none⟩), nth g 6, nth g 7, nth g 8, nth g 9, nth g 10, nth g 11, nth g 12, nth g 13, nth g 14, nth g 15, nth g 16, nth g 17, nth g 18, nth g 19, nth g 20, .slice x_22a x_22b x_22c, .int .i64 x_23, .int .i64 x_24, nth g 21, nth g 22, nth g 23, nth g 24, nth g 25, nth g 26, nth g 27, nth g 28, nth g 29, nth g 30, nth g 31, nth g 32, nth g 33] w := by
  obtain ⟨I, n0, h0, hs⟩ := h
  refine atV_loop (by kernel_rfl) (fun n s w => ∃ (x_24 : Int) (g : List Value), s = [nth g 0, nth g 1, nth g 2, nth g 3, nth g 4, nth g 5, .pointer (some ⟨b_6, 0, none⟩), nth g 6, nth g 7, nth g 8, nth g 9, nth g 10, nth g 11, nth g 12, nth g 13, nth g 14, nth g 15, nth g 16, nth g 17, nth g 18, nth g 19, nth g 20, .slice x_22a x_22b x_22c, .int .i64 x_23, .int .i64 x_24, nth g 21, nth g 22, nth g 23, nth g 24, nth g 25, nth g 26, nth g 27, nth g 28, nth g 29, nth g 30, nth g 31, nth g 32, nth g 33] ∧ I n x_24 w) n0 ⟨_, _, rfl, h0⟩ ?_
  rintro n s w ⟨x_24, g, rfl, hI⟩
  exact Eq.mpr (by kernel_rfl) (hs n x_24 g w hI (fun x_24 g w => (backQ (fun n s w => ∃ (x_24 : Int) (g : List Value), s = [nth g 0, nth g 1, nth g 2, nth g 3, nth g 4, nth g 5, .pointer (some ⟨b_6, 0, none⟩), nth g 6, nth g 7, nth g 8, nth g 9, nth g 10, nth g 11, nth g 12, nth g 13, nth g 14, nth g 15, nth g 16, nth g 17, nth g 18, nth g 19, nth g 20, .slice x_22a x_22b x_22c, .int .i64 x_23, .int .i64 x_24, nth g 21, nth g 22, nth g 23, nth g 24, nth g 25, nth g 26, nth g 27, nth g 28, nth g 29, nth g 30, nth g 31, nth g 32, nth g 33] ∧ I n x_24 w) n (ctxQ Tryz.prog (bodyC Tryz.f81) [true, true, true, true, true, false, true, false] (retQ Tryz.prog Tryz.f81 R))) .normal [nth g 0, nth g 1, nth g 2, nth g 3, nth g 4, nth g 5, .pointer (some ⟨b_6, 0, none⟩), nth g 6, nth g 7, nth g 8, nth g 9, nth g 10, nth g 11, nth g 12, nth g 13, nth g 14, nth g 15, nth g 16, nth g 17, nth g 18, nth g 19, nth g 20, .slice x_22a x_22b x_22c, .int .i64 x_23, .int .i64 x_24, nth g 21, nth g 22, nth g 23, nth g 24, nth g 25, nth g 26, nth g 27, nth g 28, nth g 29, nth g 30, nth g 31, nth g 32, nth g 33] w) (fun m x_24 g w hm hI => ⟨m, hm, x_24, g, rfl, hI⟩))
theorem calls (R : Ending → World → Prop) (l_0a : Option Addr) (l_0b : Nat) (l_0c : Nat) (w : World) (h : vc R l_0a l_0b l_0c w) : Calls Tryz.prog 81 #[.slice l_0a l_0b l_0c] w R :=
  calls_V Tryz.func81 (Eq.mpr (by kernel_rfl) (h (fun b_6 x_22a x_22b x_22c x_23 x_24 g w => atV Tryz.prog (bodyC Tryz.f81) [true, true, true, true, true, false, true, false] (retQ Tryz.prog Tryz.f81 R) [nth g 0, nth g 1, nth g 2, nth g 3, nth g 4, nth g 5, .pointer (some ⟨b_6, 0, none⟩), nth g 6, nth g 7, nth g 8, nth g 9, nth g 10, nth g 11, nth g 12, nth g 13, nth g 14, nth g 15, nth g 16, nth g 17, nth g 18, nth g 19, nth g 20, .slice x_22a x_22b x_22c, .int .i64 x_23, .int .i64 x_24, nth g 21, nth g 22, nth g 23, nth g 24, nth g 25, nth g 26, nth g 27, nth g 28, nth g 29, nth g 30, nth g 31, nth g 32, nth g 33] w) (fun b_6 x_22a x_22b x_22c x_23 x_24 g w h => at0 R b_6 x_22a x_22b x_22c x_23 x_24 g w h)))
end label_Put
end Go.Proofs.YtcofknlcdgidpaaGreatDoor
/-! ## Sort -/
namespace Go.Proofs.YtcofknlcdgidpaaGreatDoor
open Go Go.RowKit Go.Proofs.YtcofknlcdgidpaaGreatDoor.VC
set_option linter.unusedVariables false
set_option maxRecDepth 100000

theorem bits_Len64_ (n : Nat) (hn : n < 256) (w0 : World) : Calls Tryz.prog 148 #[.int .u64 n] w0 (fun e w => ∃ k, e = .returned (.int .i64 k) ∧ w = w0) := by
  apply bits_Len64.calls
  unfold bits_Len64.vc bits_Len64.t0
  refine boolF (by simp; omega) (boolF (by simp; omega) (boolF (by simp; omega) ⟨⟨?_, ?_⟩, _, rfl, rfl⟩))
  · rw [wrap_u8]; omega
  · rw [wrap_u8]; show _ < ((256 : Nat) : Int); omega
theorem bits_Len_ (n : Nat) (hn : n < 256) (w0 : World) : Calls Tryz.prog 105 #[.int .u64 n] w0 (fun e w => ∃ k, e = .returned (.int .i64 k) ∧ w = w0) := by
  apply bits_Len.calls
  refine (bits_Len64_ n hn w0).mono ?_
  rintro e w ⟨k, rfl, rfl⟩
  exact ⟨_, rfl, _, rfl, rfl⟩
theorem sort_one (a : Option Addr) (n c : Nat) (hn : n ≤ 1) (cmp : Value) (w0 : World) :
    Calls Tryz.prog 222 #[.slice a n c, cmp] w0 (fun e w => e = .returned (.tuple #[]) ∧ w = w0) := by
  apply slices_SortFunc_api_Pair_api_Pair.calls
  show Calls _ _ _ _ _
  rw [wrap_u64, Nat.mod_eq_of_lt (by omega)]
  refine (bits_Len_ n (by omega) w0).mono ?_
  rintro e w ⟨k, rfl, rfl⟩
  refine ⟨_, rfl, ?_⟩
  refine Calls.mono (R := fun e w' => e = .returned (.tuple #[]) ∧ w' = w) ?_ (fun e w' h => ⟨h.1, rfl, h.2⟩)
  apply slices_pdqsortCmpFunc_api_Pair.calls
  intro L0 hL
  refine hL _ _ _ _ _ _ _ _ _ _ _ ⟨fun m a b _ _ _ w' => a = 0 ∧ b = ((n : Nat) : Int) ∧ w' = w, 0, ⟨rfl, rfl, rfl⟩, ?_⟩
  rintro m a_1 b_2 limit_3 x1 x2 g w' ⟨rfl, rfl, rfl⟩ Back X0 hback
  unfold slices_pdqsortCmpFunc_api_Pair.t1
  refine boolT (by rw [wrap_i64 (by omega) (by omega)]; simp; omega) ?_
  refine Calls.mono (R := fun e w'' => e = .returned (.tuple #[]) ∧ w'' = w') ?_ (fun e w'' h => ⟨h.1, rfl, h.2⟩)
  apply slices_insertionSortCmpFunc_api_Pair.calls
  intro L0 hL
  refine hL _ _ _ _ _ _ _ _ _ ⟨fun m i w'' => i = 1 ∧ w'' = w', 0, ⟨by decide, rfl⟩, ?_⟩
  rintro m i g w'' ⟨rfl, rfl⟩ Back hback L1 hL1
  exact boolF (by simp; omega) ⟨rfl, rfl⟩

/-! ### label.ordered, where there is one label at most -/
theorem Calls.of_seq {Q R : Ending → World → Prop} {f : Nat} {args : Array Value} {w : World} (h : CallsIn Fence.wide 10 Tryz.prog f args w Q) (hR : ∀ e w, Q e w → R e w) : Calls Tryz.prog f args w R := (callsIn_wide.1 h).mono hR
theorem label_ordered_ (l : List (Txt × Txt)) (hl : l.length ≤ 1) (a : Option Addr) (c : Nat) (hc : l.length ≤ c) (key : Nat) (w0 : World) (hrow : RowAt w0 a (pairCs l)) :
    Calls Tryz.prog 134 #[.slice a l.length c, .func (.func key) #[] #[]] w0 (fun e w => Below w0.heap.size w0 w ∧ ∃ v c', e = .returned (.slice v l.length c') ∧ w.ownsRow w0.heap.size 112 2 (.slice v l.length c') l.length (pairCs l)) := by
  apply label_ordered_api_Pair_string.calls
  unfold label_ordered_api_Pair_string.vc label_ordered_api_Pair_string.t0
  refine allocV (cs := [.func (.func key) #[] #[]]) ?_
  intro w2 hk hb2 hs2
  refine Calls.mono (R := fun e w => e = .returned (.func (.func 223) #[] #[.pointer (some ⟨w2.heap.size, 0, none⟩)]) ∧ Blk w w2.heap.size 50 [.slice a l.length c] ∧ Below w2.heap.size w2 w) ?_ ?_
  · apply slices_Values_api_Pair_api_Pair.calls
    unfold slices_Values_api_Pair_api_Pair.vc slices_Values_api_Pair_api_Pair.t0
    exact allocV (cs := [.slice a l.length c]) fun w6 hblk hb hs => ⟨rfl, hblk, hb⟩
  rintro e w4 ⟨rfl, hblk4, hb4⟩
  have hb4' := hb2.trans (hb4.mono hb2.size)
  refine ⟨_, rfl, ?_⟩
  have hrow4 := hrow.below hb4' (Nat.le_refl _)
  refine Calls.mono (R := fun e w => Below w0.heap.size w0 w ∧ ∃ v c', e = .returned (.slice v l.length c') ∧ w.ownsRow w0.heap.size 112 2 (.slice v l.length c') l.length (pairCs l)) ?_ ?_
  · apply slices_SortedFunc_api_Pair.calls
    unfold slices_SortedFunc_api_Pair.vc slices_SortedFunc_api_Pair.t0
    refine Calls.mono (R := fun e w => ∃ v, e = .returned v ∧ w.ownsRow w4.heap.size 112 2 v l.length (pairCs l) ∧ Below w4.heap.size w4 w) ?_ ?_
    · apply slices_Collect_api_Pair.calls
      refine Calls.of_seq (appendSeq_in Fence.wide 10 trivial trivial rfl (by decide) w2.heap.size a c l (by omega) w4 hblk4.lt (hblk4.cell rfl) hrow4 ?_) ?_
      · intro hne g o ha
        obtain ⟨p, r, rfl⟩ : ∃ p r, l = p :: r := by
          cases l with
          | nil => exact absurd rfl hne
          | cons p r => exact ⟨p, r, rfl⟩
        obtain ⟨q, hq, c0, _⟩ := hrow4.pair (i := 0) (p := p) rfl
        rw [ha] at hq; cases hq
        exact World.block_lt_of_cell? w4 _ c0
      · rintro e w ⟨v, rfl, ho, hb⟩
        obtain ⟨a', n', c', rfl⟩ : ∃ a n c, v = .slice a n c := by
          rcases ho.2 with ⟨hv, _⟩ | ⟨g, cap, cur, hv, _⟩
          · exact ⟨_, _, _, hv⟩
          · exact ⟨_, _, _, hv⟩
        exact ⟨_, _, _, rfl, _, rfl, ho, hb⟩
    · rintro e w ⟨v, rfl, ho, hb⟩
      obtain ⟨a', c', rfl⟩ : ∃ a c, v = .slice a l.length c := by
        rcases ho.2 with ⟨hv, h0⟩ | ⟨g, cap, cur, hv, _⟩
        · exact ⟨_, _, by rw [hv, h0]⟩
        · exact ⟨_, _, hv⟩
      refine ⟨_, _, _, rfl, (sort_one _ _ _ hl _ w).mono ?_⟩
      rintro e w' ⟨rfl, rfl⟩
      exact ⟨rfl, hb4'.trans (hb.mono hb4'.size), _, _, rfl, own_mono ho hb4'.size⟩
  · rintro e w ⟨hb, v, c', rfl, ho⟩
    exact ⟨_, _, _, rfl, hb, _, _, rfl, ho⟩
end Go.Proofs.YtcofknlcdgidpaaGreatDoor
/-! ## LabPut -/
namespace Go.Proofs.YtcofknlcdgidpaaGreatDoor
open Go Go.RowKit Go.Proofs.YtcofknlcdgidpaaGreatDoor.VC
set_option linter.unusedVariables false
set_option maxRecDepth 100000

theorem label_canon (l : List (Txt × Txt)) (hl : l.length ≤ 1 ∨ labCheck l ≠ 0) (hll : l.length < 9223372036854775807) (hs : ∀ p ∈ l, p.1.length < 9223372036854775807) (a : Option Addr) (c : Nat) (hc : l.length ≤ c) (w0 : World) (hrow : RowAt w0 a (pairCs l)) :
    Calls Tryz.prog 96 #[.slice a l.length c] w0 (fun e w => Below w0.heap.size w0 w ∧ if labCheck l = 0 then ∃ v c', e = .returned (.tuple #[.slice v l.length c', .int .i64 0]) ∧ w.ownsRow w0.heap.size 112 2 (.slice v l.length c') l.length (pairCs l) else e = .returned (.tuple #[.slice none 0 0, .int .i64 (labCheck l)])) := by
  apply label_Canon.calls
  unfold label_Canon.vc label_Canon.t0
  refine (label_check l hs hll a c hc w0 hrow).mono ?_
  rintro e w2 ⟨rfl, hb2⟩
  refine ⟨_, rfl, ?_⟩
  by_cases h0 : labCheck l = 0
  · rw [h0]
    refine boolF rfl ?_
    have hl1 : l.length ≤ 1 := hl.resolve_right (by simp [h0])
    refine (label_ordered_ l hl1 a c hc _ w2 (hrow.below hb2 (Nat.le_refl _))).mono ?_
    rintro e w5 ⟨hb5, v, c', rfl, ho⟩
    exact ⟨_, _, _, rfl, hb2.trans (hb5.mono hb2.size), _, _, rfl, own_mono ho hb2.size⟩
  · refine boolT (by simp; omega) ⟨hb2, by rw [if_neg h0]⟩
def labBs : List (Txt × Txt) → List UInt8
  | [] => []
  | p :: r => txtB p.1 ++ txtB p.2 ++ labBs r
/-- The bytes of labels that are in order. -/
def labB (l : List (Txt × Txt)) : List UInt8 := numB l.length ++ labBs l
theorem txtB_len (t : Txt) (h : t.length < 9223372036854775807) : (txtB t).length ≤ 10 + t.length := by
  have := numB_len10 (n := t.length) (by omega)
  simp [txtB]; omega
theorem labGo_ok : ∀ (l seen : List (Txt × Txt)), labGo seen l = 0 → ∀ p ∈ l, nameOK p.1 = true ∧ p.1.length ≤ 20 ∧ p.2.length ≤ 40
  | [], seen, h, p, hp => by cases hp
  | q :: r, seen, h, p, hp => by
    rw [labGo] at h
    split at h
    · cases h
    · rename_i h1
      split at h
      · cases h
      · rename_i h2
        split at h
        · cases h
        · rcases List.mem_cons.1 hp with rfl | hp
          · have h1' : nameOK p.1 = true := by simpa using h1
            refine ⟨h1', ?_, by omega⟩
            unfold nameOK at h1'
            simp only [Bool.and_eq_true, decide_eq_true_eq] at h1'
            exact h1'.1.1.2
          · exact labGo_ok r _ h p hp
theorem labCheck_ok {l : List (Txt × Txt)} (h : labCheck l = 0) : l.length ≤ 8 ∧ ∀ p ∈ l, nameOK p.1 = true ∧ p.1.length ≤ 20 ∧ p.2.length ≤ 40 := by
  unfold labCheck at h
  split at h
  · cases h
  · exact ⟨by omega, labGo_ok l [] h⟩
def labPutR (w0 : World) (l : List (Txt × Txt)) (e : Ending) (w : World) : Prop := Below w0.heap.size w0 w ∧ e = .returned (if labCheck l = 0 then .tuple #[.string (S (labB l)), .int .i64 0] else .tuple #[.string ⟨#[]⟩, .int .i64 (labCheck l)])
theorem label_put (l : List (Txt × Txt)) (hl : l.length ≤ 1 ∨ labCheck l ≠ 0) (hll : l.length < 9223372036854775807) (hs : ∀ p ∈ l, p.1.length < 9223372036854775807) (a : Option Addr) (c : Nat) (hc : l.length ≤ c) (w0 : World) (hrow : RowAt w0 a (pairCs l)) :
    Calls Tryz.prog 81 #[.slice a l.length c] w0 (labPutR w0 l) := by
  apply label_Put.calls
  intro L0 hL
  unfold label_Put.t0
  refine (label_canon l hl hll hs a c hc w0 hrow).mono ?_
  rintro e w2 ⟨hb2, h⟩
  by_cases h0 : labCheck l = 0
  · rw [if_pos h0] at h
    obtain ⟨v, c', rfl, ho⟩ := h
    obtain ⟨h8, hok⟩ := labCheck_ok h0
    refine ⟨_, _, _, _, rfl, boolF rfl ?_⟩
    refine allocV (cs := [.pointer none, .slice none 0 0]) ?_
    intro w5 hblk hb5 hs5
    have hbld : Bld w2.heap.size w2.heap.size [] w5 := ⟨none, .inl rfl, Nat.le_refl _, _, hblk, World.ownsRow_nil _ _ _ _, by simp [Value.ownBlock]⟩
    have hb5' := hb2.trans (hb5.mono hb2.size)
    have hrw : RowAt w2 v (pairCs l) := RowAt.of_own ho
    rw [wrap_u64, Nat.mod_eq_of_lt (by omega)]
    refine (num_put _ (by omega) w5).mono ?_
    rintro e w10 ⟨rfl, hb10⟩
    have hb10' := hb5'.trans (hb10.mono hb5'.size)
    have hw10 : Below w2.heap.size w2 w10 := hb5.trans (hb10.mono hb5.size)
    have n1 := numB_len10 (n := l.length) (by omega)
    refine ⟨_, rfl, (Builder_WriteString _ _ _ _ w10 (hbld.below hb10) (by simp; omega) hw10.size).mono ?_⟩
    rintro e w13 ⟨rfl, hbld13, hb13, ho13⟩
    have hw13 := hw10.trans hb13
    refine ⟨_, _, rfl, hL _ _ _ _ _ _ _ _ ?_⟩
    refine ⟨fun m x w => ∃ i : Nat, x = (i : Int) ∧ i ≤ l.length ∧ m = l.length - i ∧ ∃ X, Bld w2.heap.size w2.heap.size X w ∧ X ++ labBs (l.drop i) = labB l ∧ X.length ≤ 20 + 100 * i ∧ Below w2.heap.size w2 w, _, ⟨0, rfl, by omega, rfl, _, hbld13, rfl, by simp; omega, hw13⟩, ?_⟩
    rintro m x g w ⟨i, rfl, hi, rfl, X, hX, hXl, hXn, hbel⟩ Back hback
    unfold label_Put.t1
    by_cases hlt : i < l.length
    · have hli : l[i]? = some l[i] := List.getElem?_eq_getElem hlt
      obtain ⟨_, p1, p2⟩ := hok _ (List.getElem_mem hlt)
      obtain ⟨q, hq, c0, c1⟩ := (hrw.below hbel (Nat.le_refl _)).pair hli
      refine boolT (by simp; omega) (someV_some hq ⟨⟨by omega, by omega⟩, _, _, ⟨c0, c1⟩, var2V ?_⟩)
      intro w6 hv6 hb6 hs6
      refine ⟨fun W => Blk W w.heap.size 112 [.string (S l[i].1), .string (S l[i].2)], ?_⟩
      intro w8 e1 e2 e3 e4
      have hs8 := same_below (w := w6) (w' := w8) w6.heap.size e1 e2 e3 e4
      have hv8 := hv6.same e1
      have hb8 : Below w.heap.size w w8 := hb6.trans (hs8.mono (by omega))
      refine ⟨hv8, _, fun W hW => hW.cell (j := 0) rfl, _, fun W hW => hW.cell (j := 1) rfl, (num_putText _ (by omega) w8).mono ?_⟩
      rintro e w12 ⟨rfl, hb12⟩
      have hv12 := hv8.below hb12 hv8.lt
      refine ⟨_, rfl, hv12, (num_putText _ (by omega) w12).mono ?_⟩
      rintro e w15 ⟨rfl, hb15⟩
      have hv15 := hv12.below hb15 hv12.lt
      have hb15' : Below w.heap.size w w15 := (hb8.trans (hb12.mono hb8.size)).trans (hb15.mono (by have := hb8.size; have := hb12.size; omega))
      have t1 := txtB_len l[i].1 (by omega)
      have t2 := txtB_len l[i].2 (by omega)
      have hw15 := hbel.trans (hb15'.mono hbel.size)
      refine ⟨_, rfl, hv15, by show (txtB _).length + (txtB _).length ≤ _; omega, ?_⟩
      rw [S_append]
      refine (Builder_WriteString _ _ _ _ w15 (hX.below hb15') (by simp; omega) hw15.size).mono ?_
      rintro e w18 ⟨rfl, hbld18, hb18, ho18⟩
      refine ⟨_, _, rfl, hback (l.length - (i + 1)) _ _ _ (by omega) ⟨i + 1, ?_, by omega, rfl, _, hbld18, ?_, by simp; omega, hw15.trans hb18⟩⟩
      · rw [wrap_i64 (by omega) (by omega)]; omega
      · rw [← hXl, List.drop_eq_getElem_cons hlt, labBs]; simp
    · refine boolF (by simp; omega) ((Builder_String _ _ _ w hX hbel.size).mono ?_)
      rintro e w22 ⟨rfl, hb22⟩
      refine ⟨_, rfl, hb2.trans ((hbel.trans hb22).mono hb2.size), ?_⟩
      rw [if_pos h0, ← hXl, List.drop_eq_nil_of_le (by omega), labBs, List.append_nil]
  · rw [if_neg h0] at h
    subst h
    exact ⟨_, _, _, _, rfl, boolT (by simp; omega) ⟨hb2, by rw [if_neg h0]⟩⟩
end Go.Proofs.YtcofknlcdgidpaaGreatDoor
/-! ## Gsamplechanges -/
namespace Go.Proofs.YtcofknlcdgidpaaGreatDoor
open Go Go.Proofs.YtcofknlcdgidpaaGreatDoor.VC
set_option linter.unusedVariables false
set_option maxRecDepth 100000
set_option maxHeartbeats 0

/-! ### postroom/sample.changes: function 120 -/
namespace sample_changes
def t0 (R : Ending → World → Prop)  (begin_0 : Int) (w : World) : Prop := ∀ (b1 : Nat) (w2 : World), b1 = w.heap.size → w2 = World.alloc w (.cells #[.int .i64 0] 2) → Writable w2 ⟨b1, 0, none⟩ 1 ∧ ∀ w3 : World, w3 = World.setCell w2 ⟨b1, 0, none⟩ (.int .i64 begin_0) → R (.returned (.func (.func 169) #[] #[.pointer (some ⟨b1, 0, none⟩)])) w3
def vc (R : Ending → World → Prop) (begin_0 : Int) (w : World) : Prop := t0 R  begin_0 w
theorem calls (R : Ending → World → Prop) (begin_0 : Int) (w : World) (h : vc R begin_0 w) : Calls Tryz.prog 120 #[.int .i64 begin_0] w R :=
  calls_V Tryz.func120 (Eq.mpr (by kernel_rfl) (h))
end sample_changes
end Go.Proofs.YtcofknlcdgidpaaGreatDoor
/-! ## Gsamplechanges1 -/
namespace Go.Proofs.YtcofknlcdgidpaaGreatDoor
open Go Go.Proofs.YtcofknlcdgidpaaGreatDoor.VC
set_option linter.unusedVariables false
set_option maxRecDepth 100000
set_option maxHeartbeats 0

/-! ### postroom/sample.changes$1: function 169 -/
namespace sample_changes_1
def t0 (R : Ending → World → Prop)  (n_0 : Int) (x_1 : Option Addr) (w : World) : Prop := someV x_1 (fun p1 => ∃ x2 : Int, w.cell? p1 = some (.int .i64 x2) ∧ (someV x_1 (fun p3 => Writable w p3 1 ∧ ∀ w4 : World, w4 = World.setCell w p3 (.int .i64 n_0) → R (.returned (.int .i64 (IntKind.wrap .i64 (n_0 - x2)))) w4)))
def vc (R : Ending → World → Prop) (n_0 : Int) (x_1 : Option Addr) (w : World) : Prop := t0 R  n_0 x_1 w
theorem calls (R : Ending → World → Prop) (n_0 : Int) (x_1 : Option Addr) (w : World) (h : vc R n_0 x_1 w) : Calls Tryz.prog 169 #[.int .i64 n_0, .pointer x_1] w R :=
  calls_V Tryz.func169 (Eq.mpr (by kernel_rfl) (h))
end sample_changes_1
end Go.Proofs.YtcofknlcdgidpaaGreatDoor
/-! ## Gsamplesums -/
namespace Go.Proofs.YtcofknlcdgidpaaGreatDoor
open Go Go.Proofs.YtcofknlcdgidpaaGreatDoor.VC
set_option linter.unusedVariables false
set_option maxRecDepth 100000
set_option maxHeartbeats 0

/-! ### postroom/sample.sums: function 174 -/
namespace sample_sums
def t0 (R : Ending → World → Prop)  (begin_0 : Int) (w : World) : Prop := ∀ (b1 : Nat) (w2 : World), b1 = w.heap.size → w2 = World.alloc w (.cells #[.int .i64 0] 2) → Writable w2 ⟨b1, 0, none⟩ 1 ∧ ∀ w3 : World, w3 = World.setCell w2 ⟨b1, 0, none⟩ (.int .i64 begin_0) → R (.returned (.func (.func 215) #[] #[.pointer (some ⟨b1, 0, none⟩)])) w3
def vc (R : Ending → World → Prop) (begin_0 : Int) (w : World) : Prop := t0 R  begin_0 w
theorem calls (R : Ending → World → Prop) (begin_0 : Int) (w : World) (h : vc R begin_0 w) : Calls Tryz.prog 174 #[.int .i64 begin_0] w R :=
  calls_V Tryz.func174 (Eq.mpr (by kernel_rfl) (h))
end sample_sums
end Go.Proofs.YtcofknlcdgidpaaGreatDoor
/-! ## Gsamplesums1 -/
namespace Go.Proofs.YtcofknlcdgidpaaGreatDoor
open Go Go.Proofs.YtcofknlcdgidpaaGreatDoor.VC
set_option linter.unusedVariables false
set_option maxRecDepth 100000
set_option maxHeartbeats 0

/-! ### postroom/sample.sums$1: function 215 -/
namespace sample_sums_1
def t0 (R : Ending → World → Prop)  (d_0 : Int) (x_1 : Option Addr) (w : World) : Prop := someV x_1 (fun p1 => ∃ x2 : Int, w.cell? p1 = some (.int .i64 x2) ∧ (someV x_1 (fun p3 => Writable w p3 1 ∧ ∀ w4 : World, w4 = World.setCell w p3 (.int .i64 (IntKind.wrap .i64 (x2 + d_0))) → someV x_1 (fun p5 => ∃ x6 : Int, w4.cell? p5 = some (.int .i64 x6) ∧ (R (.returned (.int .i64 x6)) w4)))))
def vc (R : Ending → World → Prop) (d_0 : Int) (x_1 : Option Addr) (w : World) : Prop := t0 R  d_0 x_1 w
theorem calls (R : Ending → World → Prop) (d_0 : Int) (x_1 : Option Addr) (w : World) (h : vc R d_0 x_1 w) : Calls Tryz.prog 215 #[.int .i64 d_0, .pointer x_1] w R :=
  calls_V Tryz.func215 (Eq.mpr (by kernel_rfl) (h))
end sample_sums_1
end Go.Proofs.YtcofknlcdgidpaaGreatDoor
/-! ## GsamplePut -/
namespace Go.Proofs.YtcofknlcdgidpaaGreatDoor
open Go Go.Proofs.YtcofknlcdgidpaaGreatDoor.VC
set_option linter.unusedVariables false
set_option maxRecDepth 100000
set_option maxHeartbeats 0

/-! ### postroom/sample.Put: function 82 -/
namespace sample_Put
def t1 (R : Ending → World → Prop)  (Back0 : Int → List Value → World → Prop)  (b_5 : Nat) (step_6 : Value) (change_7 : Value) (value_8 : Value) (x_46a : Option Addr) (x_46b : Nat) (x_46c : Nat) (x_47 : Int) (x_48 : Int) (g : List Value) (w : World) : Prop := boolV (decide (x_48 < x_47)) (someV x_46a (fun p1 => (0 ≤ x_48 ∧ x_48 < (x_46b : Nat)) ∧ (∃ x2 : Int, ∃ x3 : Int, (w.cell? (p1.add (x_48.toNat * 2)) = some (.int .u64 x2) ∧ w.cell? ((p1.add (x_48.toNat * 2)).add 1) = some (.int .i64 x3)) ∧ (∀ (b4 : Nat) (w5 : World), b4 = w.heap.size → w5 = World.alloc w (.cells #[.int .u64 0, .int .i64 0] 114) → Writable w5 ⟨b4, 0, none⟩ 2 ∧ ∀ w6 : World, w6 = World.setCell (World.setCell w5 ⟨b4, 0, none⟩ (.int .u64 x2)) ⟨b4, 1, none⟩ (.int .i64 x3) → ∃ S7 : World → Prop, (∀ w8 : World, w8.heap = w6.heap → w8.tape = w6.tape → w8.os = w6.os → w8.output = w6.output → S7 w8 ∧ (∃ x9 : Int, (∀ w, S7 w → w.cell? ⟨b4, 0, none⟩ = some (.int .u64 x9)) ∧ (∃ x10 : Int, (∀ w, S7 w → w.cell? ⟨b4, 1, none⟩ = some (.int .i64 x10)) ∧ (funcV step_6 (fun g13 first14 captured15 => goodCall Tryz.prog g13 (Calls Tryz.prog g13 (first14.toList ++ ([.int .i64 (IntKind.wrap .i64 x9)] : List Value) ++ captured15.toList).toArray w8 (fun e11 w12 => ∃ x16 : Int, e11 = .returned (.int .i64 x16) ∧ (S7 w12 ∧ (funcV change_7 (fun g19 first20 captured21 => goodCall Tryz.prog g19 (Calls Tryz.prog g19 (first20.toList ++ ([.int .i64 x16] : List Value) ++ captured21.toList).toArray w12 (fun e17 w18 => ∃ x22 : Int, e17 = .returned (.int .i64 x22) ∧ (S7 w18 ∧ (Calls Tryz.prog 119 #[.int .i64 x22] w18 (fun e23 w24 => ∃ s25 : ByteArray, e23 = .returned (.string s25) ∧ (S7 w24 ∧ (funcV value_8 (fun g28 first29 captured30 => goodCall Tryz.prog g28 (Calls Tryz.prog g28 (first29.toList ++ ([.int .i64 x10] : List Value) ++ captured30.toList).toArray w24 (fun e26 w27 => ∃ x31 : Int, e26 = .returned (.int .i64 x31) ∧ (S7 w27 ∧ (Calls Tryz.prog 119 #[.int .i64 x31] w27 (fun e32 w33 => ∃ s34 : ByteArray, e32 = .returned (.string s34) ∧ (S7 w33 ∧ (s25.size + s34.size ≤ 9223372036854775807 ∧ (Calls Tryz.prog 115 #[.pointer (some ⟨b_5, 0, none⟩), .string (s25 ++ s34)] w33 (fun e35 w36 => ∃ x37 : Int, ∃ v38 : Value, e35 = .returned (.tuple #[.int .i64 x37, v38]) ∧ (Back0 (IntKind.wrap .i64 (x_48 + 1)) [nth g 0, nth g 1, nth g 2, nth g 3, nth g 4, nth g 5, .pointer (some ⟨b4, 0, none⟩), nth g 7, nth g 8, nth g 9, nth g 10, nth g 11, nth g 12, nth g 13, nth g 14, nth g 15, nth g 16, nth g 17, nth g 18, nth g 19, nth g 20, nth g 21, nth g 22, nth g 23, nth g 24, nth g 25, nth g 26, nth g 27, nth g 28, nth g 29, nth g 30, nth g 31, nth g 32, nth g 33, nth g 34, nth g 35, nth g 36, nth g 37, nth g 38, nth g 39, nth g 40, nth g 41, .bool (decide (x_48 < x_47)), .pointer (some (p1.add (x_48.toNat * 2))), .agg #[.int .u64 x2, .int .i64 x3], change_7, step_6, .pointer (some ⟨b4, 0, none⟩), .int .u64 x9, .int .i64 (IntKind.wrap .i64 x9), .int .i64 x16, .int .i64 x22, .string s25, value_8, .pointer (some ⟨b4, 1, none⟩), .int .i64 x10, .int .i64 x31, .string s34, .string (s25 ++ s34), .tuple #[.int .i64 x37, v38], .int .i64 (IntKind.wrap .i64 (x_48 + 1)), nth g 61] w36)))))))))))))))))))))))))))))))) (Calls Tryz.prog 118 #[.pointer (some ⟨b_5, 0, none⟩)] w (fun e39 w40 => ∃ s41 : ByteArray, e39 = .returned (.string s41) ∧ (R (.returned (.tuple #[.string s41, .int .i64 0])) w40)))
def W0 (R : Ending → World → Prop)  (b_5 : Nat) (step_6 : Value) (change_7 : Value) (value_8 : Value) (x_46a : Option Addr) (x_46b : Nat) (x_46c : Nat) (x_47 : Int) (x_48 : Int) (w : World) : Prop := ∃ (I : Nat → Int → World → Prop) (n : Nat), I n x_48 w ∧ ∀ (n : Nat) (x_48 : Int) (g : List Value) (w : World), I n x_48 w → ∀ (Back0 : Int → List Value → World → Prop), (∀ (m : Nat) (x_48 : Int) (g : List Value) (w : World), m < n → I m x_48 w → Back0 x_48 g w) → t1 R  Back0  b_5 step_6 change_7 value_8 x_46a x_46b x_46c x_47 x_48 g w
def t0 (R : Ending → World → Prop) (L0 : Nat → Value → Value → Value → (Option Addr) → Nat → Nat → Int → Int → List Value → World → Prop) (l_0a : Option Addr) (l_0b : Nat) (l_0c : Nat) (w : World) : Prop := Calls Tryz.prog 114 #[.slice l_0a l_0b l_0c] w (fun e1 w2 => ∃ x3 : Int, e1 = .returned (.int .i64 x3) ∧ (boolV (x3 != (0 : Int)) (R (.returned (.tuple #[.string ⟨#[]⟩, .int .i64 x3])) w2) (∀ (b4 : Nat) (w5 : World), b4 = w2.heap.size → w5 = World.alloc w2 (.cells #[.pointer none, .slice none 0 0] 208) → ∃ S6 : World → Prop, (∀ w7 : World, w7.heap = w5.heap → w7.tape = w5.tape → w7.os = w5.os → w7.output = w5.output → S6 w7 ∧ (someV l_0a (fun p8 => (0 ≤ (0 : Int) ∧ (0 : Int) < (l_0b : Nat)) ∧ (∃ x9 : Int, (∀ w, S6 w → w.cell? p8 = some (.int .u64 x9)) ∧ (someV l_0a (fun p10 => (0 ≤ (0 : Int) ∧ (0 : Int) < (l_0b : Nat)) ∧ (∃ x11 : Int, (∀ w, S6 w → w.cell? (p10.add 1) = some (.int .i64 x11)) ∧ (Calls Tryz.prog 116 #[.int .u64 (IntKind.wrap .u64 ((l_0b : Nat) : Int))] w7 (fun e12 w13 => ∃ s14 : ByteArray, e12 = .returned (.string s14) ∧ (S6 w13 ∧ (Calls Tryz.prog 116 #[.int .u64 x9] w13 (fun e15 w16 => ∃ s17 : ByteArray, e15 = .returned (.string s17) ∧ (S6 w16 ∧ (s14.size + s17.size ≤ 9223372036854775807 ∧ (Calls Tryz.prog 119 #[.int .i64 x11] w16 (fun e18 w19 => ∃ s20 : ByteArray, e18 = .returned (.string s20) ∧ (S6 w19 ∧ ((s14 ++ s17).size + s20.size ≤ 9223372036854775807 ∧ (Calls Tryz.prog 115 #[.pointer (some ⟨b4, 0, none⟩), .string ((s14 ++ s17) ++ s20)] w19 (fun e21 w22 => ∃ x23 : Int, ∃ v24 : Value, e21 = .returned (.tuple #[.int .i64 x23, v24]) ∧ (∃ S25 : World → Prop, (∀ w26 : World, w26.heap = w22.heap → w26.tape = w22.tape → w26.os = w22.os → w26.output = w22.output → S25 w26 ∧ (someV l_0a (fun p27 => (0 ≤ (0 : Int) ∧ (0 : Int) < (l_0b : Nat)) ∧ (∃ x28 : Int, (∀ w, S25 w → w.cell? p27 = some (.int .u64 x28)) ∧ (someV l_0a (fun p29 => (0 ≤ (0 : Int) ∧ (0 : Int) < (l_0b : Nat)) ∧ (∃ x30 : Int, (∀ w, S25 w → w.cell? (p29.add 1) = some (.int .i64 x30)) ∧ (Calls Tryz.prog 120 #[.int .i64 (IntKind.wrap .i64 x28)] w26 (fun e31 w32 => ∃ v33 : Value, e31 = .returned v33 ∧ (S25 w32 ∧ (Calls Tryz.prog 120 #[.int .i64 0] w32 (fun e34 w35 => ∃ v36 : Value, e34 = .returned v36 ∧ (S25 w35 ∧ (Calls Tryz.prog 120 #[.int .i64 x30] w35 (fun e37 w38 => ∃ v39 : Value, e37 = .returned v39 ∧ (S25 w38 ∧ ((0 ≤ (1 : Int) ∧ (1 : Int) ≤ (l_0b : Nat)) ∧ ∀ a40, a40 = sliceAddr l_0a l_0c ((1 : Int).toNat) 2 → L0 b4 v33 v36 v39 a40 (l_0b - (1 : Int).toNat) (l_0c - (1 : Int).toNat) ((l_0b - (1 : Int).toNat : Nat) : Int) 0 [.slice l_0a l_0b l_0c, undef, .string ⟨#[]⟩, .int .i64 0, .int .i64 x3, undef, undef, .slice l_0a l_0b l_0c, .int .i64 x3, .int .i64 x3, .bool (x3 != (0 : Int)), undef, .slice l_0a l_0b l_0c, .int .i64 ((l_0b : Nat) : Int), .int .u64 (IntKind.wrap .u64 ((l_0b : Nat) : Int)), .string s14, .slice l_0a l_0b l_0c, .pointer (some p8), .pointer (some p8), .int .u64 x9, .string s17, .string (s14 ++ s17), .slice l_0a l_0b l_0c, .pointer (some p10), .pointer (some (p10.add 1)), .int .i64 x11, .string s20, .string ((s14 ++ s17) ++ s20), .tuple #[.int .i64 x23, v24], .slice l_0a l_0b l_0c, .pointer (some p27), .pointer (some p27), .int .u64 x28, .int .i64 (IntKind.wrap .i64 x28), v33, v36, .slice l_0a l_0b l_0c, .pointer (some p29), .pointer (some (p29.add 1)), .int .i64 x30, v39, .slice l_0a l_0b l_0c, undef, undef, undef, undef, undef, undef, undef, undef, undef, undef, undef, undef, undef, undef, undef, undef, undef, undef, undef, undef] w38)))))))))))))))))))))))))))))))))))))))))
def vc (R : Ending → World → Prop) (l_0a : Option Addr) (l_0b : Nat) (l_0c : Nat) (w : World) : Prop := ∀ (L0 : Nat → Value → Value → Value → (Option Addr) → Nat → Nat → Int → Int → List Value → World → Prop), (∀ b_5 step_6 change_7 value_8 x_46a x_46b x_46c x_47 x_48 g w, W0 R b_5 step_6 change_7 value_8 x_46a x_46b x_46c x_47 x_48 w → L0 b_5 step_6 change_7 value_8 x_46a x_46b x_46c x_47 x_48 g w) → t0 R L0 l_0a l_0b l_0c w
theorem at0 (R : Ending → World → Prop) (b_5 : Nat) (step_6 : Value) (change_7 : Value) (value_8 : Value) (x_46a : Option Addr) (x_46b : Nat) (x_46c : Nat) (x_47 : Int) (x_48 : Int) (g : List Value) (w : World) (h : W0 R  b_5 step_6 change_7 value_8 x_46a x_46b x_46c x_47 x_48 w) : atV Tryz.prog (bodyC Tryz.f82) [true, true, true, true, true, false, true, false] (retQ Tryz.prog Tryz.f82 R) [nth g 0, nth g 1, nth g 2, nth g 3, nth g 4, .pointer (some ⟨b_5, 0, none⟩), step_6, change_7, value_8, nth g 5, nth g 6, nth g 7, nth g 8, nth g 9, nth g 10, nth g 11, nth g 12, nth g 13, nth g 14, nth g 15, nth g 16, nth g 17, nth g 18, nth g 19, nth g 20, nth g 21, nth g 22, nth g 23, nth g 24, nth g 25, nth g 26, nth g 27, nth g 28, nth g 29, nth g 30, nth g 31, nth g 32, nth g 33, nth g 34, nth g 35, nth g 36, nth g 37, nth g 38, nth g 39, nth g 40, nth g 41, .slice x_46a x_46b x_46c, .int .i64 x_47, .int .i64 x_48, nth g 42, nth g 43, nth g 44, nth g 45, nth g 46, nth g 47, nth g 48, nth g 49, nth g 50, nth g 51, nth g 52, nth g 53, nth g 54, nth g 55, nth g 56, nth g 57, nth g 58, nth g 59, nth g 60, nth g 61] w := by
  obtain ⟨I, n0, h0, hs⟩ := h
  refine atV_loop (by kernel_rfl) (fun n s w => ∃ (x_48 : Int) (g : List Value), s = [nth g 0, nth g 1, nth g 2, nth g 3, nth g 4, .pointer (some ⟨b_5, 0, none⟩), step_6, change_7, value_8, nth g 5, nth g 6, nth g 7, nth g 8, nth g 9, nth g 10, nth g 11, nth g 12, nth g 13, nth g 14, nth g 15, nth g 16, nth g 17, nth g 18, nth g 19, nth g 20, nth g 21, nth g 22, nth g 23, nth g 24, nth g 25, nth g 26, nth g 27, nth g 28, nth g 29, nth g 30, nth g 31, nth g 32, nth g 33, nth g 34, nth g 35, nth g 36, nth g 37, nth g 38, nth g 39, nth g 40, nth g 41, .slice x_46a x_46b x_46c, .int .i64 x_47, .int .i64 x_48, nth g 42, nth g 43, nth g 44, nth g 45, nth g 46, nth g 47, nth g 48, nth g 49, nth g 50, nth g 51, nth g 52, nth g 53, nth g 54, nth g 55, nth g 56, nth g 57, nth g 58, nth g 59, nth g 60, nth g 61] ∧ I n x_48 w) n0 ⟨_, _, rfl, h0⟩ ?_
  rintro n s w ⟨x_48, g, rfl, hI⟩
  exact Eq.mpr (by kernel_rfl) (hs n x_48 g w hI (fun x_48 g w => (backQ (fun n s w => ∃ (x_48 : Int) (g : List Value), s = [nth g 0, nth g 1, nth g 2, nth g 3, nth g 4, .pointer (some ⟨b_5, 0, none⟩), step_6, change_7, value_8, nth g 5, nth g 6, nth g 7, nth g 8, nth g 9, nth g 10, nth g 11, nth g 12, nth g 13, nth g 14, nth g 15, nth g 16, nth g 17, nth g 18, nth g 19, nth g 20, nth g 21, nth g 22, nth g 23, nth g 24, nth g 25, nth g 26, nth g 27, nth g 28, nth g 29, nth g 30, nth g 31, nth g 32, nth g 33, nth g 34, nth g 35, nth g 36, nth g 37, nth g 38, nth g 39, nth g 40, nth g 41, .slice x_46a x_46b x_46c, .int .i64 x_47, .int .i64 x_48, nth g 42, nth g 43, nth g 44, nth g 45, nth g 46, nth g 47, nth g 48, nth g 49, nth g 50, nth g 51, nth g 52, nth g 53, nth g 54, nth g 55, nth g 56, nth g 57, nth g 58, nth g 59, nth g 60, nth g 61] ∧ I n x_48 w) n (ctxQ Tryz.prog (bodyC Tryz.f82) [true, true, true, true, true, false, true, false] (retQ Tryz.prog Tryz.f82 R))) .normal [nth g 0, nth g 1, nth g 2, nth g 3, nth g 4, .pointer (some ⟨b_5, 0, none⟩), step_6, change_7, value_8, nth g 5, nth g 6, nth g 7, nth g 8, nth g 9, nth g 10, nth g 11, nth g 12, nth g 13, nth g 14, nth g 15, nth g 16, nth g 17, nth g 18, nth g 19, nth g 20, nth g 21, nth g 22, nth g 23, nth g 24, nth g 25, nth g 26, nth g 27, nth g 28, nth g 29, nth g 30, nth g 31, nth g 32, nth g 33, nth g 34, nth g 35, nth g 36, nth g 37, nth g 38, nth g 39, nth g 40, nth g 41, .slice x_46a x_46b x_46c, .int .i64 x_47, .int .i64 x_48, nth g 42, nth g 43, nth g 44, nth g 45, nth g 46, nth g 47, nth g 48, nth g 49, nth g 50, nth g 51, nth g 52, nth g 53, nth g 54, nth g 55, nth g 56, nth g 57, nth g 58, nth g 59, nth g 60, nth g 61] w) (fun m x_48 g w hm hI => ⟨m, hm, x_48, g, rfl, hI⟩))
theorem calls (R : Ending → World → Prop) (l_0a : Option Addr) (l_0b : Nat) (l_0c : Nat) (w : World) (h : vc R l_0a l_0b l_0c w) : Calls Tryz.prog 82 #[.slice l_0a l_0b l_0c] w R :=
  calls_V Tryz.func82 (Eq.mpr (by kernel_rfl) (h (fun b_5 step_6 change_7 value_8 x_46a x_46b x_46c x_47 x_48 g w => atV Tryz.prog (bodyC Tryz.f82) [true, true, true, true, true, false, true, false] (retQ Tryz.prog Tryz.f82 R) [nth g 0, nth g 1, nth g 2, nth g 3, nth g 4, .pointer (some ⟨b_5, 0, none⟩), step_6, change_7, value_8, nth g 5, nth g 6, nth g 7, nth g 8, nth g 9, nth g 10, nth g 11, nth g 12, nth g 13, nth g 14, nth g 15, nth g 16, nth g 17, nth g 18, nth g 19, nth g 20, nth g 21, nth g 22, nth g 23, nth g 24, nth g 25, nth g 26, nth g 27, nth g 28, nth g 29, nth g 30, nth g 31, nth g 32, nth g 33, nth g 34, nth g 35, nth g 36, nth g 37, nth g 38, nth g 39, nth g 40, nth g 41, .slice x_46a x_46b x_46c, .int .i64 x_47, .int .i64 x_48, nth g 42, nth g 43, nth g 44, nth g 45, nth g 46, nth g 47, nth g 48, nth g 49, nth g 50, nth g 51, nth g 52, nth g 53, nth g 54, nth g 55, nth g 56, nth g 57, nth g 58, nth g 59, nth g 60, nth g 61] w) (fun b_5 step_6 change_7 value_8 x_46a x_46b x_46c x_47 x_48 g w h => at0 R b_5 step_6 change_7 value_8 x_46a x_46b x_46c x_47 x_48 g w h)))
end sample_Put
end Go.Proofs.YtcofknlcdgidpaaGreatDoor
/-! ## GsampleTake -/
namespace Go.Proofs.YtcofknlcdgidpaaGreatDoor
open Go Go.Proofs.YtcofknlcdgidpaaGreatDoor.VC
set_option linter.unusedVariables false
set_option maxRecDepth 100000
set_option maxHeartbeats 0

/-! ### postroom/sample.Take: function 125 -/
namespace sample_Take
def t1 (R : Ending → World → Prop)  (Back0 : ByteArray → Int → (Option Addr) → Nat → Nat → List Value → World → Prop)  (n_5 : Int) (rest_6 : ByteArray) (err_7 : Int) (out_9a : Option Addr) (out_9b : Nat) (out_9c : Nat) (at_10 : Value) (step_11 : Value) (value_12 : Value) (g : List Value) (w : World) : Prop := boolV (decide (((out_9b : Nat) : Int) < (IntKind.wrap .i64 n_5))) (boolV (err_7 == (0 : Int)) (Calls Tryz.prog 173 #[.string rest_6] w (fun e1 w2 => ∃ x3 : Int, ∃ s4 : ByteArray, ∃ x5 : Int, e1 = .returned (.tuple #[.int .i64 x3, .string s4, .int .i64 x5]) ∧ (boolV (x5 == (0 : Int)) (Calls Tryz.prog 173 #[.string s4] w2 (fun e6 w7 => ∃ x8 : Int, ∃ s9 : ByteArray, ∃ x10 : Int, e6 = .returned (.tuple #[.int .i64 x8, .string s9, .int .i64 x10]) ∧ (funcV step_11 (fun g13 first14 captured15 => goodCall Tryz.prog g13 (Calls Tryz.prog g13 (first14.toList ++ ([.int .i64 x3] : List Value) ++ captured15.toList).toArray w7 (fun e11 w12 => ∃ x16 : Int, e11 = .returned (.int .i64 x16) ∧ (funcV at_10 (fun g19 first20 captured21 => goodCall Tryz.prog g19 (Calls Tryz.prog g19 (first20.toList ++ ([.int .i64 x16] : List Value) ++ captured21.toList).toArray w12 (fun e17 w18 => ∃ x22 : Int, e17 = .returned (.int .i64 x22) ∧ (funcV value_12 (fun g25 first26 captured27 => goodCall Tryz.prog g25 (Calls Tryz.prog g25 (first26.toList ++ ([.int .i64 x8] : List Value) ++ captured27.toList).toArray w18 (fun e23 w24 => ∃ x28 : Int, e23 = .returned (.int .i64 x28) ∧ (∀ (b29 : Nat) (w30 : World), b29 = w24.heap.size → w30 = World.alloc w24 (.cells #[.int .u64 (IntKind.wrap .u64 x22), .int .i64 x28] 114) → runV Tryz.prog (Builtin.append_ #[51, 51] 51 #[.slice out_9a out_9b out_9c, .slice (some ⟨b29, 0, none⟩) 1 1]) w30 (fun v31 w32 => ∃ (a33 : Option Addr) (n34 c35 : Nat), v31 = .slice a33 n34 c35 ∧ (Back0 s9 x10 a33 n34 c35 [nth g 0, nth g 1, nth g 2, nth g 3, nth g 4, nth g 5, .int .i64 x3, .int .i64 x8, nth g 8, nth g 9, nth g 10, nth g 11, nth g 12, nth g 13, nth g 14, nth g 15, nth g 16, nth g 17, nth g 18, nth g 19, nth g 20, nth g 21, nth g 22, nth g 23, nth g 24, nth g 25, nth g 26, nth g 27, nth g 28, nth g 29, nth g 30, nth g 31, nth g 32, nth g 33, nth g 34, nth g 35, nth g 36, nth g 37, nth g 38, nth g 39, nth g 40, nth g 41, nth g 42, nth g 43, nth g 44, nth g 45, nth g 46, nth g 47, nth g 48, nth g 49, .slice out_9a out_9b out_9c, .int .i64 ((out_9b : Nat) : Int), .int .u64 n_5, .int .i64 (IntKind.wrap .i64 n_5), .bool (decide (((out_9b : Nat) : Int) < (IntKind.wrap .i64 n_5))), .bool true, .int .i64 err_7, .bool (err_7 == (0 : Int)), .bool (err_7 == (0 : Int)), .tuple #[.int .i64 x3, .string s4, .int .i64 x5], .string rest_6, .tuple #[.int .i64 x3, .string s4, .int .i64 x5], .int .i64 x3, .string s4, .int .i64 x5, .int .i64 x5, .bool (x5 == (0 : Int)), .tuple #[.int .i64 x8, .string s9, .int .i64 x10], .string s4, .tuple #[.int .i64 x8, .string s9, .int .i64 x10], .int .i64 x8, .string s9, .int .i64 x10, .slice out_9a out_9b out_9c, at_10, step_11, .int .i64 x3, .int .i64 x16, .int .i64 x22, .int .u64 (IntKind.wrap .u64 x22), value_12, .int .i64 x8, .int .i64 x28, .agg #[.int .u64 (IntKind.wrap .u64 x22), .int .i64 x28], .slice (some ⟨b29, 0, none⟩) 1 1, .slice a33 n34 c35, nth g 86, nth g 87, nth g 88, nth g 89, nth g 90, nth g 91, nth g 92, nth g 93, nth g 94] w32))))))))))))))))) (funcV step_11 (fun g38 first39 captured40 => goodCall Tryz.prog g38 (Calls Tryz.prog g38 (first39.toList ++ ([.int .i64 x3] : List Value) ++ captured40.toList).toArray w2 (fun e36 w37 => ∃ x41 : Int, e36 = .returned (.int .i64 x41) ∧ (funcV at_10 (fun g44 first45 captured46 => goodCall Tryz.prog g44 (Calls Tryz.prog g44 (first45.toList ++ ([.int .i64 x41] : List Value) ++ captured46.toList).toArray w37 (fun e42 w43 => ∃ x47 : Int, e42 = .returned (.int .i64 x47) ∧ (funcV value_12 (fun g50 first51 captured52 => goodCall Tryz.prog g50 (Calls Tryz.prog g50 (first51.toList ++ ([.int .i64 0] : List Value) ++ captured52.toList).toArray w43 (fun e48 w49 => ∃ x53 : Int, e48 = .returned (.int .i64 x53) ∧ (∀ (b54 : Nat) (w55 : World), b54 = w49.heap.size → w55 = World.alloc w49 (.cells #[.int .u64 (IntKind.wrap .u64 x47), .int .i64 x53] 114) → runV Tryz.prog (Builtin.append_ #[51, 51] 51 #[.slice out_9a out_9b out_9c, .slice (some ⟨b54, 0, none⟩) 1 1]) w55 (fun v56 w57 => ∃ (a58 : Option Addr) (n59 c60 : Nat), v56 = .slice a58 n59 c60 ∧ (Back0 s4 x5 a58 n59 c60 [nth g 0, nth g 1, nth g 2, nth g 3, nth g 4, nth g 5, .int .i64 x3, .int .i64 0, nth g 8, nth g 9, nth g 10, nth g 11, nth g 12, nth g 13, nth g 14, nth g 15, nth g 16, nth g 17, nth g 18, nth g 19, nth g 20, nth g 21, nth g 22, nth g 23, nth g 24, nth g 25, nth g 26, nth g 27, nth g 28, nth g 29, nth g 30, nth g 31, nth g 32, nth g 33, nth g 34, nth g 35, nth g 36, nth g 37, nth g 38, nth g 39, nth g 40, nth g 41, nth g 42, nth g 43, nth g 44, nth g 45, nth g 46, nth g 47, nth g 48, nth g 49, .slice out_9a out_9b out_9c, .int .i64 ((out_9b : Nat) : Int), .int .u64 n_5, .int .i64 (IntKind.wrap .i64 n_5), .bool (decide (((out_9b : Nat) : Int) < (IntKind.wrap .i64 n_5))), .bool true, .int .i64 err_7, .bool (err_7 == (0 : Int)), .bool (err_7 == (0 : Int)), .tuple #[.int .i64 x3, .string s4, .int .i64 x5], .string rest_6, .tuple #[.int .i64 x3, .string s4, .int .i64 x5], .int .i64 x3, .string s4, .int .i64 x5, .int .i64 x5, .bool (x5 == (0 : Int)), nth g 67, nth g 68, nth g 69, nth g 70, nth g 71, nth g 72, .slice out_9a out_9b out_9c, at_10, step_11, .int .i64 x3, .int .i64 x41, .int .i64 x47, .int .u64 (IntKind.wrap .u64 x47), value_12, .int .i64 0, .int .i64 x53, .agg #[.int .u64 (IntKind.wrap .u64 x47), .int .i64 x53], .slice (some ⟨b54, 0, none⟩) 1 1, .slice a58 n59 c60, nth g 86, nth g 87, nth g 88, nth g 89, nth g 90, nth g 91, nth g 92, nth g 93, nth g 94] w57)))))))))))))))))) (boolV (err_7 != (0 : Int)) (R (.returned (.tuple #[.slice none 0 0, .string ⟨#[]⟩, .int .i64 2])) w) (Calls Tryz.prog 114 #[.slice out_9a out_9b out_9c] w (fun e61 w62 => ∃ x63 : Int, e61 = .returned (.int .i64 x63) ∧ (boolV (x63 != (0 : Int)) (R (.returned (.tuple #[.slice none 0 0, .string ⟨#[]⟩, .int .i64 2])) w62) (R (.returned (.tuple #[.slice out_9a out_9b out_9c, .string rest_6, .int .i64 0])) w62)))))) (boolV (err_7 != (0 : Int)) (R (.returned (.tuple #[.slice none 0 0, .string ⟨#[]⟩, .int .i64 2])) w) (Calls Tryz.prog 114 #[.slice out_9a out_9b out_9c] w (fun e64 w65 => ∃ x66 : Int, e64 = .returned (.int .i64 x66) ∧ (boolV (x66 != (0 : Int)) (R (.returned (.tuple #[.slice none 0 0, .string ⟨#[]⟩, .int .i64 2])) w65) (R (.returned (.tuple #[.slice out_9a out_9b out_9c, .string rest_6, .int .i64 0])) w65)))))
def W0 (R : Ending → World → Prop)  (n_5 : Int) (rest_6 : ByteArray) (err_7 : Int) (out_9a : Option Addr) (out_9b : Nat) (out_9c : Nat) (at_10 : Value) (step_11 : Value) (value_12 : Value) (w : World) : Prop := ∃ (I : Nat → ByteArray → Int → (Option Addr) → Nat → Nat → World → Prop) (n : Nat), I n rest_6 err_7 out_9a out_9b out_9c w ∧ ∀ (n : Nat) (rest_6 : ByteArray) (err_7 : Int) (out_9a : Option Addr) (out_9b : Nat) (out_9c : Nat) (g : List Value) (w : World), I n rest_6 err_7 out_9a out_9b out_9c w → ∀ (Back0 : ByteArray → Int → (Option Addr) → Nat → Nat → List Value → World → Prop), (∀ (m : Nat) (rest_6 : ByteArray) (err_7 : Int) (out_9a : Option Addr) (out_9b : Nat) (out_9c : Nat) (g : List Value) (w : World), m < n → I m rest_6 err_7 out_9a out_9b out_9c w → Back0 rest_6 err_7 out_9a out_9b out_9c g w) → t1 R  Back0  n_5 rest_6 err_7 out_9a out_9b out_9c at_10 step_11 value_12 g w
def t0 (R : Ending → World → Prop) (L0 : Int → ByteArray → Int → (Option Addr) → Nat → Nat → Value → Value → Value → List Value → World → Prop) (s_0 : ByteArray) (w : World) : Prop := Calls Tryz.prog 171 #[.string s_0] w (fun e1 w2 => ∃ x3 : Int, ∃ s4 : ByteArray, ∃ x5 : Int, e1 = .returned (.tuple #[.int .u64 x3, .string s4, .int .i64 x5]) ∧ (boolV (x5 != (0 : Int)) (R (.returned (.tuple #[.slice none 0 0, .string ⟨#[]⟩, .int .i64 2])) w2) (boolV (x3 == (0 : Int)) (R (.returned (.tuple #[.slice none 0 0, .string ⟨#[]⟩, .int .i64 2])) w2) (boolV (decide (x3 > (20 : Int))) (R (.returned (.tuple #[.slice none 0 0, .string ⟨#[]⟩, .int .i64 2])) w2) (∀ (b6 : Nat) (w7 : World), b6 = w2.heap.size → w7 = World.alloc w2 (.cells #[.int .u64 0, .int .i64 0] 114) → Calls Tryz.prog 171 #[.string s4] w7 (fun e8 w9 => ∃ x10 : Int, ∃ s11 : ByteArray, ∃ x12 : Int, e8 = .returned (.tuple #[.int .u64 x10, .string s11, .int .i64 x12]) ∧ (Writable w9 ⟨b6, 0, none⟩ 1 ∧ ∀ w13 : World, w13 = World.setCell w9 ⟨b6, 0, none⟩ (.int .u64 x10) → boolV (x12 == (0 : Int)) (Calls Tryz.prog 173 #[.string s11] w13 (fun e14 w15 => ∃ x16 : Int, ∃ s17 : ByteArray, ∃ x18 : Int, e14 = .returned (.tuple #[.int .i64 x16, .string s17, .int .i64 x18]) ∧ (Writable w15 ⟨b6, 1, none⟩ 1 ∧ ∀ w19 : World, w19 = World.setCell w15 ⟨b6, 1, none⟩ (.int .i64 x16) → ∃ x20 : Int, ∃ x21 : Int, (w19.cell? ⟨b6, 0, none⟩ = some (.int .u64 x20) ∧ w19.cell? ⟨b6, 1, none⟩ = some (.int .i64 x21)) ∧ (∀ (b22 : Nat) (w23 : World), b22 = w19.heap.size → w23 = World.alloc w19 (.cells #[.int .u64 x20, .int .i64 x21] 114) → ∃ S24 : World → Prop, (∀ w25 : World, w25.heap = w23.heap → w25.tape = w23.tape → w25.os = w23.os → w25.output = w23.output → S24 w25 ∧ (∃ x26 : Int, (∀ w, S24 w → w.cell? ⟨b6, 0, none⟩ = some (.int .u64 x26)) ∧ (∃ x27 : Int, (∀ w, S24 w → w.cell? ⟨b6, 1, none⟩ = some (.int .i64 x27)) ∧ (Calls Tryz.prog 174 #[.int .i64 (IntKind.wrap .i64 x26)] w25 (fun e28 w29 => ∃ v30 : Value, e28 = .returned v30 ∧ (S24 w29 ∧ (Calls Tryz.prog 174 #[.int .i64 0] w29 (fun e31 w32 => ∃ v33 : Value, e31 = .returned v33 ∧ (S24 w32 ∧ (Calls Tryz.prog 174 #[.int .i64 x27] w32 (fun e34 w35 => ∃ v36 : Value, e34 = .returned v36 ∧ (S24 w35 ∧ (L0 x3 s17 x18 (some ⟨b22, 0, none⟩) 1 1 v30 v33 v36 [.string s_0, undef, .slice none 0 0, .string ⟨#[]⟩, .int .i64 0, .pointer (some ⟨b6, 0, none⟩), undef, undef, .tuple #[.int .u64 x3, .string s4, .int .i64 x5], .string s_0, .tuple #[.int .u64 x3, .string s4, .int .i64 x5], .int .u64 x3, .string s4, .int .i64 x5, .int .i64 x5, .bool (x5 != (0 : Int)), .bool false, .int .u64 x3, .bool (x3 == (0 : Int)), .bool (x3 == (0 : Int)), .bool false, .int .u64 x3, .bool (decide (x3 > (20 : Int))), .bool (decide (x3 > (20 : Int))), .tuple #[.int .u64 x10, .string s11, .int .i64 x12], .string s4, .tuple #[.int .u64 x10, .string s11, .int .i64 x12], .int .u64 x10, .string s11, .int .i64 x12, .pointer (some ⟨b6, 0, none⟩), .int .i64 x12, .bool (x12 == (0 : Int)), .tuple #[.int .i64 x16, .string s17, .int .i64 x18], .string s11, .tuple #[.int .i64 x16, .string s17, .int .i64 x18], .int .i64 x16, .string s17, .int .i64 x18, .pointer (some ⟨b6, 1, none⟩), .agg #[.int .u64 x20, .int .i64 x21], .slice (some ⟨b22, 0, none⟩) 1 1, .pointer (some ⟨b6, 0, none⟩), .int .u64 x26, .int .i64 (IntKind.wrap .i64 x26), v30, v33, .pointer (some ⟨b6, 1, none⟩), .int .i64 x27, v36, undef, undef, undef, undef, undef, undef, undef, undef, undef, undef, undef, undef, undef, undef, undef, undef, undef, undef, undef, undef, undef, undef, undef, undef, undef, undef, undef, undef, undef, undef, undef, undef, undef, undef, undef, undef, undef, undef, undef, undef, undef, undef, undef, undef, undef] w35))))))))))))))))) (∃ x37 : Int, ∃ x38 : Int, (w13.cell? ⟨b6, 0, none⟩ = some (.int .u64 x37) ∧ w13.cell? ⟨b6, 1, none⟩ = some (.int .i64 x38)) ∧ (∀ (b39 : Nat) (w40 : World), b39 = w13.heap.size → w40 = World.alloc w13 (.cells #[.int .u64 x37, .int .i64 x38] 114) → ∃ S41 : World → Prop, (∀ w42 : World, w42.heap = w40.heap → w42.tape = w40.tape → w42.os = w40.os → w42.output = w40.output → S41 w42 ∧ (∃ x43 : Int, (∀ w, S41 w → w.cell? ⟨b6, 0, none⟩ = some (.int .u64 x43)) ∧ (∃ x44 : Int, (∀ w, S41 w → w.cell? ⟨b6, 1, none⟩ = some (.int .i64 x44)) ∧ (Calls Tryz.prog 174 #[.int .i64 (IntKind.wrap .i64 x43)] w42 (fun e45 w46 => ∃ v47 : Value, e45 = .returned v47 ∧ (S41 w46 ∧ (Calls Tryz.prog 174 #[.int .i64 0] w46 (fun e48 w49 => ∃ v50 : Value, e48 = .returned v50 ∧ (S41 w49 ∧ (Calls Tryz.prog 174 #[.int .i64 x44] w49 (fun e51 w52 => ∃ v53 : Value, e51 = .returned v53 ∧ (S41 w52 ∧ (L0 x3 s11 x12 (some ⟨b39, 0, none⟩) 1 1 v47 v50 v53 [.string s_0, undef, .slice none 0 0, .string ⟨#[]⟩, .int .i64 0, .pointer (some ⟨b6, 0, none⟩), undef, undef, .tuple #[.int .u64 x3, .string s4, .int .i64 x5], .string s_0, .tuple #[.int .u64 x3, .string s4, .int .i64 x5], .int .u64 x3, .string s4, .int .i64 x5, .int .i64 x5, .bool (x5 != (0 : Int)), .bool false, .int .u64 x3, .bool (x3 == (0 : Int)), .bool (x3 == (0 : Int)), .bool false, .int .u64 x3, .bool (decide (x3 > (20 : Int))), .bool (decide (x3 > (20 : Int))), .tuple #[.int .u64 x10, .string s11, .int .i64 x12], .string s4, .tuple #[.int .u64 x10, .string s11, .int .i64 x12], .int .u64 x10, .string s11, .int .i64 x12, .pointer (some ⟨b6, 0, none⟩), .int .i64 x12, .bool (x12 == (0 : Int)), undef, undef, undef, undef, undef, undef, undef, .agg #[.int .u64 x37, .int .i64 x38], .slice (some ⟨b39, 0, none⟩) 1 1, .pointer (some ⟨b6, 0, none⟩), .int .u64 x43, .int .i64 (IntKind.wrap .i64 x43), v47, v50, .pointer (some ⟨b6, 1, none⟩), .int .i64 x44, v53, undef, undef, undef, undef, undef, undef, undef, undef, undef, undef, undef, undef, undef, undef, undef, undef, undef, undef, undef, undef, undef, undef, undef, undef, undef, undef, undef, undef, undef, undef, undef, undef, undef, undef, undef, undef, undef, undef, undef, undef, undef, undef, undef, undef, undef] w52))))))))))))))))))))))
def vc (R : Ending → World → Prop) (s_0 : ByteArray) (w : World) : Prop := ∀ (L0 : Int → ByteArray → Int → (Option Addr) → Nat → Nat → Value → Value → Value → List Value → World → Prop), (∀ n_5 rest_6 err_7 out_9a out_9b out_9c at_10 step_11 value_12 g w, W0 R n_5 rest_6 err_7 out_9a out_9b out_9c at_10 step_11 value_12 w → L0 n_5 rest_6 err_7 out_9a out_9b out_9c at_10 step_11 value_12 g w) → t0 R L0 s_0 w
theorem at0 (R : Ending → World → Prop) (n_5 : Int) (rest_6 : ByteArray) (err_7 : Int) (out_9a : Option Addr) (out_9b : Nat) (out_9c : Nat) (at_10 : Value) (step_11 : Value) (value_12 : Value) (g : List Value) (w : World) (h : W0 R  n_5 rest_6 err_7 out_9a out_9b out_9c at_10 step_11 value_12 w) : atV Tryz.prog (bodyC Tryz.f125) [true, true, true, true, true, true, true, true, false, false] (retQ Tryz.prog Tryz.f125 R) [nth g 0, nth g 1, nth g 2, nth g 3, nth g 4, .int .u64 n_5, .string rest_6, .int .i64 err_7, nth g 5, .slice out_9a out_9b out_9c, at_10, step_11, value_12, nth g 6, nth g 7, nth g 8, nth g 9, nth g 10, nth g 11, nth g 12, nth g 13, nth g 14, nth g 15, nth g 16, nth g 17, nth g 18, nth g 19, nth g 20, nth g 21, nth g 22, nth g 23, nth g 24, nth g 25, nth g 26, nth g 27, nth g 28, nth g 29, nth g 30, nth g 31, nth g 32, nth g 33, nth g 34, nth g 35, nth g 36, nth g 37, nth g 38, nth g 39, nth g 40, nth g 41, nth g 42, nth g 43, nth g 44, nth g 45, nth g 46, nth g 47, nth g 48, nth g 49, nth g 50, nth g 51, nth g 52, nth g 53, nth g 54, nth g 55, nth g 56, nth g 57, nth g 58, nth g 59, nth g 60, nth g 61, nth g 62, nth g 63, nth g 64, nth g 65, nth g 66, nth g 67, nth g 68, nth g 69, nth g 70, nth g 71, nth g 72, nth g 73, nth g 74, nth g 75, nth g 76, nth g 77, nth g 78, nth g 79, nth g 80, nth g 81, nth g 82, nth g 83, nth g 84, nth g 85, nth g 86, nth g 87, nth g 88, nth g 89, nth g 90, nth g 91, nth g 92, nth g 93, nth g 94] w := by
  obtain ⟨I, n0, h0, hs⟩ := h
  refine atV_loop (by kernel_rfl) (fun n s w => ∃ (rest_6 : ByteArray) (err_7 : Int) (out_9a : Option Addr) (out_9b : Nat) (out_9c : Nat) (g : List Value), s = [nth g 0, nth g 1, nth g 2, nth g 3, nth g 4, .int .u64 n_5, .string rest_6, .int .i64 err_7, nth g 5, .slice out_9a out_9b out_9c, at_10, step_11, value_12, nth g 6, nth g 7, nth g 8, nth g 9, nth g 10, nth g 11, nth g 12, nth g 13, nth g 14, nth g 15, nth g 16, nth g 17, nth g 18, nth g 19, nth g 20, nth g 21, nth g 22, nth g 23, nth g 24, nth g 25, nth g 26, nth g 27, nth g 28, nth g 29, nth g 30, nth g 31, nth g 32, nth g 33, nth g 34, nth g 35, nth g 36, nth g 37, nth g 38, nth g 39, nth g 40, nth g 41, nth g 42, nth g 43, nth g 44, nth g 45, nth g 46, nth g 47, nth g 48, nth g 49, nth g 50, nth g 51, nth g 52, nth g 53, nth g 54, nth g 55, nth g 56, nth g 57, nth g 58, nth g 59, nth g 60, nth g 61, nth g 62, nth g 63, nth g 64, nth g 65, nth g 66, nth g 67, nth g 68, nth g 69, nth g 70, nth g 71, nth g 72, nth g 73, nth g 74, nth g 75, nth g 76, nth g 77, nth g 78, nth g 79, nth g 80, nth g 81, nth g 82, nth g 83, nth g 84, nth g 85, nth g 86, nth g 87, nth g 88, nth g 89, nth g 90, nth g 91, nth g 92, nth g 93, nth g 94] ∧ I n rest_6 err_7 out_9a out_9b out_9c w) n0 ⟨_, _, _, _, _, _, rfl, h0⟩ ?_
  rintro n s w ⟨rest_6, err_7, out_9a, out_9b, out_9c, g, rfl, hI⟩
  exact Eq.mpr (by kernel_rfl) (hs n rest_6 err_7 out_9a out_9b out_9c g w hI (fun rest_6 err_7 out_9a out_9b out_9c g w => (backQ (fun n s w => ∃ (rest_6 : ByteArray) (err_7 : Int) (out_9a : Option Addr) (out_9b : Nat) (out_9c : Nat) (g : List Value), s = [nth g 0, nth g 1, nth g 2, nth g 3, nth g 4, .int .u64 n_5, .string rest_6, .int .i64 err_7, nth g 5, .slice out_9a out_9b out_9c, at_10, step_11, value_12, nth g 6, nth g 7, nth g 8, nth g 9, nth g 10, nth g 11, nth g 12, nth g 13, nth g 14, nth g 15, nth g 16, nth g 17, nth g 18, nth g 19, nth g 20, nth g 21, nth g 22, nth g 23, nth g 24, nth g 25, nth g 26, nth g 27, nth g 28, nth g 29, nth g 30, nth g 31, nth g 32, nth g 33, nth g 34, nth g 35, nth g 36, nth g 37, nth g 38, nth g 39, nth g 40, nth g 41, nth g 42, nth g 43, nth g 44, nth g 45, nth g 46, nth g 47, nth g 48, nth g 49, nth g 50, nth g 51, nth g 52, nth g 53, nth g 54, nth g 55, nth g 56, nth g 57, nth g 58, nth g 59, nth g 60, nth g 61, nth g 62, nth g 63, nth g 64, nth g 65, nth g 66, nth g 67, nth g 68, nth g 69, nth g 70, nth g 71, nth g 72, nth g 73, nth g 74, nth g 75, nth g 76, nth g 77, nth g 78, nth g 79, nth g 80, nth g 81, nth g 82, nth g 83, nth g 84, nth g 85, nth g 86, nth g 87, nth g 88, nth g 89, nth g 90, nth g 91, nth g 92, nth g 93, nth g 94] ∧ I n rest_6 err_7 out_9a out_9b out_9c w) n (ctxQ Tryz.prog (bodyC Tryz.f125) [true, true, true, true, true, true, true, true, false, false] (retQ Tryz.prog Tryz.f125 R))) .normal [nth g 0, nth g 1, nth g 2, nth g 3, nth g 4, .int .u64 n_5, .string rest_6, .int .i64 err_7, nth g 5, .slice out_9a out_9b out_9c, at_10, step_11, value_12, nth g 6, nth g 7, nth g 8, nth g 9, nth g 10, nth g 11, nth g 12, nth g 13, nth g 14, nth g 15, nth g 16, nth g 17, nth g 18, nth g 19, nth g 20, nth g 21, nth g 22, nth g 23, nth g 24, nth g 25, nth g 26, nth g 27, nth g 28, nth g 29, nth g 30, nth g 31, nth g 32, nth g 33, nth g 34, nth g 35, nth g 36, nth g 37, nth g 38, nth g 39, nth g 40, nth g 41, nth g 42, nth g 43, nth g 44, nth g 45, nth g 46, nth g 47, nth g 48, nth g 49, nth g 50, nth g 51, nth g 52, nth g 53, nth g 54, nth g 55, nth g 56, nth g 57, nth g 58, nth g 59, nth g 60, nth g 61, nth g 62, nth g 63, nth g 64, nth g 65, nth g 66, nth g 67, nth g 68, nth g 69, nth g 70, nth g 71, nth g 72, nth g 73, nth g 74, nth g 75, nth g 76, nth g 77, nth g 78, nth g 79, nth g 80, nth g 81, nth g 82, nth g 83, nth g 84, nth g 85, nth g 86, nth g 87, nth g 88, nth g 89, nth g 90, nth g 91, nth g 92, nth g 93, nth g 94] w) (fun m rest_6 err_7 out_9a out_9b out_9c g w hm hI => ⟨m, hm, rest_6, err_7, out_9a, out_9b, out_9c, g, rfl, hI⟩))
theorem calls (R : Ending → World → Prop) (s_0 : ByteArray) (w : World) (h : vc R s_0 w) : Calls Tryz.prog 125 #[.string s_0] w R :=
  calls_V Tryz.func125 (Eq.mpr (by kernel_rfl) (h (fun n_5 rest_6 err_7 out_9a out_9b out_9c at_10 step_11 value_12 g w => atV Tryz.prog (bodyC Tryz.f125) [true, true, true, true, true, true, true, true, false, false] (retQ Tryz.prog Tryz.f125 R) [nth g 0, nth g 1, nth g 2, nth g 3, nth g 4, .int .u64 n_5, .string rest_6, .int .i64 err_7, nth g 5, .slice out_9a out_9b out_9c, at_10, step_11, value_12, nth g 6, nth g 7, nth g 8, nth g 9, nth g 10, nth g 11, nth g 12, nth g 13, nth g 14, nth g 15, nth g 16, nth g 17, nth g 18, nth g 19, nth g 20, nth g 21, nth g 22, nth g 23, nth g 24, nth g 25, nth g 26, nth g 27, nth g 28, nth g 29, nth g 30, nth g 31, nth g 32, nth g 33, nth g 34, nth g 35, nth g 36, nth g 37, nth g 38, nth g 39, nth g 40, nth g 41, nth g 42, nth g 43, nth g 44, nth g 45, nth g 46, nth g 47, nth g 48, nth g 49, nth g 50, nth g 51, nth g 52, nth g 53, nth g 54, nth g 55, nth g 56, nth g 57, nth g 58, nth g 59, nth g 60, nth g 61, nth g 62, nth g 63, nth g 64, nth g 65, nth g 66, nth g 67, nth g 68, nth g 69, nth g 70, nth g 71, nth g 72, nth g 73, nth g 74, nth g 75, nth g 76, nth g 77, nth g 78, nth g 79, nth g 80, nth g 81, nth g 82, nth g 83, nth g 84, nth g 85, nth g 86, nth g 87, nth g 88, nth g 89, nth g 90, nth g 91, nth g 92, nth g 93, nth g 94] w) (fun n_5 rest_6 err_7 out_9a out_9b out_9c at_10 step_11 value_12 g w h => at0 R n_5 rest_6 err_7 out_9a out_9b out_9c at_10 step_11 value_12 g w h)))
end sample_Take
end Go.Proofs.YtcofknlcdgidpaaGreatDoor
/-! ## Smp -/
namespace Go.Proofs.YtcofknlcdgidpaaGreatDoor
open Go Go.RowKit Go.Proofs.YtcofknlcdgidpaaGreatDoor.VC
set_option linter.unusedVariables false
set_option maxRecDepth 100000

/-- A box that holds a signed number. -/
abbrev Box (b : Nat) (n : Int) (w : World) : Prop := Blk w b 2 [.int .i64 n]
def chgF (b : Nat) : Value := .func (.func 169) #[] #[.pointer (some ⟨b, 0, none⟩)]
def sumF (b : Nat) : Value := .func (.func 215) #[] #[.pointer (some ⟨b, 0, none⟩)]
theorem sample_changes_ (n : Int) (w0 : World) :
    Calls Tryz.prog 120 #[.int .i64 n] w0 (fun e w => e = .returned (chgF w0.heap.size) ∧ Box w0.heap.size n w ∧ Below w0.heap.size w0 w ∧ w.heap.size = w0.heap.size + 1) := by
  apply sample_changes.calls
  unfold sample_changes.vc sample_changes.t0
  exact var1V fun w6 hblk hb hs => ⟨rfl, hblk, hb, hs⟩
theorem sample_sums_ (n : Int) (w0 : World) :
    Calls Tryz.prog 174 #[.int .i64 n] w0 (fun e w => e = .returned (sumF w0.heap.size) ∧ Box w0.heap.size n w ∧ Below w0.heap.size w0 w ∧ w.heap.size = w0.heap.size + 1) := by
  apply sample_sums.calls
  unfold sample_sums.vc sample_sums.t0
  exact var1V fun w6 hblk hb hs => ⟨rfl, hblk, hb, hs⟩
theorem sample_changes1_ (b : Nat) (l n : Int) (w0 : World) (h : Box b l w0) :
    Calls Tryz.prog 169 #[.int .i64 n, .pointer (some ⟨b, 0, none⟩)] w0 (fun e w => e = .returned (.int .i64 (IntKind.wrap .i64 (n - l))) ∧ w = w0.setCell ⟨b, 0, none⟩ (.int .i64 n)) := by
  apply sample_changes_1.calls
  unfold sample_changes_1.vc sample_changes_1.t0
  refine someV_some rfl ⟨_, h.cell rfl, someV_some rfl ⟨h.writable (Nat.le_refl 1), ?_⟩⟩
  rintro w4 rfl
  exact ⟨rfl, rfl⟩
theorem sample_sums1_ (b : Nat) (l n : Int) (w0 : World) (h : Box b l w0) :
    Calls Tryz.prog 215 #[.int .i64 n, .pointer (some ⟨b, 0, none⟩)] w0 (fun e w => e = .returned (.int .i64 (IntKind.wrap .i64 (l + n))) ∧ w = w0.setCell ⟨b, 0, none⟩ (.int .i64 (IntKind.wrap .i64 (l + n)))) := by
  apply sample_sums_1.calls
  unfold sample_sums_1.vc sample_sums_1.t0
  refine someV_some rfl ⟨_, h.cell rfl, someV_some rfl ⟨h.writable (Nat.le_refl 1), ?_⟩⟩
  rintro w4 rfl
  exact someV_some rfl ⟨_, (h.set 0 _).cell rfl, rfl, rfl⟩

/-! ### Put -/
def smpPutGo (at_ st v : Int) : List (Nat × Int) → List UInt8
  | [] => []
  | x :: r =>
    let a := IntKind.wrap .i64 (x.1 : Int)
    let d := IntKind.wrap .i64 (a - at_)
    numB (zz (IntKind.wrap .i64 (d - st))) ++ numB (zz (IntKind.wrap .i64 (x.2 - v))) ++ smpPutGo a d x.2 r
def smpB : List (Nat × Int) → List UInt8
  | [] => []
  | x :: r => numB (r.length + 1) ++ numB x.1 ++ numB (zz x.2) ++ smpPutGo (IntKind.wrap .i64 (x.1 : Int)) 0 x.2 r
theorem wrapi_lo (n : Int) : -9223372036854775808 ≤ IntKind.wrap .i64 n := by rw [wrap_i64_eq]; split <;> omega
theorem wrapi_hi (n : Int) : IntKind.wrap .i64 n < 9223372036854775808 := by rw [wrap_i64_eq]; split <;> omega
theorem zzw_len (n : Int) : (numB (zz (IntKind.wrap .i64 n))).length ≤ 10 := numB_len10 (zz_lt (wrapi_lo n) (wrapi_hi n))
theorem smpPutGo_len : ∀ (l : List (Nat × Int)) (a b c : Int), (smpPutGo a b c l).length ≤ 20 * l.length
  | [], _, _, _ => by simp [smpPutGo]
  | x :: r, a, b, c => by
    have h1 := smpPutGo_len r (IntKind.wrap .i64 (x.1 : Int)) (IntKind.wrap .i64 (IntKind.wrap .i64 (x.1 : Int) - a)) x.2
    have h2 := zzw_len (IntKind.wrap .i64 (IntKind.wrap .i64 (x.1 : Int) - a) - b)
    have h3 := zzw_len (x.2 - c)
    simp only [smpPutGo, List.length_append, List.length_cons]; omega
/-- The state of 'sample.Put' between two steps. -/
structure PutSt (B b sa sd sv : Nat) (A D V : Int) (X : List UInt8) (w0 w : World) : Prop where
  bld : Bld B b X w
  ba : Box sa A w
  bd : Box sd D w
  bv : Box sv V w
  ne1 : b < sa
  ne2 : sa < sd
  ne3 : sd < sv
  bel : Below w0.heap.size w0 w
  hB : w0.heap.size ≤ B
theorem Bld.setBox {B b : Nat} {bs : List UInt8} {w : World} (h : Bld B b bs w) {k : Nat} {n : Int} (hk : Box k n w) (hne : b ≠ k) (u : Value) : Bld B b bs (w.setCell ⟨k, 0, none⟩ u) :=
  h.kept (setCell_grown w ⟨k, 0, none⟩ u) (by simp; exact hne) (by
    intro k' c e e' cs hh
    cases e
    unfold Box Blk at hk
    rw [hk] at hh
    simp only [Option.some.injEq, Obj.cells.injEq] at hh
    rw [← hh.2.1]; decide) (fun k' e => by cases e; exact ⟨_, _, _, hk⟩)
section
variable {B b sa sd sv : Nat} {A D V : Int} {X : List UInt8} {w0 w : World}
theorem PutSt.below {w' : World} (h : PutSt B b sa sd sv A D V X w0 w) (hb : Below w.heap.size w w') : PutSt B b sa sd sv A D V X w0 w' :=
  { h with bld := h.bld.below hb, ba := h.ba.below hb h.ba.lt, bd := h.bd.below hb h.bd.lt, bv := h.bv.below hb h.bv.lt, bel := h.bel.trans (hb.mono h.bel.size) }
theorem PutSt.le (h : PutSt B b sa sd sv A D V X w0 w) : B ≤ b := by obtain ⟨p, hp, hB, _⟩ := h.bld; exact hB
theorem PutSt.setA (h : PutSt B b sa sd sv A D V X w0 w) (n : Int) : PutSt B b sa sd sv n D V X w0 (w.setCell ⟨sa, 0, none⟩ (.int .i64 n)) :=
  have h1 := h.ne1; have h2 := h.ne2; have h3 := h.ne3; have h4 := h.le; have h5 := h.hB
  { h with bld := h.bld.setBox h.ba (by omega) _, ba := h.ba.set 0 _, bd := h.bd.other (by simp; omega) _, bv := h.bv.other (by simp; omega) _, bel := h.bel.setCell (by simp; omega) _ }
theorem PutSt.setD (h : PutSt B b sa sd sv A D V X w0 w) (n : Int) : PutSt B b sa sd sv A n V X w0 (w.setCell ⟨sd, 0, none⟩ (.int .i64 n)) :=
  have h1 := h.ne1; have h2 := h.ne2; have h3 := h.ne3; have h4 := h.le; have h5 := h.hB
  { h with bld := h.bld.setBox h.bd (by omega) _, bd := h.bd.set 0 _, ba := h.ba.other (by simp; omega) _, bv := h.bv.other (by simp; omega) _, bel := h.bel.setCell (by simp; omega) _ }
theorem PutSt.setV (h : PutSt B b sa sd sv A D V X w0 w) (n : Int) : PutSt B b sa sd sv A D n X w0 (w.setCell ⟨sv, 0, none⟩ (.int .i64 n)) :=
  have h1 := h.ne1; have h2 := h.ne2; have h3 := h.ne3; have h4 := h.le; have h5 := h.hB
  { h with bld := h.bld.setBox h.bv (by omega) _, bv := h.bv.set 0 _, ba := h.ba.other (by simp; omega) _, bd := h.bd.other (by simp; omega) _, bel := h.bel.setCell (by simp; omega) _ }
theorem PutSt.write {s : List UInt8} {w' : World} (h : PutSt B b sa sd sv A D V X w0 w) (h1 : Bld B b (X ++ s) w') (h2 : Below B w w') (h3 : Oth b w w') : PutSt B b sa sd sv A D V (X ++ s) w0 w' :=
  have e1 := h.ne1; have e2 := h.ne2; have e3 := h.ne3
  { h with bld := h1, ba := Blk.oth h.ba h3 (by omega) (by decide), bd := Blk.oth h.bd h3 (by omega) (by decide), bv := Blk.oth h.bv h3 (by omega) (by decide), bel := h.bel.trans (h2.mono h.hB) }
end
def smpPutR (w0 : World) (l : List (Nat × Int)) (e : Ending) (w : World) : Prop := Below w0.heap.size w0 w ∧ e = .returned (if smpCheck l = 0 then .tuple #[.string (S (smpB l)), .int .i64 0] else .tuple #[.string ⟨#[]⟩, .int .i64 (smpCheck l)])

theorem sample_put (l : List (Nat × Int)) (hl : l.length < 9223372036854775807) (hv : ∀ x ∈ l, x.1 < 18446744073709551616 ∧ -9223372036854775808 ≤ x.2 ∧ x.2 < 9223372036854775808) (a : Option Addr) (c : Nat) (hc : l.length ≤ c) (w0 : World) (hrow : RowAt w0 a (smpCs l)) :
    Calls Tryz.prog 82 #[.slice a l.length c] w0 (smpPutR w0 l) := by
  apply sample_Put.calls
  intro L0 hL
  unfold sample_Put.t0
  refine (sample_check l hl a c hc w0 hrow).mono ?_
  rintro e w2 ⟨rfl, hb2⟩
  refine ⟨_, rfl, ?_⟩
  by_cases hck' : ¬ smpCheck l = 0
  · have hck := hck'
    exact boolT (by simp; omega) ⟨hb2, by rw [if_neg hck]⟩
  have hck := Decidable.not_not.mp hck'
  refine boolF (by simp [hck]) ?_
  have hlen : ¬ (l.length = 0 ∨ 20 < l.length) := fun h => by rw [smpCheck, if_pos h] at hck; omega
  obtain ⟨x, r, rfl⟩ : ∃ x r, l = x :: r := by
    cases l with
    | nil => simp at hlen
    | cons x r => exact ⟨x, r, rfl⟩
  have hr20 : r.length + 1 ≤ 20 := by simp at hlen; omega
  obtain ⟨g, o, rfl⟩ := hrow.some_of (by simp [smpCs, smpC])
  obtain ⟨hx1, hx2, hx3⟩ := hv x (by simp)
  refine allocV (cs := [.pointer none, .slice none 0 0]) ?_
  intro w5 hblk hb5 hs5
  have hbld : Bld w2.heap.size w2.heap.size [] w5 := ⟨none, .inl rfl, Nat.le_refl _, _, hblk, World.ownsRow_nil _ _ _ _, by simp [Value.ownBlock]⟩
  have hb5' := hb2.trans (hb5.mono hb2.size)
  refine ⟨fun W => RowAt W (some ⟨g, o, none⟩) (smpCs (x :: r)), ?_⟩
  intro w7 e1 e2 e3 e4
  have hs7 := same_below (w := w5) (w' := w7) w5.heap.size e1 e2 e3 e4
  have hb7 := hb5'.trans (hs7.mono hb5'.size)
  have hbld7 := hbld.below hs7
  refine ⟨hrow.below hb7 (Nat.le_refl _), someV_some rfl ⟨⟨by decide, by simp⟩, _, fun W hW => hW.smp0.1, someV_some rfl ⟨⟨by decide, by simp⟩, _, fun W hW => hW.smp0.2, ?_⟩⟩⟩
  have hwl : IntKind.wrap .u64 ((((x :: r).length : Nat)) : Int) = ((r.length + 1 : Nat) : Int) := by rw [wrap_u64, Nat.mod_eq_of_lt (by simp; omega)]; simp
  rw [hwl]
  have n1 := numB_len10 (n := r.length + 1) (by omega)
  have n2 := numB_len10 hx1
  have n3 := numB_len10 (zz_lt hx2 hx3)
  refine (num_put _ (by omega) w7).mono ?_
  rintro e w13 ⟨rfl, h13⟩
  have hb13 := hb7.trans (h13.mono hb7.size)
  have hbld13 := hbld7.below h13
  refine ⟨_, rfl, hrow.below hb13 (Nat.le_refl _), (num_put _ hx1 w13).mono ?_⟩
  rintro e w16 ⟨rfl, h16⟩
  have hb16 := hb13.trans (h16.mono hb13.size)
  have hbld16 := hbld13.below h16
  refine ⟨_, rfl, hrow.below hb16 (Nat.le_refl _), by show (numB _).length + (numB _).length ≤ _; omega, (num_putInt _ hx2 hx3 w16).mono ?_⟩
  rintro e w19 ⟨rfl, h19⟩
  have hb19 := hb16.trans (h19.mono hb16.size)
  have hbld19 := hbld16.below h19
  refine ⟨_, rfl, hrow.below hb19 (Nat.le_refl _), by rw [S_append, S_size, S_size, List.length_append]; omega, ?_⟩
  rw [S_append, S_append]
  refine (Builder_WriteString _ _ _ _ w19 hbld19 (by simp; omega) (Nat.le_of_lt hbld19.lt)).mono ?_
  rintro e w22 ⟨rfl, hbld22, h22, ho22⟩
  have hb22 := hb19.trans (h22.mono hb2.size)
  refine ⟨_, _, rfl, fun W => RowAt W (some ⟨g, o, none⟩) (smpCs (x :: r)), ?_⟩
  intro w26 e1 e2 e3 e4
  have hs26 := same_below (w := w22) (w' := w26) w22.heap.size e1 e2 e3 e4
  have hb26 := hb22.trans (hs26.mono hb22.size)
  have hbld26 := hbld22.below hs26
  refine ⟨hrow.below hb26 (Nat.le_refl _), someV_some rfl ⟨⟨by decide, by simp⟩, _, fun W hW => hW.smp0.1, someV_some rfl ⟨⟨by decide, by simp⟩, _, fun W hW => hW.smp0.2, ?_⟩⟩⟩
  refine (sample_changes_ _ w26).mono ?_
  rintro e w32 ⟨rfl, hA, h32, s32⟩
  have hb32 := hb26.trans (h32.mono hb26.size)
  have hbld32 := hbld26.below h32
  refine ⟨_, rfl, hrow.below hb32 (Nat.le_refl _), (sample_changes_ _ w32).mono ?_⟩
  rintro e w35 ⟨rfl, hD, h35, s35⟩
  have hb35 := hb32.trans (h35.mono hb32.size)
  have hbld35 := hbld32.below h35
  have hA35 := hA.below h35 hA.lt
  refine ⟨_, rfl, hrow.below hb35 (Nat.le_refl _), (sample_changes_ _ w35).mono ?_⟩
  rintro e w38 ⟨rfl, hV, h38, s38⟩
  have hb38 := hb35.trans (h38.mono hb35.size)
  have hbld38 := hbld35.below h38
  have hA38 := hA35.below h38 hA35.lt
  have hD38 := hD.below h38 hD.lt
  refine ⟨_, rfl, hrow.below hb38 (Nat.le_refl _), ⟨by decide, by simp; omega⟩, ?_⟩
  rintro a40 rfl
  have hrow1 : RowAt w0 (sliceAddr (some ⟨g, o, none⟩) c (1 : Int).toNat 2) (smpCs r) := by
    have := hrow.drop (c := c) (k := 1) (size := 2) (by rw [smpCs_len]; omega)
    rwa [smpCs_drop1] at this
  refine hL _ _ _ _ _ _ _ _ _ _ _ ?_
  have hlt26 := hbld26.lt
  refine ⟨fun m xx w => ∃ i : Nat, xx = (i : Int) ∧ i ≤ r.length ∧ m = r.length - i ∧ ∃ A D V X, PutSt w2.heap.size w2.heap.size w26.heap.size w32.heap.size w35.heap.size A D V X w0 w ∧ X ++ smpPutGo A D V (r.drop i) = smpB (x :: r) ∧ X.length ≤ 30 + 20 * i, _,
    ⟨0, rfl, by omega, rfl, _, _, _, _, ⟨hbld38, hA38, hD38, hV, hlt26, by omega, by omega, hb38, hb2.size⟩, rfl, by simp; omega⟩, ?_⟩
  rintro m xx gg w ⟨i, rfl, hi, rfl, A, D, V, X, st, hX, hXl⟩ Back hback
  unfold sample_Put.t1
  have er : ((x :: r).length - (1 : Int).toNat : Nat) = r.length := rfl
  rw [er]
  by_cases hlt : i < r.length
  · have hli : r[i]? = some r[i] := List.getElem?_eq_getElem hlt
    obtain ⟨hy1, hy2, hy3⟩ := hv r[i] (by simp)
    obtain ⟨q, hq, c0, c1⟩ := (hrow1.below st.bel (Nat.le_refl _)).smp hli
    refine boolT (by simp; omega) (someV_some hq ⟨⟨by omega, by omega⟩, _, _, ⟨c0, c1⟩, var2V ?_⟩)
    intro w6 hv6 hb6 hs6
    have st6 := st.below hb6
    have l1 := st.ba.lt
    have l2 := st.bd.lt
    have l3 := st.bv.lt
    have l4 := st.bld.lt
    refine ⟨fun W => Blk W w.heap.size 114 [.int .u64 r[i].1, .int .i64 r[i].2], ?_⟩
    intro w8 e1 e2 e3 e4
    have hs8 := same_below (w := w6) (w' := w8) w6.heap.size e1 e2 e3 e4
    have st8 := st6.below hs8
    have hv8 := hv6.same e1
    refine ⟨hv8, _, fun W hW => hW.cell (j := 0) rfl, _, fun W hW => hW.cell (j := 1) rfl, ?_⟩
    refine funcV_call (by kernel_rfl) ((sample_changes1_ w26.heap.size A _ w8 st8.ba).mono ?_)
    rintro e w12 ⟨rfl, rfl⟩
    have st12 := st8.setA (IntKind.wrap .i64 (r[i].1 : Int))
    have hv12 := hv8.other (p := ⟨w26.heap.size, 0, none⟩) (by simp; omega) (.int .i64 (IntKind.wrap .i64 (r[i].1 : Int)))
    refine ⟨_, rfl, hv12, funcV_call (by kernel_rfl) ((sample_changes1_ w32.heap.size D _ _ st12.bd).mono ?_)⟩
    rintro e w18 ⟨rfl, rfl⟩
    have st18 := st12.setD (IntKind.wrap .i64 (IntKind.wrap .i64 (r[i].1 : Int) - A))
    have hv18 := hv12.other (p := ⟨w32.heap.size, 0, none⟩) (by simp; omega) (.int .i64 (IntKind.wrap .i64 (IntKind.wrap .i64 (r[i].1 : Int) - A)))
    refine ⟨_, rfl, hv18, (num_putInt _ (wrapi_lo _) (wrapi_hi _) _).mono ?_⟩
    rintro e w24 ⟨rfl, h24⟩
    have st24 := st18.below h24
    have hv24 := hv18.below h24 hv18.lt
    refine ⟨_, rfl, hv24, funcV_call (by kernel_rfl) ((sample_changes1_ w35.heap.size V _ _ st24.bv).mono ?_)⟩
    rintro e w27 ⟨rfl, rfl⟩
    have st27 := st24.setV r[i].2
    have hv27 := hv24.other (p := ⟨w35.heap.size, 0, none⟩) (by simp; omega) (.int .i64 r[i].2)
    refine ⟨_, rfl, hv27, (num_putInt _ (wrapi_lo _) (wrapi_hi _) _).mono ?_⟩
    rintro e w33 ⟨rfl, h33⟩
    have st33 := st27.below h33
    have hv33 := hv27.below h33 hv27.lt
    have z1 := zzw_len (IntKind.wrap .i64 (IntKind.wrap .i64 (r[i].1 : Int) - A) - D)
    have z2 := zzw_len (r[i].2 - V)
    refine ⟨_, rfl, hv33, by show (numB _).length + (numB _).length ≤ _; omega, ?_⟩
    rw [S_append]
    refine (Builder_WriteString _ _ _ _ w33 st33.bld (by simp; omega) (Nat.le_of_lt st33.bld.lt)).mono ?_
    rintro e w36 ⟨rfl, hbld36, h36, ho36⟩
    have st36 := st33.write hbld36 h36 ho36
    have hv36 := Blk.oth hv33 ho36 (by omega) (by decide)
    refine ⟨_, _, rfl, hback (r.length - (i + 1)) _ _ _ (by omega) ⟨i + 1, ?_, by omega, rfl, _, _, _, _, st36, ?_, by simp; omega⟩⟩
    · rw [wrap_i64 (by omega) (by omega)]; omega
    · rw [← hX, List.drop_eq_getElem_cons hlt, smpPutGo, List.append_assoc, List.append_assoc]
  · refine boolF (by simp; omega) ((Builder_String _ _ _ w st.bld (Nat.le_of_lt st.bld.lt)).mono ?_)
    rintro e w40 ⟨rfl, hb40⟩
    refine ⟨_, rfl, st.bel.trans (hb40.mono hb2.size), ?_⟩
    rw [if_pos hck, ← hX, List.drop_eq_nil_of_le (by omega), smpPutGo, List.append_nil]
end Go.Proofs.YtcofknlcdgidpaaGreatDoor
/-! ## GagentCheck -/
namespace Go.Proofs.YtcofknlcdgidpaaGreatDoor
open Go Go.Proofs.YtcofknlcdgidpaaGreatDoor.VC
set_option linter.unusedVariables false
set_option maxRecDepth 100000
set_option maxHeartbeats 0

/-! ### postroom/agent.Check: function 8 -/
namespace agent_Check
def t0 (R : Ending → World → Prop)  (c_0a : Int) (c_0b : Int) (c_0c : Int) (c_0d : Int) (c_0e : Int) (c_0f : Int) (c_0g : Int) (w : World) : Prop := ∀ (b1 : Nat) (w2 : World), b1 = w.heap.size → w2 = World.alloc w (.cells #[.int .i64 c_0a, .int .i64 c_0b, .int .i64 c_0c, .int .u64 c_0d, .int .u64 c_0e, .int .u64 c_0f, .int .i64 c_0g] 28) → ∃ x3 : Int, ∃ x4 : Int, (w2.cell? ⟨b1, 0, none⟩ = some (.int .i64 x3) ∧ w2.cell? ⟨b1, 1, none⟩ = some (.int .i64 x4)) ∧ (Calls Tryz.prog 33 #[.agg #[.int .i64 x3, .int .i64 x4]] w2 (fun e5 w6 => ∃ x7 : Int, e5 = .returned (.int .i64 x7) ∧ (boolV (x7 != (0 : Int)) (R (.returned (.int .i64 1)) w6) (∃ x8 : Int, ∃ x9 : Int, ∃ x10 : Int, ∃ x11 : Int, (w6.cell? ⟨b1, 2, none⟩ = some (.int .i64 x8) ∧ w6.cell? ⟨b1, 3, none⟩ = some (.int .u64 x9) ∧ w6.cell? ⟨b1, 4, none⟩ = some (.int .u64 x10) ∧ w6.cell? ⟨b1, 5, none⟩ = some (.int .u64 x11)) ∧ (Calls Tryz.prog 34 #[.agg #[.int .i64 x8, .int .u64 x9, .int .u64 x10, .int .u64 x11]] w6 (fun e12 w13 => ∃ x14 : Int, e12 = .returned (.int .i64 x14) ∧ (boolV (x14 != (0 : Int)) (R (.returned (.int .i64 1)) w13) (∃ x15 : Int, w13.cell? ⟨b1, 6, none⟩ = some (.int .i64 x15) ∧ (boolV (decide (x15 < (1 : Int))) (R (.returned (.int .i64 1)) w13) (∃ x16 : Int, w13.cell? ⟨b1, 6, none⟩ = some (.int .i64 x16) ∧ (boolV (decide (x16 > (8 : Int))) (R (.returned (.int .i64 1)) w13) (R (.returned (.int .i64 0)) w13))))))))))))
def vc (R : Ending → World → Prop) (c_0a : Int) (c_0b : Int) (c_0c : Int) (c_0d : Int) (c_0e : Int) (c_0f : Int) (c_0g : Int) (w : World) : Prop := t0 R  c_0a c_0b c_0c c_0d c_0e c_0f c_0g w
theorem calls (R : Ending → World → Prop) (c_0a : Int) (c_0b : Int) (c_0c : Int) (c_0d : Int) (c_0e : Int) (c_0f : Int) (c_0g : Int) (w : World) (h : vc R c_0a c_0b c_0c c_0d c_0e c_0f c_0g w) : Calls Tryz.prog 8 #[.agg #[.int .i64 c_0a, .int .i64 c_0b, .int .i64 c_0c, .int .u64 c_0d, .int .u64 c_0e, .int .u64 c_0f, .int .i64 c_0g]] w R :=
  calls_V Tryz.func8 (Eq.mpr (by kernel_rfl) (h))
end agent_Check
end Go.Proofs.YtcofknlcdgidpaaGreatDoor
/-! ## GspoolCheck -/
namespace Go.Proofs.YtcofknlcdgidpaaGreatDoor
open Go Go.Proofs.YtcofknlcdgidpaaGreatDoor.VC
set_option linter.unusedVariables false
set_option maxRecDepth 100000
set_option maxHeartbeats 0

/-! ### postroom/spool.Check: function 33 -/
namespace spool_Check
def t0 (R : Ending → World → Prop)  (c_0a : Int) (c_0b : Int) (w : World) : Prop := ∀ (b1 : Nat) (w2 : World), b1 = w.heap.size → w2 = World.alloc w (.cells #[.int .i64 c_0a, .int .i64 c_0b] 23) → ∃ x3 : Int, w2.cell? ⟨b1, 1, none⟩ = some (.int .i64 x3) ∧ (boolV (decide (x3 < (1 : Int))) (R (.returned (.int .i64 1)) w2) (∃ x4 : Int, w2.cell? ⟨b1, 1, none⟩ = some (.int .i64 x4) ∧ (∃ x5 : Int, w2.cell? ⟨b1, 0, none⟩ = some (.int .i64 x5) ∧ (boolV (decide (x4 > x5)) (R (.returned (.int .i64 1)) w2) (∃ x6 : Int, w2.cell? ⟨b1, 0, none⟩ = some (.int .i64 x6) ∧ (boolV (decide (x6 < (2016 : Int))) (R (.returned (.int .i64 1)) w2) (R (.returned (.int .i64 0)) w2)))))))
def vc (R : Ending → World → Prop) (c_0a : Int) (c_0b : Int) (w : World) : Prop := t0 R  c_0a c_0b w
theorem calls (R : Ending → World → Prop) (c_0a : Int) (c_0b : Int) (w : World) (h : vc R c_0a c_0b w) : Calls Tryz.prog 33 #[.agg #[.int .i64 c_0a, .int .i64 c_0b]] w R :=
  calls_V Tryz.func33 (Eq.mpr (by kernel_rfl) (h))
end spool_Check
end Go.Proofs.YtcofknlcdgidpaaGreatDoor
/-! ## GsenderCheck -/
namespace Go.Proofs.YtcofknlcdgidpaaGreatDoor
open Go Go.Proofs.YtcofknlcdgidpaaGreatDoor.VC
set_option linter.unusedVariables false
set_option maxRecDepth 100000
set_option maxHeartbeats 0

/-! ### postroom/sender.Check: function 34 -/
namespace sender_Check
def t0 (R : Ending → World → Prop)  (c_0a : Int) (c_0b : Int) (c_0c : Int) (c_0d : Int) (w : World) : Prop := ∀ (b1 : Nat) (w2 : World), b1 = w.heap.size → w2 = World.alloc w (.cells #[.int .i64 c_0a, .int .u64 c_0b, .int .u64 c_0c, .int .u64 c_0d] 26) → ∃ x3 : Int, w2.cell? ⟨b1, 0, none⟩ = some (.int .i64 x3) ∧ (boolV (decide (x3 < (1 : Int))) (R (.returned (.int .i64 1)) w2) (∃ x4 : Int, w2.cell? ⟨b1, 0, none⟩ = some (.int .i64 x4) ∧ (boolV (decide (x4 > (100 : Int))) (R (.returned (.int .i64 1)) w2) (∃ x5 : Int, w2.cell? ⟨b1, 1, none⟩ = some (.int .u64 x5) ∧ (boolV (x5 == (0 : Int)) (R (.returned (.int .i64 1)) w2) (∃ x6 : Int, w2.cell? ⟨b1, 2, none⟩ = some (.int .u64 x6) ∧ (boolV (x6 == (0 : Int)) (R (.returned (.int .i64 1)) w2) (∃ x7 : Int, w2.cell? ⟨b1, 3, none⟩ = some (.int .u64 x7) ∧ (∃ x8 : Int, w2.cell? ⟨b1, 2, none⟩ = some (.int .u64 x8) ∧ (boolV (decide (x7 < x8)) (R (.returned (.int .i64 1)) w2) (R (.returned (.int .i64 0)) w2)))))))))))
def vc (R : Ending → World → Prop) (c_0a : Int) (c_0b : Int) (c_0c : Int) (c_0d : Int) (w : World) : Prop := t0 R  c_0a c_0b c_0c c_0d w
theorem calls (R : Ending → World → Prop) (c_0a : Int) (c_0b : Int) (c_0c : Int) (c_0d : Int) (w : World) (h : vc R c_0a c_0b c_0c c_0d w) : Calls Tryz.prog 34 #[.agg #[.int .i64 c_0a, .int .u64 c_0b, .int .u64 c_0c, .int .u64 c_0d]] w R :=
  calls_V Tryz.func34 (Eq.mpr (by kernel_rfl) (h))
end sender_Check
end Go.Proofs.YtcofknlcdgidpaaGreatDoor
/-! ## GshardHash -/
namespace Go.Proofs.YtcofknlcdgidpaaGreatDoor
open Go Go.Proofs.YtcofknlcdgidpaaGreatDoor.VC
set_option linter.unusedVariables false
set_option maxRecDepth 100000
set_option maxHeartbeats 0

/-! ### postroom/shard.Hash: function 110 -/
namespace shard_Hash
def t1 (R : Ending → World → Prop)  (Back0 : Int → Int → List Value → World → Prop)  (s_0 : ByteArray) (h_3 : Int) (x_6 : Int) (x_7 : Int) (g : List Value) (w : World) : Prop := boolV (decide (x_7 < x_6)) ((0 ≤ x_7 ∧ x_7 < s_0.size) ∧ (Back0 (IntKind.wrap .u64 ((Go.bits .xor .u64 h_3 (IntKind.wrap .u64 ((byteAt s_0 x_7.toNat).toNat : Int))) * 1099511628211)) (IntKind.wrap .i64 (x_7 + 1)) [nth g 0, nth g 1, .int .i64 x_7, nth g 3, .bool (decide (x_7 < x_6)), .int .i64 x_7, .int .u64 h_3, .string s_0, .int .i64 x_7, .int .u8 ((byteAt s_0 x_7.toNat).toNat : Int), .int .u64 (IntKind.wrap .u64 ((byteAt s_0 x_7.toNat).toNat : Int)), .int .u64 (Go.bits .xor .u64 h_3 (IntKind.wrap .u64 ((byteAt s_0 x_7.toNat).toNat : Int))), .int .u64 (IntKind.wrap .u64 ((Go.bits .xor .u64 h_3 (IntKind.wrap .u64 ((byteAt s_0 x_7.toNat).toNat : Int))) * 1099511628211)), .int .i64 (IntKind.wrap .i64 (x_7 + 1)), nth g 14] w)) (R (.returned (.int .u64 h_3)) w)
def W0 (R : Ending → World → Prop)  (s_0 : ByteArray) (h_3 : Int) (x_6 : Int) (x_7 : Int) (w : World) : Prop := ∃ (I : Nat → Int → Int → World → Prop) (n : Nat), I n h_3 x_7 w ∧ ∀ (n : Nat) (h_3 : Int) (x_7 : Int) (g : List Value) (w : World), I n h_3 x_7 w → ∀ (Back0 : Int → Int → List Value → World → Prop), (∀ (m : Nat) (h_3 : Int) (x_7 : Int) (g : List Value) (w : World), m < n → I m h_3 x_7 w → Back0 h_3 x_7 g w) → t1 R  Back0  s_0 h_3 x_6 x_7 g w
def t0 (R : Ending → World → Prop) (L0 : ByteArray → Int → Int → Int → List Value → World → Prop) (s_0 : ByteArray) (w : World) : Prop := L0 s_0 14695981039346656037 ((s_0.size : Nat) : Int) 0 [undef, .int .u64 0, undef, .string s_0, undef, undef, undef, undef, undef, undef, undef, undef, undef, undef, undef] w
def vc (R : Ending → World → Prop) (s_0 : ByteArray) (w : World) : Prop := ∀ (L0 : ByteArray → Int → Int → Int → List Value → World → Prop), (∀ s_0 h_3 x_6 x_7 g w, W0 R s_0 h_3 x_6 x_7 w → L0 s_0 h_3 x_6 x_7 g w) → t0 R L0 s_0 w
theorem at0 (R : Ending → World → Prop) (s_0 : ByteArray) (h_3 : Int) (x_6 : Int) (x_7 : Int) (g : List Value) (w : World) (h : W0 R  s_0 h_3 x_6 x_7 w) : atV Tryz.prog (bodyC Tryz.f110) [true, true, false, true, false] (retQ Tryz.prog Tryz.f110 R) [.string s_0, nth g 0, nth g 1, .int .u64 h_3, nth g 2, nth g 3, .int .i64 x_6, .int .i64 x_7, nth g 4, nth g 5, nth g 6, nth g 7, nth g 8, nth g 9, nth g 10, nth g 11, nth g 12, nth g 13, nth g 14] w := by
  obtain ⟨I, n0, h0, hs⟩ := h
  refine atV_loop (by kernel_rfl) (fun n s w => ∃ (h_3 : Int) (x_7 : Int) (g : List Value), s = [.string s_0, nth g 0, nth g 1, .int .u64 h_3, nth g 2, nth g 3, .int .i64 x_6, .int .i64 x_7, nth g 4, nth g 5, nth g 6, nth g 7, nth g 8, nth g 9, nth g 10, nth g 11, nth g 12, nth g 13, nth g 14] ∧ I n h_3 x_7 w) n0 ⟨_, _, _, rfl, h0⟩ ?_
  rintro n s w ⟨h_3, x_7, g, rfl, hI⟩
  exact Eq.mpr (by kernel_rfl) (hs n h_3 x_7 g w hI (fun h_3 x_7 g w => (backQ (fun n s w => ∃ (h_3 : Int) (x_7 : Int) (g : List Value), s = [.string s_0, nth g 0, nth g 1, .int .u64 h_3, nth g 2, nth g 3, .int .i64 x_6, .int .i64 x_7, nth g 4, nth g 5, nth g 6, nth g 7, nth g 8, nth g 9, nth g 10, nth g 11, nth g 12, nth g 13, nth g 14] ∧ I n h_3 x_7 w) n (ctxQ Tryz.prog (bodyC Tryz.f110) [true, true, false, true, false] (retQ Tryz.prog Tryz.f110 R))) .normal [.string s_0, nth g 0, nth g 1, .int .u64 h_3, nth g 2, nth g 3, .int .i64 x_6, .int .i64 x_7, nth g 4, nth g 5, nth g 6, nth g 7, nth g 8, nth g 9, nth g 10, nth g 11, nth g 12, nth g 13, nth g 14] w) (fun m h_3 x_7 g w hm hI => ⟨m, hm, h_3, x_7, g, rfl, hI⟩))
theorem calls (R : Ending → World → Prop) (s_0 : ByteArray) (w : World) (h : vc R s_0 w) : Calls Tryz.prog 110 #[.string s_0] w R :=
  calls_V Tryz.func110 (Eq.mpr (by kernel_rfl) (h (fun s_0 h_3 x_6 x_7 g w => atV Tryz.prog (bodyC Tryz.f110) [true, true, false, true, false] (retQ Tryz.prog Tryz.f110 R) [.string s_0, nth g 0, nth g 1, .int .u64 h_3, nth g 2, nth g 3, .int .i64 x_6, .int .i64 x_7, nth g 4, nth g 5, nth g 6, nth g 7, nth g 8, nth g 9, nth g 10, nth g 11, nth g 12, nth g 13, nth g 14] w) (fun s_0 h_3 x_6 x_7 g w h => at0 R s_0 h_3 x_6 x_7 g w h)))
end shard_Hash
end Go.Proofs.YtcofknlcdgidpaaGreatDoor
/-! ## GshardOf -/
namespace Go.Proofs.YtcofknlcdgidpaaGreatDoor
open Go Go.Proofs.YtcofknlcdgidpaaGreatDoor.VC
set_option linter.unusedVariables false
set_option maxRecDepth 100000
set_option maxHeartbeats 0

/-! ### postroom/shard.Of: function 78 -/
namespace shard_Of
def t0 (R : Ending → World → Prop)  (series_0 : ByteArray) (n_1 : Int) (w : World) : Prop := boolV (decide (n_1 < (1 : Int))) (R (.returned (.int .i64 0)) w) (boolV (decide (n_1 > (8 : Int))) (R (.returned (.int .i64 0)) w) (Calls Tryz.prog 110 #[.string series_0] w (fun e1 w2 => ∃ x3 : Int, e1 = .returned (.int .u64 x3) ∧ (nzV (IntKind.wrap .u64 n_1) (R (.returned (.int .i64 (IntKind.wrap .i64 (Int.tmod x3 (IntKind.wrap .u64 n_1))))) w2)))))
def vc (R : Ending → World → Prop) (series_0 : ByteArray) (n_1 : Int) (w : World) : Prop := t0 R  series_0 n_1 w
theorem calls (R : Ending → World → Prop) (series_0 : ByteArray) (n_1 : Int) (w : World) (h : vc R series_0 n_1 w) : Calls Tryz.prog 78 #[.string series_0, .int .i64 n_1] w R :=
  calls_V Tryz.func78 (Eq.mpr (by kernel_rfl) (h))
end shard_Of
end Go.Proofs.YtcofknlcdgidpaaGreatDoor
/-! ## GentryPut -/
namespace Go.Proofs.YtcofknlcdgidpaaGreatDoor
open Go Go.Proofs.YtcofknlcdgidpaaGreatDoor.VC
set_option linter.unusedVariables false
set_option maxRecDepth 100000
set_option maxHeartbeats 0

/-! ### postroom/entry.Put: function 43 -/
namespace entry_Put
def t0 (R : Ending → World → Prop)  (e_0a : Option Addr) (e_0b : Nat) (e_0c : Nat) (e_0d : Option Addr) (e_0e : Nat) (e_0f : Nat) (w : World) : Prop := ∀ (b1 : Nat) (w2 : World), b1 = w.heap.size → w2 = World.alloc w (.cells #[.slice e_0a e_0b e_0c, .slice e_0d e_0e e_0f] 53) → ∃ (a3 : Option Addr) (n4 c5 : Nat), ∃ (a6 : Option Addr) (n7 c8 : Nat), (w2.cell? ⟨b1, 0, none⟩ = some (.slice a3 n4 c5) ∧ w2.cell? ⟨b1, 1, none⟩ = some (.slice a6 n7 c8)) ∧ (Calls Tryz.prog 80 #[.agg #[.slice a3 n4 c5, .slice a6 n7 c8]] w2 (fun e9 w10 => ∃ x11 : Int, e9 = .returned (.int .i64 x11) ∧ (boolV (x11 != (0 : Int)) (R (.returned (.tuple #[.string ⟨#[]⟩, .int .i64 x11])) w10) (∃ (a12 : Option Addr) (n13 c14 : Nat), w10.cell? ⟨b1, 0, none⟩ = some (.slice a12 n13 c14) ∧ (Calls Tryz.prog 81 #[.slice a12 n13 c14] w10 (fun e15 w16 => ∃ s17 : ByteArray, ∃ x18 : Int, e15 = .returned (.tuple #[.string s17, .int .i64 x18]) ∧ (∃ (a19 : Option Addr) (n20 c21 : Nat), w16.cell? ⟨b1, 1, none⟩ = some (.slice a19 n20 c21) ∧ (Calls Tryz.prog 82 #[.slice a19 n20 c21] w16 (fun e22 w23 => ∃ s24 : ByteArray, ∃ x25 : Int, e22 = .returned (.tuple #[.string s24, .int .i64 x25]) ∧ (s17.size + s24.size ≤ 9223372036854775807 ∧ (R (.returned (.tuple #[.string (s17 ++ s24), .int .i64 0])) w23)))))))))))
def vc (R : Ending → World → Prop) (e_0a : Option Addr) (e_0b : Nat) (e_0c : Nat) (e_0d : Option Addr) (e_0e : Nat) (e_0f : Nat) (w : World) : Prop := t0 R  e_0a e_0b e_0c e_0d e_0e e_0f w
theorem calls (R : Ending → World → Prop) (e_0a : Option Addr) (e_0b : Nat) (e_0c : Nat) (e_0d : Option Addr) (e_0e : Nat) (e_0f : Nat) (w : World) (h : vc R e_0a e_0b e_0c e_0d e_0e e_0f w) : Calls Tryz.prog 43 #[.agg #[.slice e_0a e_0b e_0c, .slice e_0d e_0e e_0f]] w R :=
  calls_V Tryz.func43 (Eq.mpr (by kernel_rfl) (h))
end entry_Put
end Go.Proofs.YtcofknlcdgidpaaGreatDoor
/-! ## GentrySeries -/
namespace Go.Proofs.YtcofknlcdgidpaaGreatDoor
open Go Go.Proofs.YtcofknlcdgidpaaGreatDoor.VC
set_option linter.unusedVariables false
set_option maxRecDepth 100000
set_option maxHeartbeats 0

/-! ### postroom/entry.Series: function 46 -/
namespace entry_Series
def t0 (R : Ending → World → Prop)  (e_0a : Option Addr) (e_0b : Nat) (e_0c : Nat) (e_0d : Option Addr) (e_0e : Nat) (e_0f : Nat) (w : World) : Prop := ∀ (b1 : Nat) (w2 : World), b1 = w.heap.size → w2 = World.alloc w (.cells #[.slice e_0a e_0b e_0c, .slice e_0d e_0e e_0f] 53) → ∃ (a3 : Option Addr) (n4 c5 : Nat), w2.cell? ⟨b1, 0, none⟩ = some (.slice a3 n4 c5) ∧ (Calls Tryz.prog 81 #[.slice a3 n4 c5] w2 (fun e6 w7 => ∃ s8 : ByteArray, ∃ x9 : Int, e6 = .returned (.tuple #[.string s8, .int .i64 x9]) ∧ (R (.returned (.tuple #[.string s8, .int .i64 x9])) w7)))
def vc (R : Ending → World → Prop) (e_0a : Option Addr) (e_0b : Nat) (e_0c : Nat) (e_0d : Option Addr) (e_0e : Nat) (e_0f : Nat) (w : World) : Prop := t0 R  e_0a e_0b e_0c e_0d e_0e e_0f w
theorem calls (R : Ending → World → Prop) (e_0a : Option Addr) (e_0b : Nat) (e_0c : Nat) (e_0d : Option Addr) (e_0e : Nat) (e_0f : Nat) (w : World) (h : vc R e_0a e_0b e_0c e_0d e_0e e_0f w) : Calls Tryz.prog 46 #[.agg #[.slice e_0a e_0b e_0c, .slice e_0d e_0e e_0f]] w R :=
  calls_V Tryz.func46 (Eq.mpr (by kernel_rfl) (h))
end entry_Series
end Go.Proofs.YtcofknlcdgidpaaGreatDoor
