/- Part 4 of a proof by parts: contracts of functions that the statement reaches, by the text that each is of. Conditions: as each states them. -/
import Derived.Test.YtcofknlcdgidpaaGreatDoorProg
import Derived.KernelRfl
import Derived.Maps.RangeRun
import Derived.Test.YtcofknlcdgidpaaGreatDoorZE3
/-! ## Led5 -/
namespace Go.Proofs.YtcofknlcdgidpaaGreatDoor
open Go Go.RowKit Go.Proofs.YtcofknlcdgidpaaGreatDoor.VC
set_option linter.unusedVariables false
set_option maxRecDepth 100000

def ackD (d : Dest) (next : Nat) : Dest := { doneD d (d.low + 1) next with acked := d.acked + (max d.low (min (d.low + 1) next) - d.low) }
theorem ledger_done_ack (w0 : World) (first next : Nat) (hnx : next < 4294967296) (l : List DestL) (hl : l.length ≤ 429496729) (hpl : plainD l) (hab : AboveAt w0 l) (name : Txt) (i : Nat) (x : DestL) (hp : placeP (ds l) name = ((i : Nat) : Int)) (hx : l[i]? = some x) (hlow : x.d.low < next) (hak : x.d.acked < 4294967296) (a : Option Addr) (c : Nat) (hrow : RowAt w0 a (destCs l)) :
    Calls Tryz.prog 75 #[.agg #[.int .u64 first, .int .u64 next, .slice a l.length c], .string (S name), .int .u64 x.d.low, .int .u8 97] w0 (fun e w => Below w0.heap.size w0 w ∧ ∃ a' c' ad cd, e = .returned (.tuple #[.agg #[.int .u64 first, .int .u64 next, .slice a' l.length c'], .int .i64 0]) ∧ w.ownsRow w0.heap.size 63 7 (.slice a' l.length c') l.length (destCs (l.set i ⟨ackD x.d next, ad, cd⟩))) := by
  apply ledger_Done.calls
  unfold ledger_Done.vc ledger_Done.t0
  have hi : i < l.length := (List.getElem?_eq_some_iff.1 hx).1
  obtain ⟨hab0, hlo, hev⟩ := hpl x (List.mem_of_getElem? hx)
  refine allocV (cs := [.int .u64 first, .int .u64 next, .slice a l.length c]) ?_
  intro w2 h1 hb2 hs2
  refine allocV (cs := [.int .u64 0, .int .u64 0, .slice none 0 0]) ?_
  intro w4 h3 hb4 hs4
  have hb4' := hb2.trans (hb4.mono hb2.size)
  have h14 := h1.below hb4 h1.lt
  refine ⟨_, _, _, h14.cell (j := 2) rfl, (ledger_place_ l (by omega) name a c w4 (hrow.below hb4' (Nat.le_refl _))).mono ?_⟩
  rintro e w9 ⟨rfl, hb9⟩
  have hb9' := hb4'.trans (hb9.mono hb4'.size)
  have h19 := h14.below hb9 h14.lt
  have h39 := h3.below hb9 h3.lt
  rw [hp]
  refine ⟨_, rfl, boolF (by simp) (boolF rfl ⟨fun W => Blk W w0.heap.size 37 [.int .u64 first, .int .u64 next, .slice a l.length c] ∧ RowAt W a (destCs l), ?_⟩)⟩
  intro w212 e1 e2 e3 e4
  have hb212 := hb9'.trans (same_below w0.heap.size e1 e2 e3 e4)
  have h1212 := h19.same e1
  have h3212 := h39.same e1
  have hrow212 := hrow.below hb212 (Nat.le_refl _)
  obtain ⟨q, hq, _⟩ := rowDest hrow212 hx
  have rd : ∀ W, RowAt W a (destCs l) → Reads7 W (q.add (i * 7)) x := fun W hW => by
    obtain ⟨q', hq', hr⟩ := rowDest hW hx
    rw [hq] at hq'; cases hq'; exact hr
  refine ⟨⟨h1212, hrow212⟩, _, _, _, fun W hW => hW.1.cell (j := 2) rfl, someV_some hq ⟨⟨by omega, by omega⟩, _, _, _, _, _, _, _, _, _, fun W hW => rd W hW.2, _, fun W hW => hW.1.cell (j := 1) rfl, ?_⟩⟩
  obtain ⟨hxc, hxl, hxr⟩ := hab x (List.mem_of_getElem? hx)
  refine (ledger_waits x hxl x.d.low next w212 (hxr.below hb212 (Nat.le_refl _))).mono ?_
  rintro e w228 ⟨rfl, hb228⟩
  have hwt : waitsD x.d x.d.low next = true := by simp [waitsD, hab0, hlow]
  have hb228' := hb212.trans (hb228.mono hb212.size)
  have h1228 := h1212.below hb228 h1212.lt
  have h3228 := h3212.below hb228 h3212.lt
  refine ⟨_, rfl, ⟨h1228, hrow.below hb228' (Nat.le_refl _)⟩, boolF (by rw [hwt]; rfl) ⟨_, _, _, h1228.cell (j := 2) rfl, (clone_dest l (by omega) a c w228 (hrow.below hb228' (Nat.le_refl _))).mono ?_⟩⟩
  rintro e w240 ⟨a', c', rfl, ho, hb240⟩
  have hb240' := hb228'.trans (hb240.mono hb228'.size)
  have h1240 := h1228.below hb240 h1228.lt
  have h3240 := h3228.below hb240 h3228.lt
  refine ⟨_, _, _, rfl, h1240.writable (o := 2) (by simp), ?_⟩
  rintro w244 rfl
  have h1244 := h1240.set 2 (.slice a' l.length c')
  have h3244 := h3240.other (p := ⟨w0.heap.size, 2, none⟩) (by simp; omega) (.slice a' l.length c')
  have ho244 := own_mono (own_set ho h1240 (by decide) 2 (.slice a' l.length c')) hb228'.size
  have hb244 := hb240'.setCell (p := ⟨w0.heap.size, 2, none⟩) (Nat.le_refl _) (.slice a' l.length c')
  refine ⟨fun W => Blk W w0.heap.size 37 [.int .u64 first, .int .u64 next, .slice a' l.length c'] ∧ RowAt W a' (destCs l), ?_⟩
  intro w246 e1 e2 e3 e4
  have hsb := same_below (w := w240.setCell ⟨w0.heap.size, 2, none⟩ (.slice a' l.length c')) (w' := w246) (w240.setCell ⟨w0.heap.size, 2, none⟩ (.slice a' l.length c')).heap.size e1 e2 e3 e4
  have hb246 := hb244.trans (hsb.mono hb244.size)
  have h1246 := h1244.same e1
  have h3246 := h3244.same e1
  have ho246 := own_below ho244 hsb
  obtain ⟨q2, hq2, _⟩ := rowDest (RowAt.of_own ho246) hx
  have rd2 : ∀ W, RowAt W a' (destCs l) → Reads7 W (q2.add (i * 7)) x := fun W hW => by
    obtain ⟨q', hq', hr⟩ := rowDest hW hx
    rw [hq2] at hq'; cases hq'; exact hr
  have hw1 : IntKind.wrap .u64 ((x.d.low : Int) + 1) = ((x.d.low + 1 : Nat) : Int) := by rw [show ((x.d.low : Int) + 1) = ((x.d.low + 1 : Nat) : Int) from by omega, wrap_u64, Nat.mod_eq_of_lt (by omega)]
  rw [hw1]
  refine ⟨⟨h1246, RowAt.of_own ho246⟩, _, _, _, fun W hW => hW.1.cell (j := 2) rfl, someV_some hq2 ⟨⟨by omega, by omega⟩, _, _, _, _, _, _, _, _, _, fun W hW => rd2 W hW.2, _, fun W hW => hW.1.cell (j := 1) rfl, ?_, ?_⟩⟩
  · have hak' : IntKind.wrap .u64 ((((doneD x.d (x.d.low + 1) next).acked : Nat) : Int) + ((max x.d.low (min (x.d.low + 1) next) - x.d.low : Nat) : Int)) = ((x.d.acked + (max x.d.low (min (x.d.low + 1) next) - x.d.low) : Nat) : Int) := by
      show IntKind.wrap .u64 (((x.d.acked : Nat) : Int) + _) = _
      rw [show (((x.d.acked : Nat) : Int) + ((max x.d.low (min (x.d.low + 1) next) - x.d.low : Nat) : Int)) = ((x.d.acked + (max x.d.low (min (x.d.low + 1) next) - x.d.low) : Nat) : Int) from by omega, wrap_u64, Nat.mod_eq_of_lt (by omega)]
    refine (dest_done0 x hab0 x.d.low (x.d.low + 1) next (Nat.le_refl _) hlo (by omega) hnx w246).mono ?_
    rintro e w262 ⟨hb262, ad, cd, rfl⟩
    refine ⟨_, _, _, _, _, _, _, _, _, _, rfl, ⟨h1246.below hb262 h1246.lt, (RowAt.of_own ho246).below hb262 (Nat.le_refl _)⟩, allocV (cs := zeroDest.cells) ?_⟩
    intro w274 hv274 hb274 hs274
    have hb274' : Below w246.heap.size w246 w274 := hb262.trans (hb274.mono hb262.size)
    refine ⟨⟨h1246.below hb274' h1246.lt, (RowAt.of_own ho246).below hb274' (Nat.le_refl _)⟩, st7V hv274 ?_⟩
    intro W hv hgW hsW
    obtain ⟨b, hb⟩ : ∃ b, b = w262.heap.size := ⟨_, rfl⟩
    rw [← hb] at hv hgW hv274 ⊢
    have hbge : w246.heap.size ≤ b := by rw [hb]; exact hb262.size
    have hbWW : Below w246.heap.size w246 W := below_grown hb274' hgW hb274'.size hbge
    have hW1 := h1246.below hbWW h1246.lt
    have hW3 := h3246.below hbWW h3246.lt
    have hoW := own_below ho246 hbWW
    have hbW := hb246.trans (hbWW.mono hb246.size)
    have k1 := h1246.lt
    have k3 := h3246.lt
    refine ⟨⟨hW1, RowAt.of_own hoW⟩, ?_⟩
    refine boolT rfl ⟨_, hv.cell (j := 4) rfl, hv.writable (o := 4) (by simp), ?_⟩
    rintro wa rfl
    rw [hak']
    have hva := hv.set 4 (.int .u64 ((x.d.acked + (max x.d.low (min (x.d.low + 1) next) - x.d.low) : Nat) : Int))
    obtain ⟨X, hX⟩ : ∃ X : DestL, X = ⟨ackD x.d next, ad, cd⟩ := ⟨_, rfl⟩
    have hvX : Blk (W.setCell ⟨b, 4, none⟩ (.int .u64 ((x.d.acked + (max x.d.low (min (x.d.low + 1) next) - x.d.low) : Nat) : Int))) b 63 X.cells := by rw [hX]; exact hva
    have hBa := hW1.other (p := ⟨b, 4, none⟩) (by simp; omega) (.int .u64 ((x.d.acked + (max x.d.low (min (x.d.low + 1) next) - x.d.low) : Nat) : Int))
    have hCa := hW3.other (p := ⟨b, 4, none⟩) (by simp; omega) (.int .u64 ((x.d.acked + (max x.d.low (min (x.d.low + 1) next) - x.d.low) : Nat) : Int))
    have hoa := hoW.kept (setCell_grown W ⟨b, 4, none⟩ (.int .u64 ((x.d.acked + (max x.d.low (min (x.d.low + 1) next) - x.d.low) : Nat) : Int))) (.inr (fun e => by have := (ho246.lt _ e).2; simp at this; omega))
    have hba := hbW.setCell (p := ⟨b, 4, none⟩) (by simp; have := hb246.size; omega) (.int .u64 ((x.d.acked + (max x.d.low (min (x.d.low + 1) next) - x.d.low) : Nat) : Int))
    refine ⟨_, _, _, hBa.cell (j := 2) rfl, S X.d.name, X.d.since, X.d.low, X.a, X.d.above.length, X.c, X.d.acked, X.d.evicted, X.d.rejected, ⟨hvX.cell (j := 0) rfl, hvX.cell (j := 1) rfl, hvX.cell (j := 2) rfl, hvX.cell (j := 3) rfl, hvX.cell (j := 4) rfl, hvX.cell (j := 5) rfl, hvX.cell (j := 6) rfl⟩, st7row hoa rfl hi X ?_⟩
    subst hX
    intro p54 w54 ho54 hg54 hs54
    have n1 := own_ne hoa hBa (by decide)
    have n3 := own_ne hoa hCa (by decide)
    have hB54 := hBa.grown hg54 (fun e => n1 e.symm)
    have hC54 := hCa.grown hg54 (fun e => n3 e.symm)
    have hb54 := hba.grown hg54 (by have := hbW.size; simpa [World.setCell] using this) (fun k hk => (hoa.lt k hk).1)
    refine ⟨_, _, _, _, _, ⟨hB54.cell (j := 0) rfl, hB54.cell (j := 1) rfl, hB54.cell (j := 2) rfl⟩, st3V hC54 ?_⟩
    intro w60 hblk hg hs
    exact ⟨_, _, _, _, _, ⟨hblk.cell (j := 0) rfl, hblk.cell (j := 1) rfl, hblk.cell (j := 2) rfl⟩, below_grown hb54 hg hb54.size hb2.size, _, _, ad, cd, rfl, ho54.kept hg (.inr (own_ne ho54 hC54 (by decide)))⟩
  · have hak' : IntKind.wrap .u64 ((((doneD x.d (x.d.low + 1) next).acked : Nat) : Int) + ((max x.d.low (min (x.d.low + 1) next) - x.d.low : Nat) : Int)) = ((x.d.acked + (max x.d.low (min (x.d.low + 1) next) - x.d.low) : Nat) : Int) := by
      show IntKind.wrap .u64 (((x.d.acked : Nat) : Int) + _) = _
      rw [show (((x.d.acked : Nat) : Int) + ((max x.d.low (min (x.d.low + 1) next) - x.d.low : Nat) : Int)) = ((x.d.acked + (max x.d.low (min (x.d.low + 1) next) - x.d.low) : Nat) : Int) from by omega, wrap_u64, Nat.mod_eq_of_lt (by omega)]
    refine allocV (cs := zeroDest.cells) ?_
    intro w331 hv331 hb331 hs331
    refine ⟨⟨h1246.below hb331 h1246.lt, (RowAt.of_own ho246).below hb331 (Nat.le_refl _)⟩, (dest_done0 x hab0 x.d.low (x.d.low + 1) next (Nat.le_refl _) hlo (by omega) hnx w331).mono ?_⟩
    rintro e w333 ⟨hb333, ad, cd, rfl⟩
    have hb333' : Below w246.heap.size w246 w333 := hb331.trans (hb333.mono hb331.size)
    have hv333 := hv331.below hb333 hv331.lt
    refine ⟨_, _, _, _, _, _, _, _, _, _, rfl, ⟨h1246.below hb333' h1246.lt, (RowAt.of_own ho246).below hb333' (Nat.le_refl _)⟩, st7V hv333 ?_⟩
    intro W hv hgW hsW
    obtain ⟨b, hb⟩ : ∃ b, b = w246.heap.size := ⟨_, rfl⟩
    rw [← hb] at hv hgW hv333 ⊢
    have hbge : w246.heap.size ≤ b := by rw [hb]; exact Nat.le_refl _
    have hbWW : Below w246.heap.size w246 W := below_grown hb333' hgW hb333'.size hbge
    have hW1 := h1246.below hbWW h1246.lt
    have hW3 := h3246.below hbWW h3246.lt
    have hoW := own_below ho246 hbWW
    have hbW := hb246.trans (hbWW.mono hb246.size)
    have k1 := h1246.lt
    have k3 := h3246.lt
    refine ⟨⟨hW1, RowAt.of_own hoW⟩, ?_⟩
    refine boolT rfl ⟨_, hv.cell (j := 4) rfl, hv.writable (o := 4) (by simp), ?_⟩
    rintro wa rfl
    rw [hak']
    have hva := hv.set 4 (.int .u64 ((x.d.acked + (max x.d.low (min (x.d.low + 1) next) - x.d.low) : Nat) : Int))
    obtain ⟨X, hX⟩ : ∃ X : DestL, X = ⟨ackD x.d next, ad, cd⟩ := ⟨_, rfl⟩
    have hvX : Blk (W.setCell ⟨b, 4, none⟩ (.int .u64 ((x.d.acked + (max x.d.low (min (x.d.low + 1) next) - x.d.low) : Nat) : Int))) b 63 X.cells := by rw [hX]; exact hva
    have hBa := hW1.other (p := ⟨b, 4, none⟩) (by simp; omega) (.int .u64 ((x.d.acked + (max x.d.low (min (x.d.low + 1) next) - x.d.low) : Nat) : Int))
    have hCa := hW3.other (p := ⟨b, 4, none⟩) (by simp; omega) (.int .u64 ((x.d.acked + (max x.d.low (min (x.d.low + 1) next) - x.d.low) : Nat) : Int))
    have hoa := hoW.kept (setCell_grown W ⟨b, 4, none⟩ (.int .u64 ((x.d.acked + (max x.d.low (min (x.d.low + 1) next) - x.d.low) : Nat) : Int))) (.inr (fun e => by have := (ho246.lt _ e).2; simp at this; omega))
    have hba := hbW.setCell (p := ⟨b, 4, none⟩) (by simp; have := hb246.size; omega) (.int .u64 ((x.d.acked + (max x.d.low (min (x.d.low + 1) next) - x.d.low) : Nat) : Int))
    refine ⟨_, _, _, hBa.cell (j := 2) rfl, S X.d.name, X.d.since, X.d.low, X.a, X.d.above.length, X.c, X.d.acked, X.d.evicted, X.d.rejected, ⟨hvX.cell (j := 0) rfl, hvX.cell (j := 1) rfl, hvX.cell (j := 2) rfl, hvX.cell (j := 3) rfl, hvX.cell (j := 4) rfl, hvX.cell (j := 5) rfl, hvX.cell (j := 6) rfl⟩, st7row hoa rfl hi X ?_⟩
    subst hX
    intro p54 w54 ho54 hg54 hs54
    have n1 := own_ne hoa hBa (by decide)
    have n3 := own_ne hoa hCa (by decide)
    have hB54 := hBa.grown hg54 (fun e => n1 e.symm)
    have hC54 := hCa.grown hg54 (fun e => n3 e.symm)
    have hb54 := hba.grown hg54 (by have := hbW.size; simpa [World.setCell] using this) (fun k hk => (hoa.lt k hk).1)
    refine ⟨_, _, _, _, _, ⟨hB54.cell (j := 0) rfl, hB54.cell (j := 1) rfl, hB54.cell (j := 2) rfl⟩, st3V hC54 ?_⟩
    intro w60 hblk hg hs
    exact ⟨_, _, _, _, _, ⟨hblk.cell (j := 0) rfl, hblk.cell (j := 1) rfl, hblk.cell (j := 2) rfl⟩, below_grown hb54 hg hb54.size hb2.size, _, _, ad, cd, rfl, ho54.kept hg (.inr (own_ne ho54 hC54 (by decide)))⟩
end Go.Proofs.YtcofknlcdgidpaaGreatDoor
/-! ## GmodelNew -/
namespace Go.Proofs.YtcofknlcdgidpaaGreatDoor
open Go Go.Proofs.YtcofknlcdgidpaaGreatDoor.VC
set_option linter.unusedVariables false
set_option maxRecDepth 100000
set_option maxHeartbeats 0

/-! ### postroom/model.New: function 7 -/
namespace model_New
def t0 (R : Ending → World → Prop)  (c_0a : Int) (c_0b : Int) (c_0c : Int) (c_0d : Int) (c_0e : Int) (c_0f : Int) (c_0g : Int) (w : World) : Prop := ∀ (b1 : Nat) (w2 : World), b1 = w.heap.size → w2 = World.alloc w (.cells #[.int .i64 c_0a, .int .i64 c_0b, .int .i64 c_0c, .int .u64 c_0d, .int .u64 c_0e, .int .u64 c_0f, .int .i64 c_0g] 28) → ∃ x3 : Int, ∃ x4 : Int, ∃ x5 : Int, ∃ x6 : Int, ∃ x7 : Int, ∃ x8 : Int, ∃ x9 : Int, (w2.cell? ⟨b1, 0, none⟩ = some (.int .i64 x3) ∧ w2.cell? ⟨b1, 1, none⟩ = some (.int .i64 x4) ∧ w2.cell? ⟨b1, 2, none⟩ = some (.int .i64 x5) ∧ w2.cell? ⟨b1, 3, none⟩ = some (.int .u64 x6) ∧ w2.cell? ⟨b1, 4, none⟩ = some (.int .u64 x7) ∧ w2.cell? ⟨b1, 5, none⟩ = some (.int .u64 x8) ∧ w2.cell? ⟨b1, 6, none⟩ = some (.int .i64 x9)) ∧ (Calls Tryz.prog 8 #[.agg #[.int .i64 x3, .int .i64 x4, .int .i64 x5, .int .u64 x6, .int .u64 x7, .int .u64 x8, .int .i64 x9]] w2 (fun e10 w11 => ∃ x12 : Int, e10 = .returned (.int .i64 x12) ∧ (boolV (x12 != (0 : Int)) (R (.returned (.tuple #[.pointer none, .int .i64 x12])) w11) (∃ S13 : World → Prop, (∀ w14 : World, w14.heap = w11.heap → w14.tape = w11.tape → w14.os = w11.os → w14.output = w11.output → S13 w14 ∧ (∃ x15 : Int, ∃ x16 : Int, ∃ x17 : Int, ∃ x18 : Int, ∃ x19 : Int, ∃ x20 : Int, ∃ x21 : Int, (∀ w, S13 w → w.cell? ⟨b1, 0, none⟩ = some (.int .i64 x15) ∧ w.cell? ⟨b1, 1, none⟩ = some (.int .i64 x16) ∧ w.cell? ⟨b1, 2, none⟩ = some (.int .i64 x17) ∧ w.cell? ⟨b1, 3, none⟩ = some (.int .u64 x18) ∧ w.cell? ⟨b1, 4, none⟩ = some (.int .u64 x19) ∧ w.cell? ⟨b1, 5, none⟩ = some (.int .u64 x20) ∧ w.cell? ⟨b1, 6, none⟩ = some (.int .i64 x21)) ∧ (∃ x22 : Int, (∀ w, S13 w → w.cell? ⟨b1, 6, none⟩ = some (.int .i64 x22)) ∧ ((Calls Tryz.prog 32 #[] w14 (fun e23 w24 => ∃ x25 : Int, ∃ x26 : Int, ∃ (a27 : Option Addr) (n28 c29 : Nat), e23 = .returned (.agg #[.int .u64 x25, .int .u64 x26, .slice a27 n28 c29]) ∧ (S13 w24 ∧ ((∀ (b30 : Nat) (w31 : World), b30 = w24.heap.size → w31 = World.alloc w24 (.map #[] 0) → S13 w31 ∧ ((∀ (b32 : Nat) (w33 : World), b32 = w31.heap.size → w33 = World.alloc w31 (.cells #[.int .u64 1] 24) → S13 w33 ∧ (∀ (b34 : Nat) (w35 : World), b34 = w33.heap.size → w35 = World.alloc w33 (.map #[] 0) → S13 w35 ∧ (∀ (b36 : Nat) (w37 : World), b36 = w35.heap.size → w37 = World.alloc w35 (.cells #[.int .i64 x15, .int .i64 x16, .int .i64 x17, .int .u64 x18, .int .u64 x19, .int .u64 x20, .int .i64 x21, .int .u64 x25, .int .u64 x26, .slice a27 n28 c29, .map (some b30), .slice (some ⟨b32, 0, none⟩) 1 1, .int .u64 1, .int .i64 x22, .map (some b34), .int .u64 0, .int .u64 0, .bool false] 97) → S13 w37 ∧ (R (.returned (.tuple #[.pointer (some ⟨b36, 0, none⟩), .int .i64 0])) w37)))) ∧ (∀ (b38 : Nat) (w39 : World), b38 = w31.heap.size → w39 = World.alloc w31 (.map #[] 0) → S13 w39 ∧ (∀ (b40 : Nat) (w41 : World), b40 = w39.heap.size → w41 = World.alloc w39 (.cells #[.int .u64 1] 24) → S13 w41 ∧ (∀ (b42 : Nat) (w43 : World), b42 = w41.heap.size → w43 = World.alloc w41 (.cells #[.int .i64 x15, .int .i64 x16, .int .i64 x17, .int .u64 x18, .int .u64 x19, .int .u64 x20, .int .i64 x21, .int .u64 x25, .int .u64 x26, .slice a27 n28 c29, .map (some b30), .slice (some ⟨b40, 0, none⟩) 1 1, .int .u64 1, .int .i64 x22, .map (some b38), .int .u64 0, .int .u64 0, .bool false] 97) → S13 w43 ∧ (R (.returned (.tuple #[.pointer (some ⟨b42, 0, none⟩), .int .i64 0])) w43)))))) ∧ ((∀ (b44 : Nat) (w45 : World), b44 = w24.heap.size → w45 = World.alloc w24 (.cells #[.int .u64 1] 24) → S13 w45 ∧ ((∀ (b46 : Nat) (w47 : World), b46 = w45.heap.size → w47 = World.alloc w45 (.map #[] 0) → S13 w47 ∧ (∀ (b48 : Nat) (w49 : World), b48 = w47.heap.size → w49 = World.alloc w47 (.map #[] 0) → S13 w49 ∧ (∀ (b50 : Nat) (w51 : World), b50 = w49.heap.size → w51 = World.alloc w49 (.cells #[.int .i64 x15, .int .i64 x16, .int .i64 x17, .int .u64 x18, .int .u64 x19, .int .u64 x20, .int .i64 x21, .int .u64 x25, .int .u64 x26, .slice a27 n28 c29, .map (some b46), .slice (some ⟨b44, 0, none⟩) 1 1, .int .u64 1, .int .i64 x22, .map (some b48), .int .u64 0, .int .u64 0, .bool false] 97) → S13 w51 ∧ (R (.returned (.tuple #[.pointer (some ⟨b50, 0, none⟩), .int .i64 0])) w51)))) ∧ (∀ (b52 : Nat) (w53 : World), b52 = w45.heap.size → w53 = World.alloc w45 (.map #[] 0) → S13 w53 ∧ (∀ (b54 : Nat) (w55 : World), b54 = w53.heap.size → w55 = World.alloc w53 (.map #[] 0) → S13 w55 ∧ (∀ (b56 : Nat) (w57 : World), b56 = w55.heap.size → w57 = World.alloc w55 (.cells #[.int .i64 x15, .int .i64 x16, .int .i64 x17, .int .u64 x18, .int .u64 x19, .int .u64 x20, .int .i64 x21, .int .u64 x25, .int .u64 x26, .slice a27 n28 c29, .map (some b54), .slice (some ⟨b44, 0, none⟩) 1 1, .int .u64 1, .int .i64 x22, .map (some b52), .int .u64 0, .int .u64 0, .bool false] 97) → S13 w57 ∧ (R (.returned (.tuple #[.pointer (some ⟨b56, 0, none⟩), .int .i64 0])) w57)))))) ∧ (∀ (b58 : Nat) (w59 : World), b58 = w24.heap.size → w59 = World.alloc w24 (.map #[] 0) → S13 w59 ∧ ((∀ (b60 : Nat) (w61 : World), b60 = w59.heap.size → w61 = World.alloc w59 (.map #[] 0) → S13 w61 ∧ (∀ (b62 : Nat) (w63 : World), b62 = w61.heap.size → w63 = World.alloc w61 (.cells #[.int .u64 1] 24) → S13 w63 ∧ (∀ (b64 : Nat) (w65 : World), b64 = w63.heap.size → w65 = World.alloc w63 (.cells #[.int .i64 x15, .int .i64 x16, .int .i64 x17, .int .u64 x18, .int .u64 x19, .int .u64 x20, .int .i64 x21, .int .u64 x25, .int .u64 x26, .slice a27 n28 c29, .map (some b60), .slice (some ⟨b62, 0, none⟩) 1 1, .int .u64 1, .int .i64 x22, .map (some b58), .int .u64 0, .int .u64 0, .bool false] 97) → S13 w65 ∧ (R (.returned (.tuple #[.pointer (some ⟨b64, 0, none⟩), .int .i64 0])) w65)))) ∧ (∀ (b66 : Nat) (w67 : World), b66 = w59.heap.size → w67 = World.alloc w59 (.cells #[.int .u64 1] 24) → S13 w67 ∧ (∀ (b68 : Nat) (w69 : World), b68 = w67.heap.size → w69 = World.alloc w67 (.map #[] 0) → S13 w69 ∧ (∀ (b70 : Nat) (w71 : World), b70 = w69.heap.size → w71 = World.alloc w69 (.cells #[.int .i64 x15, .int .i64 x16, .int .i64 x17, .int .u64 x18, .int .u64 x19, .int .u64 x20, .int .i64 x21, .int .u64 x25, .int .u64 x26, .slice a27 n28 c29, .map (some b68), .slice (some ⟨b66, 0, none⟩) 1 1, .int .u64 1, .int .i64 x22, .map (some b58), .int .u64 0, .int .u64 0, .bool false] 97) → S13 w71 ∧ (R (.returned (.tuple #[.pointer (some ⟨b70, 0, none⟩), .int .i64 0])) w71))))))))))) ∧ ((∀ (b72 : Nat) (w73 : World), b72 = w14.heap.size → w73 = World.alloc w14 (.map #[] 0) → S13 w73 ∧ ((Calls Tryz.prog 32 #[] w73 (fun e74 w75 => ∃ x76 : Int, ∃ x77 : Int, ∃ (a78 : Option Addr) (n79 c80 : Nat), e74 = .returned (.agg #[.int .u64 x76, .int .u64 x77, .slice a78 n79 c80]) ∧ (S13 w75 ∧ ((∀ (b81 : Nat) (w82 : World), b81 = w75.heap.size → w82 = World.alloc w75 (.cells #[.int .u64 1] 24) → S13 w82 ∧ (∀ (b83 : Nat) (w84 : World), b83 = w82.heap.size → w84 = World.alloc w82 (.map #[] 0) → S13 w84 ∧ (∀ (b85 : Nat) (w86 : World), b85 = w84.heap.size → w86 = World.alloc w84 (.cells #[.int .i64 x15, .int .i64 x16, .int .i64 x17, .int .u64 x18, .int .u64 x19, .int .u64 x20, .int .i64 x21, .int .u64 x76, .int .u64 x77, .slice a78 n79 c80, .map (some b72), .slice (some ⟨b81, 0, none⟩) 1 1, .int .u64 1, .int .i64 x22, .map (some b83), .int .u64 0, .int .u64 0, .bool false] 97) → S13 w86 ∧ (R (.returned (.tuple #[.pointer (some ⟨b85, 0, none⟩), .int .i64 0])) w86)))) ∧ (∀ (b87 : Nat) (w88 : World), b87 = w75.heap.size → w88 = World.alloc w75 (.map #[] 0) → S13 w88 ∧ (∀ (b89 : Nat) (w90 : World), b89 = w88.heap.size → w90 = World.alloc w88 (.cells #[.int .u64 1] 24) → S13 w90 ∧ (∀ (b91 : Nat) (w92 : World), b91 = w90.heap.size → w92 = World.alloc w90 (.cells #[.int .i64 x15, .int .i64 x16, .int .i64 x17, .int .u64 x18, .int .u64 x19, .int .u64 x20, .int .i64 x21, .int .u64 x76, .int .u64 x77, .slice a78 n79 c80, .map (some b72), .slice (some ⟨b89, 0, none⟩) 1 1, .int .u64 1, .int .i64 x22, .map (some b87), .int .u64 0, .int .u64 0, .bool false] 97) → S13 w92 ∧ (R (.returned (.tuple #[.pointer (some ⟨b91, 0, none⟩), .int .i64 0])) w92)))))))) ∧ ((∀ (b93 : Nat) (w94 : World), b93 = w73.heap.size → w94 = World.alloc w73 (.cells #[.int .u64 1] 24) → S13 w94 ∧ ((Calls Tryz.prog 32 #[] w94 (fun e95 w96 => ∃ x97 : Int, ∃ x98 : Int, ∃ (a99 : Option Addr) (n100 c101 : Nat), e95 = .returned (.agg #[.int .u64 x97, .int .u64 x98, .slice a99 n100 c101]) ∧ (S13 w96 ∧ (∀ (b102 : Nat) (w103 : World), b102 = w96.heap.size → w103 = World.alloc w96 (.map #[] 0) → S13 w103 ∧ (∀ (b104 : Nat) (w105 : World), b104 = w103.heap.size → w105 = World.alloc w103 (.cells #[.int .i64 x15, .int .i64 x16, .int .i64 x17, .int .u64 x18, .int .u64 x19, .int .u64 x20, .int .i64 x21, .int .u64 x97, .int .u64 x98, .slice a99 n100 c101, .map (some b72), .slice (some ⟨b93, 0, none⟩) 1 1, .int .u64 1, .int .i64 x22, .map (some b102), .int .u64 0, .int .u64 0, .bool false] 97) → S13 w105 ∧ (R (.returned (.tuple #[.pointer (some ⟨b104, 0, none⟩), .int .i64 0])) w105)))))) ∧ (∀ (b106 : Nat) (w107 : World), b106 = w94.heap.size → w107 = World.alloc w94 (.map #[] 0) → S13 w107 ∧ (Calls Tryz.prog 32 #[] w107 (fun e108 w109 => ∃ x110 : Int, ∃ x111 : Int, ∃ (a112 : Option Addr) (n113 c114 : Nat), e108 = .returned (.agg #[.int .u64 x110, .int .u64 x111, .slice a112 n113 c114]) ∧ (S13 w109 ∧ (∀ (b115 : Nat) (w116 : World), b115 = w109.heap.size → w116 = World.alloc w109 (.cells #[.int .i64 x15, .int .i64 x16, .int .i64 x17, .int .u64 x18, .int .u64 x19, .int .u64 x20, .int .i64 x21, .int .u64 x110, .int .u64 x111, .slice a112 n113 c114, .map (some b72), .slice (some ⟨b93, 0, none⟩) 1 1, .int .u64 1, .int .i64 x22, .map (some b106), .int .u64 0, .int .u64 0, .bool false] 97) → S13 w116 ∧ (R (.returned (.tuple #[.pointer (some ⟨b115, 0, none⟩), .int .i64 0])) w116)))))))) ∧ (∀ (b117 : Nat) (w118 : World), b117 = w73.heap.size → w118 = World.alloc w73 (.map #[] 0) → S13 w118 ∧ ((Calls Tryz.prog 32 #[] w118 (fun e119 w120 => ∃ x121 : Int, ∃ x122 : Int, ∃ (a123 : Option Addr) (n124 c125 : Nat), e119 = .returned (.agg #[.int .u64 x121, .int .u64 x122, .slice a123 n124 c125]) ∧ (S13 w120 ∧ (∀ (b126 : Nat) (w127 : World), b126 = w120.heap.size → w127 = World.alloc w120 (.cells #[.int .u64 1] 24) → S13 w127 ∧ (∀ (b128 : Nat) (w129 : World), b128 = w127.heap.size → w129 = World.alloc w127 (.cells #[.int .i64 x15, .int .i64 x16, .int .i64 x17, .int .u64 x18, .int .u64 x19, .int .u64 x20, .int .i64 x21, .int .u64 x121, .int .u64 x122, .slice a123 n124 c125, .map (some b72), .slice (some ⟨b126, 0, none⟩) 1 1, .int .u64 1, .int .i64 x22, .map (some b117), .int .u64 0, .int .u64 0, .bool false] 97) → S13 w129 ∧ (R (.returned (.tuple #[.pointer (some ⟨b128, 0, none⟩), .int .i64 0])) w129)))))) ∧ (∀ (b130 : Nat) (w131 : World), b130 = w118.heap.size → w131 = World.alloc w118 (.cells #[.int .u64 1] 24) → S13 w131 ∧ (Calls Tryz.prog 32 #[] w131 (fun e132 w133 => ∃ x134 : Int, ∃ x135 : Int, ∃ (a136 : Option Addr) (n137 c138 : Nat), e132 = .returned (.agg #[.int .u64 x134, .int .u64 x135, .slice a136 n137 c138]) ∧ (S13 w133 ∧ (∀ (b139 : Nat) (w140 : World), b139 = w133.heap.size → w140 = World.alloc w133 (.cells #[.int .i64 x15, .int .i64 x16, .int .i64 x17, .int .u64 x18, .int .u64 x19, .int .u64 x20, .int .i64 x21, .int .u64 x134, .int .u64 x135, .slice a136 n137 c138, .map (some b72), .slice (some ⟨b130, 0, none⟩) 1 1, .int .u64 1, .int .i64 x22, .map (some b117), .int .u64 0, .int .u64 0, .bool false] 97) → S13 w140 ∧ (R (.returned (.tuple #[.pointer (some ⟨b139, 0, none⟩), .int .i64 0])) w140))))))))))) ∧ ((∀ (b141 : Nat) (w142 : World), b141 = w14.heap.size → w142 = World.alloc w14 (.cells #[.int .u64 1] 24) → S13 w142 ∧ ((Calls Tryz.prog 32 #[] w142 (fun e143 w144 => ∃ x145 : Int, ∃ x146 : Int, ∃ (a147 : Option Addr) (n148 c149 : Nat), e143 = .returned (.agg #[.int .u64 x145, .int .u64 x146, .slice a147 n148 c149]) ∧ (S13 w144 ∧ ((∀ (b150 : Nat) (w151 : World), b150 = w144.heap.size → w151 = World.alloc w144 (.map #[] 0) → S13 w151 ∧ (∀ (b152 : Nat) (w153 : World), b152 = w151.heap.size → w153 = World.alloc w151 (.map #[] 0) → S13 w153 ∧ (∀ (b154 : Nat) (w155 : World), b154 = w153.heap.size → w155 = World.alloc w153 (.cells #[.int .i64 x15, .int .i64 x16, .int .i64 x17, .int .u64 x18, .int .u64 x19, .int .u64 x20, .int .i64 x21, .int .u64 x145, .int .u64 x146, .slice a147 n148 c149, .map (some b150), .slice (some ⟨b141, 0, none⟩) 1 1, .int .u64 1, .int .i64 x22, .map (some b152), .int .u64 0, .int .u64 0, .bool false] 97) → S13 w155 ∧ (R (.returned (.tuple #[.pointer (some ⟨b154, 0, none⟩), .int .i64 0])) w155)))) ∧ (∀ (b156 : Nat) (w157 : World), b156 = w144.heap.size → w157 = World.alloc w144 (.map #[] 0) → S13 w157 ∧ (∀ (b158 : Nat) (w159 : World), b158 = w157.heap.size → w159 = World.alloc w157 (.map #[] 0) → S13 w159 ∧ (∀ (b160 : Nat) (w161 : World), b160 = w159.heap.size → w161 = World.alloc w159 (.cells #[.int .i64 x15, .int .i64 x16, .int .i64 x17, .int .u64 x18, .int .u64 x19, .int .u64 x20, .int .i64 x21, .int .u64 x145, .int .u64 x146, .slice a147 n148 c149, .map (some b158), .slice (some ⟨b141, 0, none⟩) 1 1, .int .u64 1, .int .i64 x22, .map (some b156), .int .u64 0, .int .u64 0, .bool false] 97) → S13 w161 ∧ (R (.returned (.tuple #[.pointer (some ⟨b160, 0, none⟩), .int .i64 0])) w161)))))))) ∧ ((∀ (b162 : Nat) (w163 : World), b162 = w142.heap.size → w163 = World.alloc w142 (.map #[] 0) → S13 w163 ∧ ((Calls Tryz.prog 32 #[] w163 (fun e164 w165 => ∃ x166 : Int, ∃ x167 : Int, ∃ (a168 : Option Addr) (n169 c170 : Nat), e164 = .returned (.agg #[.int .u64 x166, .int .u64 x167, .slice a168 n169 c170]) ∧ (S13 w165 ∧ (∀ (b171 : Nat) (w172 : World), b171 = w165.heap.size → w172 = World.alloc w165 (.map #[] 0) → S13 w172 ∧ (∀ (b173 : Nat) (w174 : World), b173 = w172.heap.size → w174 = World.alloc w172 (.cells #[.int .i64 x15, .int .i64 x16, .int .i64 x17, .int .u64 x18, .int .u64 x19, .int .u64 x20, .int .i64 x21, .int .u64 x166, .int .u64 x167, .slice a168 n169 c170, .map (some b162), .slice (some ⟨b141, 0, none⟩) 1 1, .int .u64 1, .int .i64 x22, .map (some b171), .int .u64 0, .int .u64 0, .bool false] 97) → S13 w174 ∧ (R (.returned (.tuple #[.pointer (some ⟨b173, 0, none⟩), .int .i64 0])) w174)))))) ∧ (∀ (b175 : Nat) (w176 : World), b175 = w163.heap.size → w176 = World.alloc w163 (.map #[] 0) → S13 w176 ∧ (Calls Tryz.prog 32 #[] w176 (fun e177 w178 => ∃ x179 : Int, ∃ x180 : Int, ∃ (a181 : Option Addr) (n182 c183 : Nat), e177 = .returned (.agg #[.int .u64 x179, .int .u64 x180, .slice a181 n182 c183]) ∧ (S13 w178 ∧ (∀ (b184 : Nat) (w185 : World), b184 = w178.heap.size → w185 = World.alloc w178 (.cells #[.int .i64 x15, .int .i64 x16, .int .i64 x17, .int .u64 x18, .int .u64 x19, .int .u64 x20, .int .i64 x21, .int .u64 x179, .int .u64 x180, .slice a181 n182 c183, .map (some b162), .slice (some ⟨b141, 0, none⟩) 1 1, .int .u64 1, .int .i64 x22, .map (some b175), .int .u64 0, .int .u64 0, .bool false] 97) → S13 w185 ∧ (R (.returned (.tuple #[.pointer (some ⟨b184, 0, none⟩), .int .i64 0])) w185)))))))) ∧ (∀ (b186 : Nat) (w187 : World), b186 = w142.heap.size → w187 = World.alloc w142 (.map #[] 0) → S13 w187 ∧ ((Calls Tryz.prog 32 #[] w187 (fun e188 w189 => ∃ x190 : Int, ∃ x191 : Int, ∃ (a192 : Option Addr) (n193 c194 : Nat), e188 = .returned (.agg #[.int .u64 x190, .int .u64 x191, .slice a192 n193 c194]) ∧ (S13 w189 ∧ (∀ (b195 : Nat) (w196 : World), b195 = w189.heap.size → w196 = World.alloc w189 (.map #[] 0) → S13 w196 ∧ (∀ (b197 : Nat) (w198 : World), b197 = w196.heap.size → w198 = World.alloc w196 (.cells #[.int .i64 x15, .int .i64 x16, .int .i64 x17, .int .u64 x18, .int .u64 x19, .int .u64 x20, .int .i64 x21, .int .u64 x190, .int .u64 x191, .slice a192 n193 c194, .map (some b195), .slice (some ⟨b141, 0, none⟩) 1 1, .int .u64 1, .int .i64 x22, .map (some b186), .int .u64 0, .int .u64 0, .bool false] 97) → S13 w198 ∧ (R (.returned (.tuple #[.pointer (some ⟨b197, 0, none⟩), .int .i64 0])) w198)))))) ∧ (∀ (b199 : Nat) (w200 : World), b199 = w187.heap.size → w200 = World.alloc w187 (.map #[] 0) → S13 w200 ∧ (Calls Tryz.prog 32 #[] w200 (fun e201 w202 => ∃ x203 : Int, ∃ x204 : Int, ∃ (a205 : Option Addr) (n206 c207 : Nat), e201 = .returned (.agg #[.int .u64 x203, .int .u64 x204, .slice a205 n206 c207]) ∧ (S13 w202 ∧ (∀ (b208 : Nat) (w209 : World), b208 = w202.heap.size → w209 = World.alloc w202 (.cells #[.int .i64 x15, .int .i64 x16, .int .i64 x17, .int .u64 x18, .int .u64 x19, .int .u64 x20, .int .i64 x21, .int .u64 x203, .int .u64 x204, .slice a205 n206 c207, .map (some b199), .slice (some ⟨b141, 0, none⟩) 1 1, .int .u64 1, .int .i64 x22, .map (some b186), .int .u64 0, .int .u64 0, .bool false] 97) → S13 w209 ∧ (R (.returned (.tuple #[.pointer (some ⟨b208, 0, none⟩), .int .i64 0])) w209))))))))))) ∧ (∀ (b210 : Nat) (w211 : World), b210 = w14.heap.size → w211 = World.alloc w14 (.map #[] 0) → S13 w211 ∧ ((Calls Tryz.prog 32 #[] w211 (fun e212 w213 => ∃ x214 : Int, ∃ x215 : Int, ∃ (a216 : Option Addr) (n217 c218 : Nat), e212 = .returned (.agg #[.int .u64 x214, .int .u64 x215, .slice a216 n217 c218]) ∧ (S13 w213 ∧ ((∀ (b219 : Nat) (w220 : World), b219 = w213.heap.size → w220 = World.alloc w213 (.map #[] 0) → S13 w220 ∧ (∀ (b221 : Nat) (w222 : World), b221 = w220.heap.size → w222 = World.alloc w220 (.cells #[.int .u64 1] 24) → S13 w222 ∧ (∀ (b223 : Nat) (w224 : World), b223 = w222.heap.size → w224 = World.alloc w222 (.cells #[.int .i64 x15, .int .i64 x16, .int .i64 x17, .int .u64 x18, .int .u64 x19, .int .u64 x20, .int .i64 x21, .int .u64 x214, .int .u64 x215, .slice a216 n217 c218, .map (some b219), .slice (some ⟨b221, 0, none⟩) 1 1, .int .u64 1, .int .i64 x22, .map (some b210), .int .u64 0, .int .u64 0, .bool false] 97) → S13 w224 ∧ (R (.returned (.tuple #[.pointer (some ⟨b223, 0, none⟩), .int .i64 0])) w224)))) ∧ (∀ (b225 : Nat) (w226 : World), b225 = w213.heap.size → w226 = World.alloc w213 (.cells #[.int .u64 1] 24) → S13 w226 ∧ (∀ (b227 : Nat) (w228 : World), b227 = w226.heap.size → w228 = World.alloc w226 (.map #[] 0) → S13 w228 ∧ (∀ (b229 : Nat) (w230 : World), b229 = w228.heap.size → w230 = World.alloc w228 (.cells #[.int .i64 x15, .int .i64 x16, .int .i64 x17, .int .u64 x18, .int .u64 x19, .int .u64 x20, .int .i64 x21, .int .u64 x214, .int .u64 x215, .slice a216 n217 c218, .map (some b227), .slice (some ⟨b225, 0, none⟩) 1 1, .int .u64 1, .int .i64 x22, .map (some b210), .int .u64 0, .int .u64 0, .bool false] 97) → S13 w230 ∧ (R (.returned (.tuple #[.pointer (some ⟨b229, 0, none⟩), .int .i64 0])) w230)))))))) ∧ ((∀ (b231 : Nat) (w232 : World), b231 = w211.heap.size → w232 = World.alloc w211 (.map #[] 0) → S13 w232 ∧ ((Calls Tryz.prog 32 #[] w232 (fun e233 w234 => ∃ x235 : Int, ∃ x236 : Int, ∃ (a237 : Option Addr) (n238 c239 : Nat), e233 = .returned (.agg #[.int .u64 x235, .int .u64 x236, .slice a237 n238 c239]) ∧ (S13 w234 ∧ (∀ (b240 : Nat) (w241 : World), b240 = w234.heap.size → w241 = World.alloc w234 (.cells #[.int .u64 1] 24) → S13 w241 ∧ (∀ (b242 : Nat) (w243 : World), b242 = w241.heap.size → w243 = World.alloc w241 (.cells #[.int .i64 x15, .int .i64 x16, .int .i64 x17, .int .u64 x18, .int .u64 x19, .int .u64 x20, .int .i64 x21, .int .u64 x235, .int .u64 x236, .slice a237 n238 c239, .map (some b231), .slice (some ⟨b240, 0, none⟩) 1 1, .int .u64 1, .int .i64 x22, .map (some b210), .int .u64 0, .int .u64 0, .bool false] 97) → S13 w243 ∧ (R (.returned (.tuple #[.pointer (some ⟨b242, 0, none⟩), .int .i64 0])) w243)))))) ∧ (∀ (b244 : Nat) (w245 : World), b244 = w232.heap.size → w245 = World.alloc w232 (.cells #[.int .u64 1] 24) → S13 w245 ∧ (Calls Tryz.prog 32 #[] w245 (fun e246 w247 => ∃ x248 : Int, ∃ x249 : Int, ∃ (a250 : Option Addr) (n251 c252 : Nat), e246 = .returned (.agg #[.int .u64 x248, .int .u64 x249, .slice a250 n251 c252]) ∧ (S13 w247 ∧ (∀ (b253 : Nat) (w254 : World), b253 = w247.heap.size → w254 = World.alloc w247 (.cells #[.int .i64 x15, .int .i64 x16, .int .i64 x17, .int .u64 x18, .int .u64 x19, .int .u64 x20, .int .i64 x21, .int .u64 x248, .int .u64 x249, .slice a250 n251 c252, .map (some b231), .slice (some ⟨b244, 0, none⟩) 1 1, .int .u64 1, .int .i64 x22, .map (some b210), .int .u64 0, .int .u64 0, .bool false] 97) → S13 w254 ∧ (R (.returned (.tuple #[.pointer (some ⟨b253, 0, none⟩), .int .i64 0])) w254)))))))) ∧ (∀ (b255 : Nat) (w256 : World), b255 = w211.heap.size → w256 = World.alloc w211 (.cells #[.int .u64 1] 24) → S13 w256 ∧ ((Calls Tryz.prog 32 #[] w256 (fun e257 w258 => ∃ x259 : Int, ∃ x260 : Int, ∃ (a261 : Option Addr) (n262 c263 : Nat), e257 = .returned (.agg #[.int .u64 x259, .int .u64 x260, .slice a261 n262 c263]) ∧ (S13 w258 ∧ (∀ (b264 : Nat) (w265 : World), b264 = w258.heap.size → w265 = World.alloc w258 (.map #[] 0) → S13 w265 ∧ (∀ (b266 : Nat) (w267 : World), b266 = w265.heap.size → w267 = World.alloc w265 (.cells #[.int .i64 x15, .int .i64 x16, .int .i64 x17, .int .u64 x18, .int .u64 x19, .int .u64 x20, .int .i64 x21, .int .u64 x259, .int .u64 x260, .slice a261 n262 c263, .map (some b264), .slice (some ⟨b255, 0, none⟩) 1 1, .int .u64 1, .int .i64 x22, .map (some b210), .int .u64 0, .int .u64 0, .bool false] 97) → S13 w267 ∧ (R (.returned (.tuple #[.pointer (some ⟨b266, 0, none⟩), .int .i64 0])) w267)))))) ∧ (∀ (b268 : Nat) (w269 : World), b268 = w256.heap.size → w269 = World.alloc w256 (.map #[] 0) → S13 w269 ∧ (Calls Tryz.prog 32 #[] w269 (fun e270 w271 => ∃ x272 : Int, ∃ x273 : Int, ∃ (a274 : Option Addr) (n275 c276 : Nat), e270 = .returned (.agg #[.int .u64 x272, .int .u64 x273, .slice a274 n275 c276]) ∧ (S13 w271 ∧ (∀ (b277 : Nat) (w278 : World), b277 = w271.heap.size → w278 = World.alloc w271 (.cells #[.int .i64 x15, .int .i64 x16, .int .i64 x17, .int .u64 x18, .int .u64 x19, .int .u64 x20, .int .i64 x21, .int .u64 x272, .int .u64 x273, .slice a274 n275 c276, .map (some b268), .slice (some ⟨b255, 0, none⟩) 1 1, .int .u64 1, .int .i64 x22, .map (some b210), .int .u64 0, .int .u64 0, .bool false] 97) → S13 w278 ∧ (R (.returned (.tuple #[.pointer (some ⟨b277, 0, none⟩), .int .i64 0])) w278)))))))))))))))))))))
def vc (R : Ending → World → Prop) (c_0a : Int) (c_0b : Int) (c_0c : Int) (c_0d : Int) (c_0e : Int) (c_0f : Int) (c_0g : Int) (w : World) : Prop := t0 R  c_0a c_0b c_0c c_0d c_0e c_0f c_0g w
theorem calls (R : Ending → World → Prop) (c_0a : Int) (c_0b : Int) (c_0c : Int) (c_0d : Int) (c_0e : Int) (c_0f : Int) (c_0g : Int) (w : World) (h : vc R c_0a c_0b c_0c c_0d c_0e c_0f c_0g w) : Calls Tryz.prog 7 #[.agg #[.int .i64 c_0a, .int .i64 c_0b, .int .i64 c_0c, .int .u64 c_0d, .int .u64 c_0e, .int .u64 c_0f, .int .i64 c_0g]] w R :=
  calls_V Tryz.func7 (Eq.mpr (by kernel_rfl) (h))
end model_New
end Go.Proofs.YtcofknlcdgidpaaGreatDoor
/-! ## GmodelModelNow -/
namespace Go.Proofs.YtcofknlcdgidpaaGreatDoor
open Go Go.Proofs.YtcofknlcdgidpaaGreatDoor.VC
set_option linter.unusedVariables false
set_option maxRecDepth 100000
set_option maxHeartbeats 0

/-! ### (*postroom/model.Model).Now: function 10 -/
namespace model_Model_Now
def t0 (R : Ending → World → Prop)  (m_0 : Option Addr) (w : World) : Prop := someV m_0 (fun p1 => ∃ x2 : Int, w.cell? (p1.add 16) = some (.int .u64 x2) ∧ (R (.returned (.int .u64 x2)) w))
def vc (R : Ending → World → Prop) (m_0 : Option Addr) (w : World) : Prop := t0 R  m_0 w
theorem calls (R : Ending → World → Prop) (m_0 : Option Addr) (w : World) (h : vc R m_0 w) : Calls Tryz.prog 10 #[.pointer m_0] w R :=
  calls_V Tryz.func10 (Eq.mpr (by kernel_rfl) (h))
end model_Model_Now
end Go.Proofs.YtcofknlcdgidpaaGreatDoor
/-! ## GmodelModelDurable -/
namespace Go.Proofs.YtcofknlcdgidpaaGreatDoor
open Go Go.Proofs.YtcofknlcdgidpaaGreatDoor.VC
set_option linter.unusedVariables false
set_option maxRecDepth 100000
set_option maxHeartbeats 0

/-! ### (*postroom/model.Model).Durable: function 11 -/
namespace model_Model_Durable
def t0 (R : Ending → World → Prop)  (m_0 : Option Addr) (w : World) : Prop := someV m_0 (fun p1 => ∃ x2 : Int, w.cell? (p1.add 12) = some (.int .u64 x2) ∧ (R (.returned (.int .u64 x2)) w))
def vc (R : Ending → World → Prop) (m_0 : Option Addr) (w : World) : Prop := t0 R  m_0 w
theorem calls (R : Ending → World → Prop) (m_0 : Option Addr) (w : World) (h : vc R m_0 w) : Calls Tryz.prog 11 #[.pointer m_0] w R :=
  calls_V Tryz.func11 (Eq.mpr (by kernel_rfl) (h))
end model_Model_Durable
end Go.Proofs.YtcofknlcdgidpaaGreatDoor
/-! ## Model -/
namespace Go.Proofs.YtcofknlcdgidpaaGreatDoor
open Go Go.RowKit Go.Proofs.YtcofknlcdgidpaaGreatDoor.VC
set_option linter.unusedVariables false
set_option maxRecDepth 100000

/-- What a model keeps of an entry, and when it was laid. -/
structure KE where
  seq : Nat
  a : Option Addr
  n : Nat
  c : Nat
  b : Option Addr
  m : Nat
  d : Nat
  ser : Txt
  size : Nat
  born : Nat
def KE.val (x : KE) : Value := .agg #[.slice x.a x.n x.c, .slice x.b x.m x.d, .string (S x.ser), .int .i64 x.size]
def KE.ent (x : KE) : MapEntry := { key := .int .u64 x.seq, val := x.val, born := x.born }
/-- A sender, of a place, and when it was laid. -/
structure SE where
  dest : Txt
  shard : Int
  id : Nat
  a : Option Addr
  flight : List Nat
  c : Nat
  since : Int
  tries : Int
  until_ : Int
  born : Nat
def SE.val (x : SE) : Value := .agg #[.int .u64 x.id, .slice x.a x.flight.length x.c, .int .u64 x.since, .int .i64 x.tries, .int .u64 x.until_]
def SE.ent (x : SE) : MapEntry := { key := .agg #[.string (S x.dest), .int .i64 x.shard], val := x.val, born := x.born }
structure MS where
  c : Cfg
  first : Nat
  next : Nat
  l : List DestL
  all : List KE
  begins : List Nat
  durable : Nat
  shards : Int
  snd : List SE
  top : Nat
  now : Int
  closed : Bool
structure ML where
  mb : Nat
  ab : Nat
  sb : Nat
  la : Option Addr
  lc : Nat
  ba : Option Addr
  bc : Nat
  aclk : Nat
  sclk : Nat
def MS.cells (s : MS) (M : ML) : List Value := [.int .i64 s.c.budget, .int .i64 s.c.segment, .int .i64 s.c.batch, .int .u64 s.c.timeout, .int .u64 s.c.base, .int .u64 s.c.most, .int .i64 s.c.shards, .int .u64 s.first, .int .u64 s.next, .slice M.la s.l.length M.lc, .map (some M.ab), .slice M.ba s.begins.length M.bc, .int .u64 s.durable, .int .i64 s.shards, .map (some M.sb), .int .u64 s.top, .int .u64 s.now, .bool s.closed]
structure MAt (B : Nat) (M : ML) (s : MS) (w : World) : Prop where
  hm : B ≤ M.mb
  ha : B ≤ M.ab
  hs : B ≤ M.sb
  ne : M.ab ≠ M.sb
  blk : Blk w M.mb 97 (s.cells M)
  dst : w.ownsRow B 63 7 (.slice M.la s.l.length M.lc) s.l.length (destCs s.l)
  pl : ∀ x ∈ s.l, x.d.above = []
  all : w.heap[M.ab]? = some (.map (s.all.map KE.ent).toArray M.aclk)
  snd : w.heap[M.sb]? = some (.map (s.snd.map SE.ent).toArray M.sclk)
  beg : w.ownsRow B 24 1 (.slice M.ba s.begins.length M.bc) s.begins.length (u64Cs s.begins)
theorem MAt.below {B : Nat} {M : ML} {s : MS} {w w' : World} (h : MAt B M s w) (hb : Below w.heap.size w w') : MAt B M s w' :=
  { h with blk := h.blk.below hb h.blk.lt, dst := own_below h.dst hb,
           all := (hb.block _ (Array.getElem?_eq_some_iff.1 h.all).1).trans h.all, snd := (hb.block _ (Array.getElem?_eq_some_iff.1 h.snd).1).trans h.snd, beg := own_below h.beg hb }
theorem MAt.abv {B : Nat} {M : ML} {s : MS} {w : World} (h : MAt B M s w) : AboveAt w s.l := fun x hx => by
  rw [h.pl x hx]; exact ⟨by simp, by simp, RowAt.nil _ _⟩
theorem MAt.size {B : Nat} {M : ML} {s : MS} {w : World} (h : MAt B M s w) : B ≤ w.heap.size := by have := h.blk.lt; have := h.hm; omega

def newMS (c : Cfg) : MS := ⟨c, 1, 1, [], [], [1], 1, c.shards, [], 0, 0, false⟩
def newR (w0 : World) (c : Cfg) (e : Ending) (w : World) : Prop := Below w0.heap.size w0 w ∧ if cfgOK c = true then ∃ M, e = .returned (.tuple #[.pointer (some ⟨M.mb, 0, none⟩), .int .i64 0]) ∧ MAt w0.heap.size M (newMS c) w else e = .returned (.tuple #[.pointer none, .int .i64 1])
abbrev cfgS (w0 : World) (c : Cfg) (W : World) : Prop := Blk W w0.heap.size 28 c.cells
/-- What has been made of a new model so far: its maps, and its row of segments. -/
structure NSt (w0 : World) (c : Cfg) (ms gs : List Nat) (W : World) : Prop where
  cfg : cfgS w0 c W
  bel : Below w0.heap.size w0 W
  mp : ∀ b ∈ ms, w0.heap.size ≤ b ∧ W.heap[b]? = some (.map #[] 0)
  nd : ms.Nodup
  rw : ∀ b ∈ gs, w0.heap.size ≤ b ∧ Blk W b 24 [.int .u64 1]
section
variable {w0 W : World} {c : Cfg} {ms gs : List Nat}
theorem NSt.below {w' : World} (h : NSt w0 c ms gs W) (hb : Below W.heap.size W w') : NSt w0 c ms gs w' :=
  { h with cfg := h.cfg.below hb h.cfg.lt, bel := h.bel.trans (hb.mono h.bel.size), mp := fun b hm => ⟨(h.mp b hm).1, (hb.block b (Array.getElem?_eq_some_iff.1 (h.mp b hm).2).1).trans (h.mp b hm).2⟩, rw := fun b hm => ⟨(h.rw b hm).1, (h.rw b hm).2.below hb (h.rw b hm).2.lt⟩ }
theorem NSt.stepM (h : NSt w0 c ms gs W) {K : Nat → World → Prop} (k : ∀ w', NSt w0 c (W.heap.size :: ms) gs w' → K W.heap.size w') : ∀ (b : Nat) (w' : World), b = W.heap.size → w' = World.alloc W (.map #[] 0) → cfgS w0 c w' ∧ K b w' := by
  rintro b w' rfl rfl
  have hb := (Below.refl W.heap.size W).alloc (Nat.le_refl _) (.map #[] 0)
  have h' := h.below hb
  refine ⟨h'.cfg, k _ { h' with mp := ?_, nd := ?_ }⟩
  · intro b hm
    rcases List.mem_cons.1 hm with rfl | hm
    · exact ⟨h.bel.size, heap_alloc_new W _⟩
    · exact h'.mp b hm
  · rw [List.nodup_cons]
    exact ⟨fun hm => by have := (Array.getElem?_eq_some_iff.1 (h.mp _ hm).2).1; omega, h.nd⟩
theorem NSt.stepG (h : NSt w0 c ms gs W) {K : Nat → World → Prop} (k : ∀ w', NSt w0 c ms (W.heap.size :: gs) w' → K W.heap.size w') : ∀ (b : Nat) (w' : World), b = W.heap.size → w' = World.alloc W (.cells #[.int .u64 1] 24) → cfgS w0 c w' ∧ K b w' := by
  rintro b w' rfl rfl
  have hb := (Below.refl W.heap.size W).alloc (Nat.le_refl _) (.cells #[.int .u64 1] 24)
  have h' := h.below hb
  refine ⟨h'.cfg, k _ { h' with rw := ?_ }⟩
  intro b hm
  rcases List.mem_cons.1 hm with rfl | hm
  · exact ⟨h.bel.size, Blk.new W _ [.int .u64 1]⟩
  · exact h'.rw b hm
theorem NSt.stepC (h : NSt w0 c ms gs W) {K : Int → Int → Option Addr → Nat → Nat → World → Prop} (k : ∀ w', NSt w0 c ms gs w' → K 1 1 none 0 0 w') : Calls Tryz.prog 32 #[] W (fun e w' => ∃ x25 : Int, ∃ x26 : Int, ∃ (a27 : Option Addr) (n28 c29 : Nat), e = .returned (.agg #[.int .u64 x25, .int .u64 x26, .slice a27 n28 c29]) ∧ (cfgS w0 c w' ∧ K x25 x26 a27 n28 c29 w')) := by
  refine (ledger_new W).mono ?_
  rintro e w' ⟨rfl, hb⟩
  have h' := h.below hb
  exact ⟨_, _, _, _, _, rfl, h'.cfg, k w' h'⟩
theorem NSt.stepF (h : NSt w0 c ms gs W) (hc : cfgOK c = true) {ab gb sb : Nat} (ha : ab ∈ ms) (hs : sb ∈ ms) (hg : gb ∈ gs) (hne : ab ≠ sb) :
    ∀ (b36 : Nat) (w37 : World), b36 = W.heap.size → w37 = World.alloc W (.cells #[.int .i64 c.budget, .int .i64 c.segment, .int .i64 c.batch, .int .u64 c.timeout, .int .u64 c.base, .int .u64 c.most, .int .i64 c.shards, .int .u64 1, .int .u64 1, .slice none 0 0, .map (some ab), .slice (some ⟨gb, 0, none⟩) 1 1, .int .u64 1, .int .i64 c.shards, .map (some sb), .int .u64 0, .int .u64 0, .bool false] 97) → cfgS w0 c w37 ∧ newR w0 c (.returned (.tuple #[.pointer (some ⟨b36, 0, none⟩), .int .i64 0])) w37 := by
  intro b36 w37 hb36 hw37
  subst hb36; subst hw37
  refine ⟨h.cfg.alloc _, h.bel.alloc h.bel.size _, ?_⟩
  rw [if_pos hc]
  refine ⟨⟨W.heap.size, ab, sb, none, 0, some ⟨gb, 0, none⟩, 1, 0, 0⟩, rfl, h.bel.size, (h.mp _ ha).1, (h.mp _ hs).1, hne, Blk.new W 97 _, World.ownsRow_nil _ _ _ _, by simp [newMS], ?_, ?_, ?_⟩
  · exact (Below.heap_alloc W _ ab (Array.getElem?_eq_some_iff.1 (h.mp _ ha).2).1).trans (h.mp _ ha).2
  · exact (Below.heap_alloc W _ sb (Array.getElem?_eq_some_iff.1 (h.mp _ hs).2).1).trans (h.mp _ hs).2
  · exact ((h.rw _ hg).2.alloc _).own (size := 1) (n := 1) (h.rw _ hg).1 (by decide) rfl
end
theorem model_new (c : Cfg) (w0 : World) : Calls Tryz.prog 7 #[c.val] w0 (newR w0 c) := by
  apply model_New.calls
  unfold model_New.vc model_New.t0
  refine allocV (cs := c.cells) ?_
  intro w2 h hb hs
  refine ⟨_, _, _, _, _, _, _, ⟨h.cell (j := 0) rfl, h.cell (j := 1) rfl, h.cell (j := 2) rfl, h.cell (j := 3) rfl, h.cell (j := 4) rfl, h.cell (j := 5) rfl, h.cell (j := 6) rfl⟩, (agent_check c w2).mono ?_⟩
  rintro e w11 ⟨rfl, hb11⟩
  have h11 := h.below hb11 h.lt
  have hb11' := hb.trans (hb11.mono hb.size)
  refine ⟨_, rfl, ?_⟩
  cases hc : cfgOK c
  · exact ⟨hb11', by rw [hc]; rfl⟩
  show boolV ((0 : Int) != 0) _ _
  refine boolF rfl ⟨fun W => Blk W w0.heap.size 28 c.cells, ?_⟩
  intro w14 e1 e2 e3 e4
  have h14 := h11.same e1
  have hb14 := hb11'.trans (same_below w0.heap.size e1 e2 e3 e4)
  refine ⟨h14, _, _, _, _, _, _, _, fun W hW => ⟨hW.cell (j := 0) rfl, hW.cell (j := 1) rfl, hW.cell (j := 2) rfl, hW.cell (j := 3) rfl, hW.cell (j := 4) rfl, hW.cell (j := 5) rfl, hW.cell (j := 6) rfl⟩, _, fun W hW => hW.cell (j := 6) rfl, ?_⟩
  have hn : NSt w0 c [] [] w14 := ⟨h14, hb14, by simp, by simp, by simp⟩
  clear h h11 hb11 hb11' hb14 h14
  repeat' first
    | exact hn.stepF hc (by simp) (by simp) (by simp) (fun e => by have := hn.nd; simp [e] at this)
    | (refine hn.stepC ?_; clear hn; intro w' hn)
    | (refine hn.stepM ?_; clear hn; intro w' hn)
    | (refine hn.stepG ?_; clear hn; intro w' hn)
    | refine ⟨?_, ?_⟩
end Go.Proofs.YtcofknlcdgidpaaGreatDoor
/-! ## GmodelModelsize -/
namespace Go.Proofs.YtcofknlcdgidpaaGreatDoor
open Go Go.Proofs.YtcofknlcdgidpaaGreatDoor.VC
set_option linter.unusedVariables false
set_option maxRecDepth 100000
set_option maxHeartbeats 0

/-! ### (*postroom/model.Model).size: function 37 -/
namespace model_Model_size
def t1 (R : Ending → World → Prop)  (Back0 : Int → List Value → World → Prop)  (from_1 : Int) (n_5 : Int) (x_12 : Nat) (g : List Value) (w : World) : Prop := runV Tryz.prog (Instr.next (.pointer (some ⟨x_12, 0, none⟩)) false 0) w (fun v1 w2 => (v1 = .tuple #[.bool false] ∨ ∃ k e, v1 = .tuple #[.bool true, k, e]) ∧ (v1 = .tuple #[.bool false] → R (.returned (.int .i64 n_5)) w2) ∧ ∀ (k3 e4 : Value), v1 = .tuple #[.bool true, k3, e4] → runV Tryz.prog (Instr.entry (.pointer (some ⟨x_12, 0, none⟩))) w2 (fun v5 w6 => ∃ x7 : Int, ∃ (a8 : Option Addr) (n9 c10 : Nat), ∃ (a11 : Option Addr) (n12 c13 : Nat), ∃ s14 : ByteArray, ∃ x15 : Int, v5 = .tuple #[.int .u64 x7, .agg #[.slice a8 n9 c10, .slice a11 n12 c13, .string s14, .int .i64 x15]] ∧ (∀ (b16 : Nat) (w17 : World), b16 = w6.heap.size → w17 = World.alloc w6 (.cells #[.slice none 0 0, .slice none 0 0, .string ByteArray.empty, .int .i64 0] 118) → Writable w17 ⟨b16, 0, none⟩ 4 ∧ ∀ w18 : World, w18 = World.setCell (World.setCell (World.setCell (World.setCell w17 ⟨b16, 0, none⟩ (.slice a8 n9 c10)) ⟨b16, 1, none⟩ (.slice a11 n12 c13)) ⟨b16, 2, none⟩ (.string s14)) ⟨b16, 3, none⟩ (.int .i64 x15) → boolV (decide (x7 ≥ from_1)) (∃ x19 : Int, w18.cell? ⟨b16, 3, none⟩ = some (.int .i64 x19) ∧ (Back0 (IntKind.wrap .i64 (n_5 + x19)) [nth g 0, nth g 1, nth g 2, nth g 3, .int .u64 x7, .pointer (some ⟨b16, 0, none⟩), nth g 6, nth g 7, nth g 8, nth g 9, .tuple #[.bool true, k3, e4], .bool true, .tuple #[.int .u64 x7, .agg #[.slice a8 n9 c10, .slice a11 n12 c13, .string s14, .int .i64 x15]], .int .u64 x7, .agg #[.slice a8 n9 c10, .slice a11 n12 c13, .string s14, .int .i64 x15], .int .u64 x7, .int .u64 from_1, .bool (decide (x7 ≥ from_1)), .int .i64 n_5, .pointer (some ⟨b16, 3, none⟩), .int .i64 x19, .int .i64 (IntKind.wrap .i64 (n_5 + x19)), nth g 22] w18)) (Back0 n_5 [nth g 0, nth g 1, nth g 2, nth g 3, .int .u64 x7, .pointer (some ⟨b16, 0, none⟩), nth g 6, nth g 7, nth g 8, nth g 9, .tuple #[.bool true, k3, e4], .bool true, .tuple #[.int .u64 x7, .agg #[.slice a8 n9 c10, .slice a11 n12 c13, .string s14, .int .i64 x15]], .int .u64 x7, .agg #[.slice a8 n9 c10, .slice a11 n12 c13, .string s14, .int .i64 x15], .int .u64 x7, .int .u64 from_1, .bool (decide (x7 ≥ from_1)), nth g 18, nth g 19, nth g 20, nth g 21, nth g 22] w18))))
def W0 (R : Ending → World → Prop)  (from_1 : Int) (n_5 : Int) (x_12 : Nat) (w : World) : Prop := ∃ (I : Nat → Int → World → Prop) (n : Nat), I n n_5 w ∧ ∀ (n : Nat) (n_5 : Int) (g : List Value) (w : World), I n n_5 w → ∀ (Back0 : Int → List Value → World → Prop), (∀ (m : Nat) (n_5 : Int) (g : List Value) (w : World), m < n → I m n_5 w → Back0 n_5 g w) → t1 R  Back0  from_1 n_5 x_12 g w
def t0 (R : Ending → World → Prop) (L0 : Int → Int → Nat → List Value → World → Prop) (m_0 : Option Addr) (from_1 : Int) (w : World) : Prop := someV m_0 (fun p1 => ∃ r2 : Option Nat, w.cell? (p1.add 10) = some (.map r2) ∧ (rangeMapV w r2 (fun b3 w4 => L0 from_1 0 b3 [.pointer m_0, undef, undef, .int .i64 0, undef, undef, .pointer m_0, .pointer (some p1), .pointer (some (p1.add 10)), .map r2, undef, undef, undef, undef, undef, undef, undef, undef, undef, undef, undef, undef, undef] w4)))
def vc (R : Ending → World → Prop) (m_0 : Option Addr) (from_1 : Int) (w : World) : Prop := ∀ (L0 : Int → Int → Nat → List Value → World → Prop), (∀ from_1 n_5 x_12 g w, W0 R from_1 n_5 x_12 w → L0 from_1 n_5 x_12 g w) → t0 R L0 m_0 from_1 w
theorem at0 (R : Ending → World → Prop) (from_1 : Int) (n_5 : Int) (x_12 : Nat) (g : List Value) (w : World) (h : W0 R  from_1 n_5 x_12 w) : atV Tryz.prog (bodyC Tryz.f37) [true, true, false, true, false] (retQ Tryz.prog Tryz.f37 R) [nth g 0, .int .u64 from_1, nth g 1, nth g 2, nth g 3, .int .i64 n_5, nth g 4, nth g 5, nth g 6, nth g 7, nth g 8, nth g 9, .pointer (some ⟨x_12, 0, none⟩), nth g 10, nth g 11, nth g 12, nth g 13, nth g 14, nth g 15, nth g 16, nth g 17, nth g 18, nth g 19, nth g 20, nth g 21, nth g 22] w := by
  obtain ⟨I, n0, h0, hs⟩ := h
  refine atV_loop (by kernel_rfl) (fun n s w => ∃ (n_5 : Int) (g : List Value), s = [nth g 0, .int .u64 from_1, nth g 1, nth g 2, nth g 3, .int .i64 n_5, nth g 4, nth g 5, nth g 6, nth g 7, nth g 8, nth g 9, .pointer (some ⟨x_12, 0, none⟩), nth g 10, nth g 11, nth g 12, nth g 13, nth g 14, nth g 15, nth g 16, nth g 17, nth g 18, nth g 19, nth g 20, nth g 21, nth g 22] ∧ I n n_5 w) n0 ⟨_, _, rfl, h0⟩ ?_
  rintro n s w ⟨n_5, g, rfl, hI⟩
  exact Eq.mpr (by kernel_rfl) (hs n n_5 g w hI (fun n_5 g w => (backQ (fun n s w => ∃ (n_5 : Int) (g : List Value), s = [nth g 0, .int .u64 from_1, nth g 1, nth g 2, nth g 3, .int .i64 n_5, nth g 4, nth g 5, nth g 6, nth g 7, nth g 8, nth g 9, .pointer (some ⟨x_12, 0, none⟩), nth g 10, nth g 11, nth g 12, nth g 13, nth g 14, nth g 15, nth g 16, nth g 17, nth g 18, nth g 19, nth g 20, nth g 21, nth g 22] ∧ I n n_5 w) n (ctxQ Tryz.prog (bodyC Tryz.f37) [true, true, false, true, false] (retQ Tryz.prog Tryz.f37 R))) .normal [nth g 0, .int .u64 from_1, nth g 1, nth g 2, nth g 3, .int .i64 n_5, nth g 4, nth g 5, nth g 6, nth g 7, nth g 8, nth g 9, .pointer (some ⟨x_12, 0, none⟩), nth g 10, nth g 11, nth g 12, nth g 13, nth g 14, nth g 15, nth g 16, nth g 17, nth g 18, nth g 19, nth g 20, nth g 21, nth g 22] w) (fun m n_5 g w hm hI => ⟨m, hm, n_5, g, rfl, hI⟩))
theorem calls (R : Ending → World → Prop) (m_0 : Option Addr) (from_1 : Int) (w : World) (h : vc R m_0 from_1 w) : Calls Tryz.prog 37 #[.pointer m_0, .int .u64 from_1] w R :=
  calls_V Tryz.func37 (Eq.mpr (by kernel_rfl) (h (fun from_1 n_5 x_12 g w => atV Tryz.prog (bodyC Tryz.f37) [true, true, false, true, false] (retQ Tryz.prog Tryz.f37 R) [nth g 0, .int .u64 from_1, nth g 1, nth g 2, nth g 3, .int .i64 n_5, nth g 4, nth g 5, nth g 6, nth g 7, nth g 8, nth g 9, .pointer (some ⟨x_12, 0, none⟩), nth g 10, nth g 11, nth g 12, nth g 13, nth g 14, nth g 15, nth g 16, nth g 17, nth g 18, nth g 19, nth g 20, nth g 21, nth g 22] w) (fun from_1 n_5 x_12 g w h => at0 R from_1 n_5 x_12 g w h)))
end model_Model_size
end Go.Proofs.YtcofknlcdgidpaaGreatDoor
/-! ## GmodelModelBytes -/
namespace Go.Proofs.YtcofknlcdgidpaaGreatDoor
open Go Go.Proofs.YtcofknlcdgidpaaGreatDoor.VC
set_option linter.unusedVariables false
set_option maxRecDepth 100000
set_option maxHeartbeats 0

/-! ### (*postroom/model.Model).Bytes: function 12 -/
namespace model_Model_Bytes
def t0 (R : Ending → World → Prop)  (m_0 : Option Addr) (w : World) : Prop := Calls Tryz.prog 37 #[.pointer m_0, .int .u64 0] w (fun e1 w2 => ∃ x3 : Int, e1 = .returned (.int .i64 x3) ∧ (R (.returned (.int .i64 x3)) w2))
def vc (R : Ending → World → Prop) (m_0 : Option Addr) (w : World) : Prop := t0 R  m_0 w
theorem calls (R : Ending → World → Prop) (m_0 : Option Addr) (w : World) (h : vc R m_0 w) : Calls Tryz.prog 12 #[.pointer m_0] w R :=
  calls_V Tryz.func12 (Eq.mpr (by kernel_rfl) (h))
end model_Model_Bytes
end Go.Proofs.YtcofknlcdgidpaaGreatDoor
/-! ## GmodelModelactive -/
namespace Go.Proofs.YtcofknlcdgidpaaGreatDoor
open Go Go.Proofs.YtcofknlcdgidpaaGreatDoor.VC
set_option linter.unusedVariables false
set_option maxRecDepth 100000
set_option maxHeartbeats 0

/-! ### (*postroom/model.Model).active: function 47 -/
namespace model_Model_active
def t0 (R : Ending → World → Prop)  (m_0 : Option Addr) (w : World) : Prop := ∃ C1 : World → Prop, (∀ w' : World, w'.heap = w.heap → w'.tape = w.tape → w'.os = w.os → w'.output = w.output → C1 w') ∧ (someV m_0 (fun p3 => ∃ (a4 : Option Addr) (n5 c6 : Nat), (∀ w, C1 w → w.cell? (p3.add 11) = some (.slice a4 n5 c6)) ∧ (someV m_0 (fun p7 => ∃ (a8 : Option Addr) (n9 c10 : Nat), (∀ w, C1 w → w.cell? (p7.add 11) = some (.slice a8 n9 c10)) ∧ (someV a4 (fun p11 => (0 ≤ (IntKind.wrap .i64 (((n9 : Nat) : Int) - 1)) ∧ (IntKind.wrap .i64 (((n9 : Nat) : Int) - 1)) < (n5 : Nat)) ∧ (∃ x12 : Int, (∀ w, C1 w → w.cell? (p11.add ((IntKind.wrap .i64 (((n9 : Nat) : Int) - 1)).toNat * 1)) = some (.int .u64 x12)) ∧ (∀ w2 : World, C1 w2 → R (.returned (.int .u64 x12)) w2))))))))
def vc (R : Ending → World → Prop) (m_0 : Option Addr) (w : World) : Prop := t0 R  m_0 w
theorem calls (R : Ending → World → Prop) (m_0 : Option Addr) (w : World) (h : vc R m_0 w) : Calls Tryz.prog 47 #[.pointer m_0] w R :=
  calls_V Tryz.func47 (Eq.mpr (by kernel_rfl) (h))
end model_Model_active
end Go.Proofs.YtcofknlcdgidpaaGreatDoor
/-! ## GmodelModelset -/
namespace Go.Proofs.YtcofknlcdgidpaaGreatDoor
open Go Go.Proofs.YtcofknlcdgidpaaGreatDoor.VC
set_option linter.unusedVariables false
set_option maxRecDepth 100000
set_option maxHeartbeats 0

/-! ### (*postroom/model.Model).set: function 41 -/
namespace model_Model_set
def t0 (R : Ending → World → Prop)  (m_0 : Option Addr) (l_1a : Int) (l_1b : Int) (l_1c : Option Addr) (l_1d : Nat) (l_1e : Nat) (err_2 : Int) (w : World) : Prop := ∀ (b1 : Nat) (w2 : World), b1 = w.heap.size → w2 = World.alloc w (.cells #[.int .u64 l_1a, .int .u64 l_1b, .slice l_1c l_1d l_1e] 37) → boolV (err_2 == (0 : Int)) (∃ x3 : Int, ∃ x4 : Int, ∃ (a5 : Option Addr) (n6 c7 : Nat), (w2.cell? ⟨b1, 0, none⟩ = some (.int .u64 x3) ∧ w2.cell? ⟨b1, 1, none⟩ = some (.int .u64 x4) ∧ w2.cell? ⟨b1, 2, none⟩ = some (.slice a5 n6 c7)) ∧ (someV m_0 (fun p8 => Writable w2 (p8.add 7) 3 ∧ ∀ w9 : World, w9 = World.setCell (World.setCell (World.setCell w2 (p8.add 7) (.int .u64 x3)) ((p8.add 7).add 1) (.int .u64 x4)) ((p8.add 7).add 2) (.slice a5 n6 c7) → R (.returned (.int .i64 err_2)) w9))) (R (.returned (.int .i64 err_2)) w2)
def vc (R : Ending → World → Prop) (m_0 : Option Addr) (l_1a : Int) (l_1b : Int) (l_1c : Option Addr) (l_1d : Nat) (l_1e : Nat) (err_2 : Int) (w : World) : Prop := t0 R  m_0 l_1a l_1b l_1c l_1d l_1e err_2 w
theorem calls (R : Ending → World → Prop) (m_0 : Option Addr) (l_1a : Int) (l_1b : Int) (l_1c : Option Addr) (l_1d : Nat) (l_1e : Nat) (err_2 : Int) (w : World) (h : vc R m_0 l_1a l_1b l_1c l_1d l_1e err_2 w) : Calls Tryz.prog 41 #[.pointer m_0, .agg #[.int .u64 l_1a, .int .u64 l_1b, .slice l_1c l_1d l_1e], .int .i64 err_2] w R :=
  calls_V Tryz.func41 (Eq.mpr (by kernel_rfl) (h))
end model_Model_set
end Go.Proofs.YtcofknlcdgidpaaGreatDoor
/-! ## GmodelModelJoin -/
namespace Go.Proofs.YtcofknlcdgidpaaGreatDoor
open Go Go.Proofs.YtcofknlcdgidpaaGreatDoor.VC
set_option linter.unusedVariables false
set_option maxRecDepth 100000
set_option maxHeartbeats 0

/-! ### (*postroom/model.Model).Join: function 17 -/
namespace model_Model_Join
def t0 (R : Ending → World → Prop)  (m_0 : Option Addr) (name_1 : ByteArray) (w : World) : Prop := someV m_0 (fun p1 => ∃ x2 : Int, ∃ x3 : Int, ∃ (a4 : Option Addr) (n5 c6 : Nat), (w.cell? (p1.add 7) = some (.int .u64 x2) ∧ w.cell? ((p1.add 7).add 1) = some (.int .u64 x3) ∧ w.cell? ((p1.add 7).add 2) = some (.slice a4 n5 c6)) ∧ (Calls Tryz.prog 42 #[.agg #[.int .u64 x2, .int .u64 x3, .slice a4 n5 c6], .string name_1] w (fun e7 w8 => ∃ x9 : Int, ∃ x10 : Int, ∃ (a11 : Option Addr) (n12 c13 : Nat), ∃ x14 : Int, e7 = .returned (.tuple #[.agg #[.int .u64 x9, .int .u64 x10, .slice a11 n12 c13], .int .i64 x14]) ∧ (Calls Tryz.prog 41 #[.pointer m_0, .agg #[.int .u64 x9, .int .u64 x10, .slice a11 n12 c13], .int .i64 x14] w8 (fun e15 w16 => ∃ x17 : Int, e15 = .returned (.int .i64 x17) ∧ (boolV (x17 == (0 : Int)) (someV m_0 (fun p18 => ∃ x19 : Int, w16.cell? ((p18.add 7).add 1) = some (.int .u64 x19) ∧ (someV m_0 (fun p20 => Writable w16 (p20.add 12) 1 ∧ ∀ w21 : World, w21 = World.setCell w16 (p20.add 12) (.int .u64 x19) → R (.returned (.int .i64 x17)) w21)))) (R (.returned (.int .i64 x17)) w16)))))))
def vc (R : Ending → World → Prop) (m_0 : Option Addr) (name_1 : ByteArray) (w : World) : Prop := t0 R  m_0 name_1 w
theorem calls (R : Ending → World → Prop) (m_0 : Option Addr) (name_1 : ByteArray) (w : World) (h : vc R m_0 name_1 w) : Calls Tryz.prog 17 #[.pointer m_0, .string name_1] w R :=
  calls_V Tryz.func17 (Eq.mpr (by kernel_rfl) (h))
end model_Model_Join
end Go.Proofs.YtcofknlcdgidpaaGreatDoor
/-! ## Model2 -/
namespace Go.Proofs.YtcofknlcdgidpaaGreatDoor
open Go Go.RowKit Go.Proofs.YtcofknlcdgidpaaGreatDoor.VC
set_option linter.unusedVariables false
set_option maxRecDepth 100000

theorem var4V {w : World} {ty : TypeId} {z0 z1 z2 z3 a b c d : Value} {K : Nat → World → Prop} (h : ∀ w6, Blk w6 w.heap.size ty [a, b, c, d] → Below w.heap.size w w6 → w6.heap.size = w.heap.size + 1 → K w.heap.size w6) :
    ∀ (b4 : Nat) (w5 : World), b4 = w.heap.size → w5 = World.alloc w (.cells #[z0, z1, z2, z3] ty) → Writable w5 ⟨b4, 0, none⟩ 4 ∧ ∀ w6 : World, w6 = World.setCell (World.setCell (World.setCell (World.setCell w5 ⟨b4, 0, none⟩ a) ⟨b4, 1, none⟩ b) ⟨b4, 2, none⟩ c) ⟨b4, 3, none⟩ d → K b4 w6 := by
  rintro b4 w5 rfl rfl
  have hblk := Blk.new w ty [z0, z1, z2, z3]
  have hb := (Below.refl w.heap.size w).alloc (Nat.le_refl _) (.cells #[z0, z1, z2, z3] ty)
  refine ⟨hblk.writable (Nat.le_refl 4), ?_⟩
  rintro w6 rfl
  have hl := Nat.le_refl w.heap.size
  exact h _ ((((hblk.set 0 a).set 1 b).set 2 c).set 3 d)
    ((((hb.setCell (p := ⟨w.heap.size, 0, none⟩) hl a).setCell (p := ⟨w.heap.size, 1, none⟩) hl b).setCell (p := ⟨w.heap.size, 2, none⟩) hl c).setCell (p := ⟨w.heap.size, 3, none⟩) hl d) (by simp [World.setCell])
theorem below_setBlock {B : Nat} {a w : World} (h : Below B a w) {r : Nat} (hr : B ≤ r) (o : Obj) : Below B a (Go.ChangeMaps.setBlock w r o) :=
  h.trans ⟨rfl, rfl, rfl, by simp [Go.ChangeMaps.setBlock], fun k hk => by simp only [Go.ChangeMaps.setBlock]; rw [Array.getElem?_setIfInBounds_ne (by omega)]⟩
theorem heap_setBlock_ne {w : World} {r k : Nat} (h : r ≠ k) (o : Obj) : (Go.ChangeMaps.setBlock w r o).heap[k]? = w.heap[k]? := by simp only [Go.ChangeMaps.setBlock]; rw [Array.getElem?_setIfInBounds_ne h]
theorem heap_setBlock_same {w : World} {r : Nat} (h : r < w.heap.size) (o : Obj) : (Go.ChangeMaps.setBlock w r o).heap[r]? = some o := by simp [Go.ChangeMaps.setBlock, h]
/-- Stamps of entries: each its own, and below the clock. -/
def Stamps (l : List KE) (clk : Nat) : Prop := (l.map KE.born).Nodup ∧ ∀ x ∈ l, x.born < clk
def sumOf (f : KE → Nat) (l : List KE) : Nat := (l.map f).sum
def leftL (l : List KE) (seen : Array Nat) : List KE := l.filter (fun x => !seen.contains x.born)
theorem sum_step (f : KE → Nat) (seen : Array Nat) (e : KE) : ∀ (l : List KE), (l.map KE.born).Nodup → e ∈ l → seen.contains e.born = false → sumOf f (leftL l seen) = f e + sumOf f (leftL l (seen.push e.born)) ∧ (leftL l (seen.push e.born)).length + 1 = (leftL l seen).length := by
  intro l
  induction l with
  | nil => intro _ h; cases h
  | cons x r ih =>
    intro hn he hs
    rw [List.map_cons, List.nodup_cons] at hn
    obtain ⟨hx, hn⟩ := hn
    have hpush : ∀ y : KE, (seen.push e.born).contains y.born = (seen.contains y.born || (y.born == e.born)) := by
      intro y; rw [Array.contains_push]
    rcases List.mem_cons.1 he with rfl | he
    · have hno : ∀ y ∈ r, y.born ≠ e.born := fun y hy h => hx (by rw [← h]; exact List.mem_map_of_mem hy)
      have e1 : leftL r (seen.push e.born) = leftL r seen := by
        unfold leftL
        apply List.filter_congr
        intro y hy
        rw [hpush]
        have : (y.born == e.born) = false := by simpa using hno y hy
        rw [this, Bool.or_false]
      have e2 : leftL (e :: r) seen = e :: leftL r seen := by unfold leftL; rw [List.filter_cons_of_pos (by rw [hs]; rfl)]
      have e3 : leftL (e :: r) (seen.push e.born) = leftL r (seen.push e.born) := by unfold leftL; rw [List.filter_cons_of_neg (by rw [hpush]; simp)]
      rw [e2, e3, e1]
      exact ⟨by simp [sumOf], by simp⟩
    · have hxe : x.born ≠ e.born := fun h => hx (by rw [h]; exact List.mem_map_of_mem he)
      have hb : (x.born == e.born) = false := by simpa using hxe
      obtain ⟨i1, i2⟩ := ih hn he hs
      by_cases hsx : seen.contains x.born = true
      · have e2 : leftL (x :: r) seen = leftL r seen := by unfold leftL; rw [List.filter_cons_of_neg (by rw [hsx]; simp)]
        have e3 : leftL (x :: r) (seen.push e.born) = leftL r (seen.push e.born) := by unfold leftL; rw [List.filter_cons_of_neg (by rw [hpush, hsx]; simp)]
        rw [e2, e3]; exact ⟨i1, i2⟩
      · have hsx : seen.contains x.born = false := by simpa using hsx
        have e2 : leftL (x :: r) seen = x :: leftL r seen := by unfold leftL; rw [List.filter_cons_of_pos (by rw [hsx]; rfl)]
        have e3 : leftL (x :: r) (seen.push e.born) = x :: leftL r (seen.push e.born) := by unfold leftL; rw [List.filter_cons_of_pos (by rw [hpush, hsx, hb]; rfl)]
        rw [e2, e3]
        simp only [sumOf, List.map_cons, List.sum_cons, List.length_cons] at *
        omega
theorem leftOf_ent (l : List KE) (seen : Array Nat) : (leftOf (l.map KE.ent).toArray seen).toList = (leftL l seen).map KE.ent := by
  unfold leftOf leftL
  rw [Array.toList_filter]
  rw [List.filter_map]
  rfl
/-- One step of a walk over a model's entries. -/
theorem next_ent {w : World} {r ab clk c0 : Nat} {seen : Array Nat} {l : List KE} (hr : w.heap[r]? = some (.mapIter (some ab) clk seen c0)) (hb : w.heap[ab]? = some (.map (l.map KE.ent).toArray clk)) (hst : Stamps l clk) (hsc : clk ≤ c0)
    {K : Value → World → Prop} (hend : leftL l seen = [] → K (.tuple #[.bool false]) w)
    (hgo : ∀ e ∈ l, seen.contains e.born = false → ∀ w1, (w1 = w ∨ w1 = w.drew) → K (.tuple #[.bool true, .int .u64 e.seq, e.val]) (Go.ChangeMaps.setBlock w1 r (.mapIter (some ab) clk (seen.push e.born) clk))) :
    runV Tryz.prog (Instr.next (.pointer (some ⟨r, 0, none⟩)) false 0) w K := by
  rcases Go.run_next_at (P := Tryz.prog) w 0 r ab clk c0 seen _ clk hr hb (by
    intro x hx
    simp only [List.mem_map] at hx
    obtain ⟨y, hy, rfl⟩ := hx
    exact hst.2 y hy) hsc with ⟨h0, hrun⟩ | ⟨e, he, w1, hw1, hrun⟩
  · refine runV_ok hrun (hend ?_)
    have := leftOf_ent l seen
    have h1 : (leftOf (l.map KE.ent).toArray seen).toList.length = 0 := by simpa using h0
    rw [this] at h1
    simpa using h1
  · rw [leftOf_ent] at he
    simp only [leftL, List.mem_map, List.mem_filter] at he
    obtain ⟨x, ⟨hx, hs⟩, rfl⟩ := he
    exact runV_ok hrun (hgo x hx (by simpa using hs) w1 hw1)
theorem entry_ent {w : World} {r ab clk : Nat} {seen : Array Nat} {l : List KE} {e : KE} (hr : w.heap[r]? = some (.mapIter (some ab) clk (seen.push e.born) clk)) (hb : w.heap[ab]? = some (.map (l.map KE.ent).toArray clk)) (hst : Stamps l clk) (he : e ∈ l)
    {K : Value → World → Prop} (hK : K (.tuple #[.int .u64 e.seq, e.val]) w) : runV Tryz.prog (Instr.entry (.pointer (some ⟨r, 0, none⟩))) w K :=
  runV_ok (Go.run_entry_at (P := Tryz.prog) w r ab clk seen _ clk e.ent hr hb (by simp only [List.mem_map]; exact ⟨e, he, rfl⟩) (by
    have : (List.map KE.ent l).map (fun x => x.born) = l.map KE.born := by rw [List.map_map]; rfl
    rw [this]; exact hst.1)) hK

def sizeFrom (frm : Nat) (x : KE) : Nat := if frm ≤ x.seq then x.size else 0
theorem sum_le (f g : KE → Nat) (h : ∀ x, f x ≤ g x) : ∀ l, sumOf f l ≤ sumOf g l
  | [] => by simp [sumOf]
  | x :: r => by have := sum_le f g h r; have := h x; simp only [sumOf, List.map_cons, List.sum_cons] at *; omega
theorem leftL_nil (l : List KE) : leftL l #[] = l := by unfold leftL; rw [List.filter_eq_self]; intro a _; simp
theorem model_size {B : Nat} {M : ML} {s : MS} (frm : Nat) (w0 : World) (h : MAt B M s w0) (hst : Stamps s.all M.aclk) (hsum : sumOf KE.size s.all < 9223372036854775808) :
    Calls Tryz.prog 37 #[.pointer (some ⟨M.mb, 0, none⟩), .int .u64 frm] w0 (fun e w => e = .returned (.int .i64 (sumOf (sizeFrom frm) s.all : Nat)) ∧ Below w0.heap.size w0 w) := by
  apply model_Model_size.calls
  intro L0 hL
  unfold model_Model_size.t0
  refine someV_some rfl ⟨some M.ab, h.blk.cell (j := 10) rfl, ?_⟩
  refine ⟨_, _, h.all, ?_⟩
  rintro b3 w4 rfl rfl
  have hb4 := (Below.refl w0.heap.size w0).alloc (Nat.le_refl _) (.mapIter (some M.ab) M.aclk #[] M.aclk)
  have hab := (Array.getElem?_eq_some_iff.1 h.all).1
  refine hL _ _ _ _ _ ?_
  refine ⟨fun m n w => ∃ (seen : Array Nat) (k : Nat), n = (k : Int) ∧ k + sumOf (sizeFrom frm) (leftL s.all seen) = sumOf (sizeFrom frm) s.all ∧ m = (leftL s.all seen).length ∧ w.heap[w0.heap.size]? = some (.mapIter (some M.ab) M.aclk seen M.aclk) ∧ Below w0.heap.size w0 w, _,
    ⟨#[], 0, rfl, by rw [leftL_nil]; omega, rfl, heap_alloc_new w0 _, hb4⟩, ?_⟩
  rintro m n g w ⟨seen, k, rfl, hk, rfl, hit, hbel⟩ Back hback
  unfold model_Model_size.t1
  have hmap : w.heap[M.ab]? = some (.map (s.all.map KE.ent).toArray M.aclk) := (hbel.block _ hab).trans h.all
  refine next_ent hit hmap hst (Nat.le_refl _) ?_ ?_
  · intro hnil
    refine ⟨.inl rfl, fun _ => ⟨?_, hbel⟩, fun k3 e4 h => by simp at h⟩
    rw [← hk, hnil]; simp [sumOf]
  · intro e he hse w1 hw1
    refine ⟨.inr ⟨_, _, rfl⟩, fun h => by simp at h, ?_⟩
    intro k3 e4 hh
    have hh' : k3 = .int .u64 e.seq ∧ e4 = e.val := by
      simp only [Value.tuple.injEq, Array.mk.injEq, List.cons.injEq, and_true, true_and] at hh
      exact ⟨hh.1.symm, hh.2.symm⟩
    obtain ⟨rfl, rfl⟩ := hh'
    have hit1 : w1.heap = w.heap := by rcases hw1 with rfl | rfl <;> rfl
    have hlt : w0.heap.size < w1.heap.size := by rw [hit1]; exact (Array.getElem?_eq_some_iff.1 hit).1
    have hbel1 : Below w0.heap.size w0 w1 := by
      rcases hw1 with rfl | rfl
      · exact hbel
      · exact hbel.drew
    obtain ⟨W, hW⟩ : ∃ W, W = Go.ChangeMaps.setBlock w1 w0.heap.size (.mapIter (some M.ab) M.aclk (seen.push e.born) M.aclk) := ⟨_, rfl⟩
    have hb2 := below_setBlock hbel1 (Nat.le_refl _) (.mapIter (some M.ab) M.aclk (seen.push e.born) M.aclk)
    have hit2 := heap_setBlock_same hlt (.mapIter (some M.ab) M.aclk (seen.push e.born) M.aclk)
    rw [← hW] at hb2 hit2 ⊢
    have hmap2 := (hb2.block _ hab).trans h.all
    refine entry_ent hit2 hmap2 hst he ⟨_, _, _, _, _, _, _, _, _, rfl, ?_⟩
    obtain ⟨hs1, hs2⟩ := sum_step (sizeFrom frm) seen e s.all hst.1 he hse
    have htot : sumOf (sizeFrom frm) s.all ≤ sumOf KE.size s.all := sum_le _ _ (fun x => by unfold sizeFrom; split <;> omega) _
    refine var4V ?_
    intro w18 hblk18 hb18 hs18
    have hit18 := (hb18.block _ (Array.getElem?_eq_some_iff.1 hit2).1).trans hit2
    have hb18' := hb2.trans (hb18.mono hb2.size)
    by_cases hf : frm ≤ e.seq
    · have hfe : sizeFrom frm e = e.size := by unfold sizeFrom; rw [if_pos hf]
      refine boolT (by simp; omega) ⟨_, hblk18.cell (j := 3) rfl, hback _ _ _ _ (by omega) ⟨seen.push e.born, k + e.size, ?_, by omega, rfl, hit18, hb18'⟩⟩
      rw [wrap_i64 (by omega) (by omega)]; omega
    · have hfe : sizeFrom frm e = 0 := by unfold sizeFrom; rw [if_neg hf]
      exact boolF (by simp; omega) (hback _ _ _ _ (by omega) ⟨seen.push e.born, k, rfl, by omega, rfl, hit18, hb18'⟩)
theorem model_bytes {B : Nat} {M : ML} {s : MS} (w0 : World) (h : MAt B M s w0) (hst : Stamps s.all M.aclk) (hsum : sumOf KE.size s.all < 9223372036854775808) :
    Calls Tryz.prog 12 #[.pointer (some ⟨M.mb, 0, none⟩)] w0 (fun e w => e = .returned (.int .i64 (sumOf KE.size s.all : Nat)) ∧ Below w0.heap.size w0 w) := by
  apply model_Model_Bytes.calls
  refine (model_size 0 w0 h hst hsum).mono ?_
  rintro e w ⟨rfl, hb⟩
  have : sumOf (sizeFrom 0) s.all = sumOf KE.size s.all := by
    have : sizeFrom 0 = KE.size := by funext x; simp [sizeFrom]
    rw [this]
  rw [this]
  exact ⟨_, rfl, rfl, hb⟩
theorem model_active {B : Nat} {M : ML} {s : MS} (w0 : World) (h : MAt B M s w0) (hl : s.begins.length < 4294967296) (k : Nat) (hk : s.begins.getLast? = some k) :
    Calls Tryz.prog 47 #[.pointer (some ⟨M.mb, 0, none⟩)] w0 (fun e w => e = .returned (.int .u64 k) ∧ Below w0.heap.size w0 w) := by
  apply model_Model_active.calls
  unfold model_Model_active.vc model_Model_active.t0
  have hn : s.begins.length ≠ 0 := by
    intro h0; rw [List.length_eq_zero_iff.mp h0] at hk; cases hk
  have hi : s.begins[s.begins.length - 1]? = some k := by rw [← hk, List.getLast?_eq_getElem?]
  obtain ⟨q, hq, c0⟩ := rowU64 (RowAt.of_own h.beg) hi
  have hw : IntKind.wrap .i64 (((s.begins.length : Nat) : Int) - 1) = ((s.begins.length - 1 : Nat) : Int) := by rw [wrap_i64 (by omega) (by omega)]; omega
  refine ⟨fun W => W.heap = w0.heap ∧ Below w0.heap.size w0 W, fun W e1 e2 e3 e4 => ⟨e1, same_below _ e1 e2 e3 e4⟩, someV_some rfl ⟨_, _, _, fun W hW => (h.blk.same hW.1).cell (j := 11) rfl, someV_some rfl ⟨_, _, _, fun W hW => (h.blk.same hW.1).cell (j := 11) rfl, someV_some hq ⟨?_, ?_⟩⟩⟩⟩
  · rw [hw]; omega
  · rw [hw]
    exact ⟨_, fun W hW => (World.cell?_of_block (by rw [hW.1])).trans c0, fun W hW => ⟨rfl, hW.2⟩⟩
end Go.Proofs.YtcofknlcdgidpaaGreatDoor
/-! ## GlabelTake -/
namespace Go.Proofs.YtcofknlcdgidpaaGreatDoor
open Go Go.Proofs.YtcofknlcdgidpaaGreatDoor.VC
set_option linter.unusedVariables false
set_option maxRecDepth 100000
set_option maxHeartbeats 0

/-! ### postroom/label.Take: function 123 -/
namespace label_Take
def t1 (R : Ending → World → Prop)  (Back0 : ByteArray → (Option Addr) → Nat → Nat → Int → List Value → World → Prop)  (rest_6 : ByteArray) (out_8a : Option Addr) (out_8b : Nat) (out_8c : Nat) (x_22 : Int) (x_23 : Int) (g : List Value) (w : World) : Prop := boolV (decide (x_23 < x_22)) (∀ (b1 : Nat) (w2 : World), b1 = w.heap.size → w2 = World.alloc w (.cells #[.string ByteArray.empty, .string ByteArray.empty] 112) → Calls Tryz.prog 172 #[.string rest_6, .int .i64 20] w2 (fun e3 w4 => ∃ s5 : ByteArray, ∃ s6 : ByteArray, ∃ x7 : Int, e3 = .returned (.tuple #[.string s5, .string s6, .int .i64 x7]) ∧ (Writable w4 ⟨b1, 0, none⟩ 1 ∧ ∀ w8 : World, w8 = World.setCell w4 ⟨b1, 0, none⟩ (.string s5) → boolV (x7 == (0 : Int)) (Calls Tryz.prog 172 #[.string s6, .int .i64 40] w8 (fun e9 w10 => ∃ s11 : ByteArray, ∃ s12 : ByteArray, ∃ x13 : Int, e9 = .returned (.tuple #[.string s11, .string s12, .int .i64 x13]) ∧ (Writable w10 ⟨b1, 1, none⟩ 1 ∧ ∀ w14 : World, w14 = World.setCell w10 ⟨b1, 1, none⟩ (.string s11) → ∃ C15 : World → Prop, (∀ w' : World, w'.heap = w14.heap → w'.tape = w14.tape → w'.os = w14.os → w'.output = w14.output → C15 w') ∧ (boolV (x13 != (0 : Int)) (∀ w16 : World, C15 w16 → R (.returned (.tuple #[.slice none 0 0, .string ⟨#[]⟩, .int .i64 2])) w16) (boolV (decide (((out_8b : Nat) : Int) > (0 : Int))) (someV out_8a (fun p17 => (0 ≤ (IntKind.wrap .i64 (((out_8b : Nat) : Int) - 1)) ∧ (IntKind.wrap .i64 (((out_8b : Nat) : Int) - 1)) < (out_8b : Nat)) ∧ (∃ s18 : ByteArray, (∀ w, C15 w → w.cell? (p17.add ((IntKind.wrap .i64 (((out_8b : Nat) : Int) - 1)).toNat * 2)) = some (.string s18)) ∧ (∃ s19 : ByteArray, (∀ w, C15 w → w.cell? ⟨b1, 0, none⟩ = some (.string s19)) ∧ (∀ w16 : World, C15 w16 → boolV (!(Op.bytesLess s18.toList s19.toList)) (R (.returned (.tuple #[.slice none 0 0, .string ⟨#[]⟩, .int .i64 2])) w16) (∃ s20 : ByteArray, ∃ s21 : ByteArray, (w16.cell? ⟨b1, 0, none⟩ = some (.string s20) ∧ w16.cell? ⟨b1, 1, none⟩ = some (.string s21)) ∧ (∀ (b22 : Nat) (w23 : World), b22 = w16.heap.size → w23 = World.alloc w16 (.cells #[.string s20, .string s21] 112) → runV Tryz.prog (Builtin.append_ #[50, 50] 50 #[.slice out_8a out_8b out_8c, .slice (some ⟨b22, 0, none⟩) 1 1]) w23 (fun v24 w25 => ∃ (a26 : Option Addr) (n27 c28 : Nat), v24 = .slice a26 n27 c28 ∧ (Back0 s12 a26 n27 c28 (IntKind.wrap .u64 (x_23 + 1)) [nth g 0, nth g 1, nth g 2, nth g 3, nth g 4, nth g 5, .int .i64 x13, .pointer (some ⟨b1, 0, none⟩), nth g 8, nth g 9, nth g 10, nth g 11, nth g 12, nth g 13, nth g 14, nth g 15, nth g 16, nth g 17, nth g 18, nth g 19, .bool (decide (x_23 < x_22)), .tuple #[.string s5, .string s6, .int .i64 x7], .string rest_6, .tuple #[.string s5, .string s6, .int .i64 x7], .string s5, .string s6, .int .i64 x7, .pointer (some ⟨b1, 0, none⟩), .int .i64 x7, .bool (x7 == (0 : Int)), .tuple #[.string s11, .string s12, .int .i64 x13], .string s6, .tuple #[.string s11, .string s12, .int .i64 x13], .string s11, .string s12, .int .i64 x13, .pointer (some ⟨b1, 1, none⟩), .int .i64 x13, .bool (x13 != (0 : Int)), .bool false, .slice out_8a out_8b out_8c, .int .i64 ((out_8b : Nat) : Int), .bool (decide (((out_8b : Nat) : Int) > (0 : Int))), .bool true, .slice out_8a out_8b out_8c, .slice out_8a out_8b out_8c, .int .i64 ((out_8b : Nat) : Int), .int .i64 (IntKind.wrap .i64 (((out_8b : Nat) : Int) - 1)), .pointer (some (p17.add ((IntKind.wrap .i64 (((out_8b : Nat) : Int) - 1)).toNat * 2))), .pointer (some (p17.add ((IntKind.wrap .i64 (((out_8b : Nat) : Int) - 1)).toNat * 2))), .string s18, .pointer (some ⟨b1, 0, none⟩), .string s19, .bool (!(Op.bytesLess s18.toList s19.toList)), .bool (!(Op.bytesLess s18.toList s19.toList)), .bool (!(Op.bytesLess s18.toList s19.toList)), .slice out_8a out_8b out_8c, .agg #[.string s20, .string s21], .slice (some ⟨b22, 0, none⟩) 1 1, .slice a26 n27 c28, .int .u64 (IntKind.wrap .u64 (x_23 + 1)), nth g 61, nth g 62, nth g 63, nth g 64, nth g 65] w25))))))))) (∀ w16 : World, C15 w16 → ∃ s29 : ByteArray, ∃ s30 : ByteArray, (w16.cell? ⟨b1, 0, none⟩ = some (.string s29) ∧ w16.cell? ⟨b1, 1, none⟩ = some (.string s30)) ∧ (∀ (b31 : Nat) (w32 : World), b31 = w16.heap.size → w32 = World.alloc w16 (.cells #[.string s29, .string s30] 112) → runV Tryz.prog (Builtin.append_ #[50, 50] 50 #[.slice out_8a out_8b out_8c, .slice (some ⟨b31, 0, none⟩) 1 1]) w32 (fun v33 w34 => ∃ (a35 : Option Addr) (n36 c37 : Nat), v33 = .slice a35 n36 c37 ∧ (Back0 s12 a35 n36 c37 (IntKind.wrap .u64 (x_23 + 1)) [nth g 0, nth g 1, nth g 2, nth g 3, nth g 4, nth g 5, .int .i64 x13, .pointer (some ⟨b1, 0, none⟩), nth g 8, nth g 9, nth g 10, nth g 11, nth g 12, nth g 13, nth g 14, nth g 15, nth g 16, nth g 17, nth g 18, nth g 19, .bool (decide (x_23 < x_22)), .tuple #[.string s5, .string s6, .int .i64 x7], .string rest_6, .tuple #[.string s5, .string s6, .int .i64 x7], .string s5, .string s6, .int .i64 x7, .pointer (some ⟨b1, 0, none⟩), .int .i64 x7, .bool (x7 == (0 : Int)), .tuple #[.string s11, .string s12, .int .i64 x13], .string s6, .tuple #[.string s11, .string s12, .int .i64 x13], .string s11, .string s12, .int .i64 x13, .pointer (some ⟨b1, 1, none⟩), .int .i64 x13, .bool (x13 != (0 : Int)), .bool false, .slice out_8a out_8b out_8c, .int .i64 ((out_8b : Nat) : Int), .bool (decide (((out_8b : Nat) : Int) > (0 : Int))), .bool false, undef, undef, undef, undef, undef, undef, undef, undef, undef, undef, .bool false, .bool false, .slice out_8a out_8b out_8c, .agg #[.string s29, .string s30], .slice (some ⟨b31, 0, none⟩) 1 1, .slice a35 n36 c37, .int .u64 (IntKind.wrap .u64 (x_23 + 1)), nth g 61, nth g 62, nth g 63, nth g 64, nth g 65] w34))))))))) (∃ C38 : World → Prop, (∀ w' : World, w'.heap = w8.heap → w'.tape = w8.tape → w'.os = w8.os → w'.output = w8.output → C38 w') ∧ (boolV (x7 != (0 : Int)) (∀ w39 : World, C38 w39 → R (.returned (.tuple #[.slice none 0 0, .string ⟨#[]⟩, .int .i64 2])) w39) (boolV (decide (((out_8b : Nat) : Int) > (0 : Int))) (someV out_8a (fun p40 => (0 ≤ (IntKind.wrap .i64 (((out_8b : Nat) : Int) - 1)) ∧ (IntKind.wrap .i64 (((out_8b : Nat) : Int) - 1)) < (out_8b : Nat)) ∧ (∃ s41 : ByteArray, (∀ w, C38 w → w.cell? (p40.add ((IntKind.wrap .i64 (((out_8b : Nat) : Int) - 1)).toNat * 2)) = some (.string s41)) ∧ (∃ s42 : ByteArray, (∀ w, C38 w → w.cell? ⟨b1, 0, none⟩ = some (.string s42)) ∧ (∀ w39 : World, C38 w39 → boolV (!(Op.bytesLess s41.toList s42.toList)) (R (.returned (.tuple #[.slice none 0 0, .string ⟨#[]⟩, .int .i64 2])) w39) (∃ s43 : ByteArray, ∃ s44 : ByteArray, (w39.cell? ⟨b1, 0, none⟩ = some (.string s43) ∧ w39.cell? ⟨b1, 1, none⟩ = some (.string s44)) ∧ (∀ (b45 : Nat) (w46 : World), b45 = w39.heap.size → w46 = World.alloc w39 (.cells #[.string s43, .string s44] 112) → runV Tryz.prog (Builtin.append_ #[50, 50] 50 #[.slice out_8a out_8b out_8c, .slice (some ⟨b45, 0, none⟩) 1 1]) w46 (fun v47 w48 => ∃ (a49 : Option Addr) (n50 c51 : Nat), v47 = .slice a49 n50 c51 ∧ (Back0 s6 a49 n50 c51 (IntKind.wrap .u64 (x_23 + 1)) [nth g 0, nth g 1, nth g 2, nth g 3, nth g 4, nth g 5, .int .i64 x7, .pointer (some ⟨b1, 0, none⟩), nth g 8, nth g 9, nth g 10, nth g 11, nth g 12, nth g 13, nth g 14, nth g 15, nth g 16, nth g 17, nth g 18, nth g 19, .bool (decide (x_23 < x_22)), .tuple #[.string s5, .string s6, .int .i64 x7], .string rest_6, .tuple #[.string s5, .string s6, .int .i64 x7], .string s5, .string s6, .int .i64 x7, .pointer (some ⟨b1, 0, none⟩), .int .i64 x7, .bool (x7 == (0 : Int)), nth g 30, nth g 31, nth g 32, nth g 33, nth g 34, nth g 35, nth g 36, .int .i64 x7, .bool (x7 != (0 : Int)), .bool false, .slice out_8a out_8b out_8c, .int .i64 ((out_8b : Nat) : Int), .bool (decide (((out_8b : Nat) : Int) > (0 : Int))), .bool true, .slice out_8a out_8b out_8c, .slice out_8a out_8b out_8c, .int .i64 ((out_8b : Nat) : Int), .int .i64 (IntKind.wrap .i64 (((out_8b : Nat) : Int) - 1)), .pointer (some (p40.add ((IntKind.wrap .i64 (((out_8b : Nat) : Int) - 1)).toNat * 2))), .pointer (some (p40.add ((IntKind.wrap .i64 (((out_8b : Nat) : Int) - 1)).toNat * 2))), .string s41, .pointer (some ⟨b1, 0, none⟩), .string s42, .bool (!(Op.bytesLess s41.toList s42.toList)), .bool (!(Op.bytesLess s41.toList s42.toList)), .bool (!(Op.bytesLess s41.toList s42.toList)), .slice out_8a out_8b out_8c, .agg #[.string s43, .string s44], .slice (some ⟨b45, 0, none⟩) 1 1, .slice a49 n50 c51, .int .u64 (IntKind.wrap .u64 (x_23 + 1)), nth g 61, nth g 62, nth g 63, nth g 64, nth g 65] w48))))))))) (∀ w39 : World, C38 w39 → ∃ s52 : ByteArray, ∃ s53 : ByteArray, (w39.cell? ⟨b1, 0, none⟩ = some (.string s52) ∧ w39.cell? ⟨b1, 1, none⟩ = some (.string s53)) ∧ (∀ (b54 : Nat) (w55 : World), b54 = w39.heap.size → w55 = World.alloc w39 (.cells #[.string s52, .string s53] 112) → runV Tryz.prog (Builtin.append_ #[50, 50] 50 #[.slice out_8a out_8b out_8c, .slice (some ⟨b54, 0, none⟩) 1 1]) w55 (fun v56 w57 => ∃ (a58 : Option Addr) (n59 c60 : Nat), v56 = .slice a58 n59 c60 ∧ (Back0 s6 a58 n59 c60 (IntKind.wrap .u64 (x_23 + 1)) [nth g 0, nth g 1, nth g 2, nth g 3, nth g 4, nth g 5, .int .i64 x7, .pointer (some ⟨b1, 0, none⟩), nth g 8, nth g 9, nth g 10, nth g 11, nth g 12, nth g 13, nth g 14, nth g 15, nth g 16, nth g 17, nth g 18, nth g 19, .bool (decide (x_23 < x_22)), .tuple #[.string s5, .string s6, .int .i64 x7], .string rest_6, .tuple #[.string s5, .string s6, .int .i64 x7], .string s5, .string s6, .int .i64 x7, .pointer (some ⟨b1, 0, none⟩), .int .i64 x7, .bool (x7 == (0 : Int)), nth g 30, nth g 31, nth g 32, nth g 33, nth g 34, nth g 35, nth g 36, .int .i64 x7, .bool (x7 != (0 : Int)), .bool false, .slice out_8a out_8b out_8c, .int .i64 ((out_8b : Nat) : Int), .bool (decide (((out_8b : Nat) : Int) > (0 : Int))), .bool false, undef, undef, undef, undef, undef, undef, undef, undef, undef, undef, .bool false, .bool false, .slice out_8a out_8b out_8c, .agg #[.string s52, .string s53], .slice (some ⟨b54, 0, none⟩) 1 1, .slice a58 n59 c60, .int .u64 (IntKind.wrap .u64 (x_23 + 1)), nth g 61, nth g 62, nth g 63, nth g 64, nth g 65] w57)))))))))) (Calls Tryz.prog 113 #[.slice out_8a out_8b out_8c] w (fun e61 w62 => ∃ x63 : Int, e61 = .returned (.int .i64 x63) ∧ (boolV (x63 != (0 : Int)) (R (.returned (.tuple #[.slice none 0 0, .string ⟨#[]⟩, .int .i64 2])) w62) (R (.returned (.tuple #[.slice out_8a out_8b out_8c, .string rest_6, .int .i64 0])) w62))))
def W0 (R : Ending → World → Prop)  (rest_6 : ByteArray) (out_8a : Option Addr) (out_8b : Nat) (out_8c : Nat) (x_22 : Int) (x_23 : Int) (w : World) : Prop := ∃ (I : Nat → ByteArray → (Option Addr) → Nat → Nat → Int → World → Prop) (n : Nat), I n rest_6 out_8a out_8b out_8c x_23 w ∧ ∀ (n : Nat) (rest_6 : ByteArray) (out_8a : Option Addr) (out_8b : Nat) (out_8c : Nat) (x_23 : Int) (g : List Value) (w : World), I n rest_6 out_8a out_8b out_8c x_23 w → ∀ (Back0 : ByteArray → (Option Addr) → Nat → Nat → Int → List Value → World → Prop), (∀ (m : Nat) (rest_6 : ByteArray) (out_8a : Option Addr) (out_8b : Nat) (out_8c : Nat) (x_23 : Int) (g : List Value) (w : World), m < n → I m rest_6 out_8a out_8b out_8c x_23 w → Back0 rest_6 out_8a out_8b out_8c x_23 g w) → t1 R  Back0  rest_6 out_8a out_8b out_8c x_22 x_23 g w
def t0 (R : Ending → World → Prop) (L0 : ByteArray → (Option Addr) → Nat → Nat → Int → Int → List Value → World → Prop) (s_0 : ByteArray) (w : World) : Prop := Calls Tryz.prog 171 #[.string s_0] w (fun e1 w2 => ∃ x3 : Int, ∃ s4 : ByteArray, ∃ x5 : Int, e1 = .returned (.tuple #[.int .u64 x3, .string s4, .int .i64 x5]) ∧ (boolV (x5 != (0 : Int)) (R (.returned (.tuple #[.slice none 0 0, .string ⟨#[]⟩, .int .i64 2])) w2) (boolV (decide (x3 > (8 : Int))) (R (.returned (.tuple #[.slice none 0 0, .string ⟨#[]⟩, .int .i64 2])) w2) (L0 s4 none 0 0 x3 0 [.string s_0, undef, .slice none 0 0, .string ⟨#[]⟩, .int .i64 0, .int .u64 x3, .int .i64 x5, undef, .tuple #[.int .u64 x3, .string s4, .int .i64 x5], .string s_0, .tuple #[.int .u64 x3, .string s4, .int .i64 x5], .int .u64 x3, .string s4, .int .i64 x5, .int .i64 x5, .bool (x5 != (0 : Int)), .bool false, .int .u64 x3, .bool (decide (x3 > (8 : Int))), .bool (decide (x3 > (8 : Int))), undef, undef, undef, undef, undef, undef, undef, undef, undef, undef, undef, undef, undef, undef, undef, undef, undef, undef, undef, undef, undef, undef, undef, undef, undef, undef, undef, undef, undef, undef, undef, undef, undef, undef, undef, undef, undef, undef, undef, undef, undef, undef, undef, undef, undef, undef] w2))))
def vc (R : Ending → World → Prop) (s_0 : ByteArray) (w : World) : Prop := ∀ (L0 : ByteArray → (Option Addr) → Nat → Nat → Int → Int → List Value → World → Prop), (∀ rest_6 out_8a out_8b out_8c x_22 x_23 g w, W0 R rest_6 out_8a out_8b out_8c x_22 x_23 w → L0 rest_6 out_8a out_8b out_8c x_22 x_23 g w) → t0 R L0 s_0 w
theorem at0 (R : Ending → World → Prop) (rest_6 : ByteArray) (out_8a : Option Addr) (out_8b : Nat) (out_8c : Nat) (x_22 : Int) (x_23 : Int) (g : List Value) (w : World) (h : W0 R  rest_6 out_8a out_8b out_8c x_22 x_23 w) : atV Tryz.prog (bodyC Tryz.f123) [true, true, true, true, false, true, false] (retQ Tryz.prog Tryz.f123 R) [nth g 0, nth g 1, nth g 2, nth g 3, nth g 4, nth g 5, .string rest_6, nth g 6, .slice out_8a out_8b out_8c, nth g 7, nth g 8, nth g 9, nth g 10, nth g 11, nth g 12, nth g 13, nth g 14, nth g 15, nth g 16, nth g 17, nth g 18, nth g 19, .int .u64 x_22, .int .u64 x_23, nth g 20, nth g 21, nth g 22, nth g 23, nth g 24, nth g 25, nth g 26, nth g 27, nth g 28, nth g 29, nth g 30, nth g 31, nth g 32, nth g 33, nth g 34, nth g 35, nth g 36, nth g 37, nth g 38, nth g 39, nth g 40, nth g 41, nth g 42, nth g 43, nth g 44, nth g 45, nth g 46, nth g 47, nth g 48, nth g 49, nth g 50, nth g 51, nth g 52, nth g 53, nth g 54, nth g 55, nth g 56, nth g 57, nth g 58, nth g 59, nth g 60, nth g 61, nth g 62, nth g 63, nth g 64, nth g 65] w := by
  obtain ⟨I, n0, h0, hs⟩ := h
  refine atV_loop (by kernel_rfl) (fun n s w => ∃ (rest_6 : ByteArray) (out_8a : Option Addr) (out_8b : Nat) (out_8c : Nat) (x_23 : Int) (g : List Value), s = [nth g 0, nth g 1, nth g 2, nth g 3, nth g 4, nth g 5, .string rest_6, nth g 6, .slice out_8a out_8b out_8c, nth g 7, nth g 8, nth g 9, nth g 10, nth g 11, nth g 12, nth g 13, nth g 14, nth g 15, nth g 16, nth g 17, nth g 18, nth g 19, .int .u64 x_22, .int .u64 x_23, nth g 20, nth g 21, nth g 22, nth g 23, nth g 24, nth g 25, nth g 26, nth g 27, nth g 28, nth g 29, nth g 30, nth g 31, nth g 32, nth g 33, nth g 34, nth g 35, nth g 36, nth g 37, nth g 38, nth g 39, nth g 40, nth g 41, nth g 42, nth g 43, nth g 44, nth g 45, nth g 46, nth g 47, nth g 48, nth g 49, nth g 50, nth g 51, nth g 52, nth g 53, nth g 54, nth g 55, nth g 56, nth g 57, nth g 58, nth g 59, nth g 60, nth g 61, nth g 62, nth g 63, nth g 64, nth g 65] ∧ I n rest_6 out_8a out_8b out_8c x_23 w) n0 ⟨_, _, _, _, _, _, rfl, h0⟩ ?_
  rintro n s w ⟨rest_6, out_8a, out_8b, out_8c, x_23, g, rfl, hI⟩
  exact Eq.mpr (by kernel_rfl) (hs n rest_6 out_8a out_8b out_8c x_23 g w hI (fun rest_6 out_8a out_8b out_8c x_23 g w => (backQ (fun n s w => ∃ (rest_6 : ByteArray) (out_8a : Option Addr) (out_8b : Nat) (out_8c : Nat) (x_23 : Int) (g : List Value), s = [nth g 0, nth g 1, nth g 2, nth g 3, nth g 4, nth g 5, .string rest_6, nth g 6, .slice out_8a out_8b out_8c, nth g 7, nth g 8, nth g 9, nth g 10, nth g 11, nth g 12, nth g 13, nth g 14, nth g 15, nth g 16, nth g 17, nth g 18, nth g 19, .int .u64 x_22, .int .u64 x_23, nth g 20, nth g 21, nth g 22, nth g 23, nth g 24, nth g 25, nth g 26, nth g 27, nth g 28, nth g 29, nth g 30, nth g 31, nth g 32, nth g 33, nth g 34, nth g 35, nth g 36, nth g 37, nth g 38, nth g 39, nth g 40, nth g 41, nth g 42, nth g 43, nth g 44, nth g 45, nth g 46, nth g 47, nth g 48, nth g 49, nth g 50, nth g 51, nth g 52, nth g 53, nth g 54, nth g 55, nth g 56, nth g 57, nth g 58, nth g 59, nth g 60, nth g 61, nth g 62, nth g 63, nth g 64, nth g 65] ∧ I n rest_6 out_8a out_8b out_8c x_23 w) n (ctxQ Tryz.prog (bodyC Tryz.f123) [true, true, true, true, false, true, false] (retQ Tryz.prog Tryz.f123 R))) .normal [nth g 0, nth g 1, nth g 2, nth g 3, nth g 4, nth g 5, .string rest_6, nth g 6, .slice out_8a out_8b out_8c, nth g 7, nth g 8, nth g 9, nth g 10, nth g 11, nth g 12, nth g 13, nth g 14, nth g 15, nth g 16, nth g 17, nth g 18, nth g 19, .int .u64 x_22, .int .u64 x_23, nth g 20, nth g 21, nth g 22, nth g 23, nth g 24, nth g 25, nth g 26, nth g 27, nth g 28, nth g 29, nth g 30, nth g 31, nth g 32, nth g 33, nth g 34, nth g 35, nth g 36, nth g 37, nth g 38, nth g 39, nth g 40, nth g 41, nth g 42, nth g 43, nth g 44, nth g 45, nth g 46, nth g 47, nth g 48, nth g 49, nth g 50, nth g 51, nth g 52, nth g 53, nth g 54, nth g 55, nth g 56, nth g 57, nth g 58, nth g 59, nth g 60, nth g 61, nth g 62, nth g 63, nth g 64, nth g 65] w) (fun m rest_6 out_8a out_8b out_8c x_23 g w hm hI => ⟨m, hm, rest_6, out_8a, out_8b, out_8c, x_23, g, rfl, hI⟩))
theorem calls (R : Ending → World → Prop) (s_0 : ByteArray) (w : World) (h : vc R s_0 w) : Calls Tryz.prog 123 #[.string s_0] w R :=
  calls_V Tryz.func123 (Eq.mpr (by kernel_rfl) (h (fun rest_6 out_8a out_8b out_8c x_22 x_23 g w => atV Tryz.prog (bodyC Tryz.f123) [true, true, true, true, false, true, false] (retQ Tryz.prog Tryz.f123 R) [nth g 0, nth g 1, nth g 2, nth g 3, nth g 4, nth g 5, .string rest_6, nth g 6, .slice out_8a out_8b out_8c, nth g 7, nth g 8, nth g 9, nth g 10, nth g 11, nth g 12, nth g 13, nth g 14, nth g 15, nth g 16, nth g 17, nth g 18, nth g 19, .int .u64 x_22, .int .u64 x_23, nth g 20, nth g 21, nth g 22, nth g 23, nth g 24, nth g 25, nth g 26, nth g 27, nth g 28, nth g 29, nth g 30, nth g 31, nth g 32, nth g 33, nth g 34, nth g 35, nth g 36, nth g 37, nth g 38, nth g 39, nth g 40, nth g 41, nth g 42, nth g 43, nth g 44, nth g 45, nth g 46, nth g 47, nth g 48, nth g 49, nth g 50, nth g 51, nth g 52, nth g 53, nth g 54, nth g 55, nth g 56, nth g 57, nth g 58, nth g 59, nth g 60, nth g 61, nth g 62, nth g 63, nth g 64, nth g 65] w) (fun rest_6 out_8a out_8b out_8c x_22 x_23 g w h => at0 R rest_6 out_8a out_8b out_8c x_22 x_23 g w h)))
end label_Take
end Go.Proofs.YtcofknlcdgidpaaGreatDoor
/-! ## Take -/
namespace Go.Proofs.YtcofknlcdgidpaaGreatDoor
open Go Go.RowKit Go.Proofs.YtcofknlcdgidpaaGreatDoor.VC
set_option linter.unusedVariables false
set_option maxRecDepth 100000

theorem txtTake_ok {most : Nat} {bs a r : List UInt8} (h : txtTake most bs = .ok (a, r)) : a.length ≤ most ∧ r.length < bs.length := by
  unfold txtTake at h
  split at h
  · cases h
  · rename_i n r' ht
    split at h
    · cases h
    · split at h
      · cases h
      · cases h
        have := takeGo_short ht
        simp; omega
def labTakeGo : Nat → List (Txt × Txt) → List UInt8 → Option (List (Txt × Txt) × List UInt8)
  | 0, out, r => some (out, r)
  | k + 1, out, r => match txtTake 20 r with
    | .error _ => none
    | .ok (a, r1) => match txtTake 40 r1 with
      | .error _ => none
      | .ok (b, r2) => match out.getLast? with
        | some last => if Op.bytesLess last.1 a = true then labTakeGo k (out ++ [(a, b)]) r2 else none
        | none => labTakeGo k (out ++ [(a, b)]) r2
/-- Labels off bytes, and what is left. -/
def labTake (bs : List UInt8) : Option (List (Txt × Txt) × List UInt8) :=
  match takeGo 0 0 bs with
  | none => none
  | some (n, r) => if 8 < n then none else match labTakeGo n [] r with
    | none => none
    | some (out, r) => if labCheck out = 0 then some (out, r) else none
def labTakeR (w0 : World) (bs : List UInt8) (e : Ending) (w : World) : Prop := Below w0.heap.size w0 w ∧ match labTake bs with
  | none => e = .returned (.tuple #[.slice none 0 0, .string ⟨#[]⟩, .int .i64 2])
  | some (out, r) => r.length < bs.length ∧ (∀ p ∈ out, p.1.length ≤ 20) ∧ ∃ a c, e = .returned (.tuple #[.slice a out.length c, .string (S r), .int .i64 0]) ∧ w.ownsRow w0.heap.size 112 2 (.slice a out.length c) out.length (pairCs out)
theorem pairCs_snoc (l : List (Txt × Txt)) (a b : Txt) : pairCs (l ++ [(a, b)]) = pairCs l ++ [.string (S a), .string (S b)] := by simp [pairCs, pairC]
theorem label_take (bs : List UInt8) (hlen : bs.length < 9223372036854775808) (w0 : World) :
    Calls Tryz.prog 123 #[.string (S bs)] w0 (labTakeR w0 bs) := by
  apply label_Take.calls
  intro L0 hL
  unfold label_Take.t0
  refine (num_take bs hlen w0).mono ?_
  rintro e w ⟨rfl, hb⟩
  cases ht : takeGo 0 0 bs with
  | none => exact ⟨_, _, _, rfl, boolT (by decide) ⟨hb, by rw [labTake, ht]⟩⟩
  | some p =>
    obtain ⟨n, r0⟩ := p
    have hr0 := takeGo_short ht
    refine ⟨_, _, _, rfl, boolF (by decide) ?_⟩
    by_cases h8 : 8 < n
    · exact boolT (by simp; omega) ⟨hb, by simp [labTake, ht, h8]⟩
    refine boolF (by simp; omega) (hL _ _ _ _ _ _ _ _ ?_)
    have hdef : labTake bs = match labTakeGo n [] r0 with | none => none | some (out, r) => if labCheck out = 0 then some (out, r) else none := by rw [labTake, ht]; simp only [if_neg h8]
    refine ⟨fun m rest a b c x w => ∃ (out : List (Txt × Txt)) (r : List UInt8), rest = S r ∧ x = ((out.length : Nat) : Int) ∧ out.length ≤ n ∧ b = out.length ∧ w.ownsRow w0.heap.size 112 2 (.slice a b c) b (pairCs out) ∧ labTakeGo (n - out.length) out r = labTakeGo n [] r0 ∧ r.length < bs.length ∧ (∀ p ∈ out, p.1.length ≤ 20) ∧ m = n - out.length ∧ Below w0.heap.size w0 w, _, ⟨[], r0, rfl, rfl, by simp, rfl, World.ownsRow_nil _ _ _ _, by simp, hr0, by simp, rfl, hb⟩, ?_⟩
    rintro m rest a b c x g w ⟨out, r, rfl, rfl, hon, rfl, hown, hgo, hr, hnm, rfl, hbel⟩ Back hback
    unfold label_Take.t1
    have hnone : ∀ {w : World}, labTakeGo n [] r0 = none → Below w0.heap.size w0 w → labTakeR w0 bs (.returned (.tuple #[.slice none 0 0, .string ⟨#[]⟩, .int .i64 2])) w := fun h hb => ⟨hb, by rw [hdef, h]⟩
    by_cases hlt : out.length < n
    · rw [show n - out.length = (n - (out.length + 1)) + 1 from by omega, labTakeGo] at hgo
      refine boolT (by simp; omega) ?_
      rintro b1 w2 rfl rfl
      have hblk2 := Blk.new w 112 [.string ByteArray.empty, .string ByteArray.empty]
      have hb2 := hbel.alloc hbel.size (.cells #[.string ByteArray.empty, .string ByteArray.empty] 112)
      refine (num_takeText r 20 (by omega) (by decide) _).mono ?_
      rintro e w4 ⟨rfl, hb4⟩
      have hb4' := hb2.trans (hb4.mono hb2.size)
      have hblk4 := hblk2.below hb4 hblk2.lt
      have hown4 := own_below (hown.alloc (.cells #[.string ByteArray.empty, .string ByteArray.empty] 112)) hb4
      have hsz : w0.heap.size ≤ w.heap.size := hbel.size
      have hne4 : (Value.slice a out.length c).ownBlock ≠ some w.heap.size := fun e => by have := (hown.lt _ e).2; omega
      cases ht1 : txtTake 20 r with
      | error k =>
        rw [ht1] at hgo; simp only at hgo
        refine ⟨_, _, _, rfl, hblk4.writable (by decide), ?_⟩
        rintro w8 rfl
        have hb8 := hb4'.setCell (p := ⟨w.heap.size, 0, none⟩) hsz (.string ⟨#[]⟩)
        have hk : (((k : Nat) : Int) == 0) = false := by
          unfold txtTake at ht1
          split at ht1
          · cases ht1; rfl
          · split at ht1
            · cases ht1; rfl
            · split at ht1
              · cases ht1; rfl
              · cases ht1
        refine boolF hk ⟨fun W => Below w0.heap.size w0 W, fun W e1 e2 e3 e4 => hb8.trans (same_below _ e1 e2 e3 e4), boolT (by simpa using hk) fun W hW => hnone hgo.symm hW⟩
      | ok p1 =>
        obtain ⟨t1, r1⟩ := p1
        rw [ht1] at hgo; simp only at hgo
        obtain ⟨hl1, hr1⟩ := txtTake_ok ht1
        refine ⟨_, _, _, rfl, hblk4.writable (by decide), ?_⟩
        rintro w8 rfl
        have hb8 := hb4'.setCell (p := ⟨w.heap.size, 0, none⟩) hsz (.string (S t1))
        have hblk8 := hblk4.set 0 (.string (S t1))
        have hown8 := hown4.kept (setCell_grown w4 ⟨w.heap.size, 0, none⟩ (.string (S t1))) (.inr hne4)
        refine boolT rfl ((num_takeText r1 40 (by omega) (by decide) _).mono ?_)
        rintro e w10 ⟨rfl, hb10⟩
        have hb10' := hb8.trans (hb10.mono hb8.size)
        have hblk10 := hblk8.below hb10 hblk8.lt
        have hown10 := own_below hown8 hb10
        cases ht2 : txtTake 40 r1 with
        | error k =>
          rw [ht2] at hgo; simp only at hgo
          refine ⟨_, _, _, rfl, hblk10.writable (o := 1) (by simp), ?_⟩
          rintro w14 rfl
          have hb14 := hb10'.setCell (p := ⟨w.heap.size, 1, none⟩) hsz (.string ⟨#[]⟩)
          have hk : (((k : Nat) : Int) == 0) = false := by
            unfold txtTake at ht2
            split at ht2
            · cases ht2; rfl
            · split at ht2
              · cases ht2; rfl
              · split at ht2
                · cases ht2; rfl
                · cases ht2
          exact ⟨fun W => Below w0.heap.size w0 W, fun W e1 e2 e3 e4 => hb14.trans (same_below _ e1 e2 e3 e4), boolT (by simpa [bne] using hk) fun W hW => hnone hgo.symm hW⟩
        | ok p2 =>
          obtain ⟨t2, r2⟩ := p2
          rw [ht2] at hgo; simp only at hgo
          obtain ⟨hl2, hr2⟩ := txtTake_ok ht2
          refine ⟨_, _, _, rfl, hblk10.writable (o := 1) (by simp), ?_⟩
          rintro w14 rfl
          have hb14 := hb10'.setCell (p := ⟨w.heap.size, 1, none⟩) hsz (.string (S t2))
          have hblk14 := hblk10.set 1 (.string (S t2))
          have hown14 := hown10.kept (setCell_grown w10 ⟨w.heap.size, 1, none⟩ (.string (S t2))) (.inr hne4)
          have hback' : ∀ a' c' w', w'.ownsRow w0.heap.size 112 2 (.slice a' (out.length + 1) c') (out.length + 1) (pairCs (out ++ [(t1, t2)])) → labTakeGo (n - (out.length + 1)) (out ++ [(t1, t2)]) r2 = labTakeGo n [] r0 → Below w0.heap.size w0 w' → ∀ g', Back (S r2) a' (out.length + 1) c' (IntKind.wrap .u64 (((out.length : Nat) : Int) + 1)) g' w' := by
            intro a' c' w' ho hg' hb' g'
            refine hback (n - (out.length + 1)) _ _ _ _ _ _ _ (by omega) ⟨out ++ [(t1, t2)], r2, rfl, ?_, by simp; omega, by simp, by simpa using ho, by simpa using hg', by omega, ?_, by simp, hb'⟩
            · rw [show (((out.length : Nat) : Int) + 1) = ((out.length + 1 : Nat) : Int) from by omega, wrap_u64, Nat.mod_eq_of_lt (by omega)]; simp
            · intro p hp
              rcases List.mem_append.1 hp with hp | hp
              · exact hnm p hp
              · simp at hp; subst hp; exact hl1
          refine ⟨fun W => W.heap = (w10.setCell ⟨w.heap.size, 1, none⟩ (.string (S t2))).heap ∧ Below w0.heap.size w0 W, fun W e1 e2 e3 e4 => ⟨e1, hb14.trans (same_below _ e1 e2 e3 e4)⟩, boolF rfl ?_⟩
          have happ : ∀ W : World, W.heap = (w10.setCell ⟨w.heap.size, 1, none⟩ (.string (S t2))).heap → Below w0.heap.size w0 W → labTakeGo (n - (out.length + 1)) (out ++ [(t1, t2)]) r2 = labTakeGo n [] r0 → ∀ g' : Option Addr → Nat → Nat → List Value,
              runV Tryz.prog (Builtin.append_ #[50, 50] 50 #[.slice a out.length c, .slice (some ⟨W.heap.size, 0, none⟩) 1 1]) (World.alloc W (.cells #[.string (S t1), .string (S t2)] 112)) (fun v24 w25 => ∃ (a26 : Option Addr) (n27 c28 : Nat), v24 = .slice a26 n27 c28 ∧ Back (S r2) a26 n27 c28 (IntKind.wrap .u64 (((out.length : Nat) : Int) + 1)) (g' a26 n27 c28) w25) := by
            intro W hW hbW hgo' g'
            have hownW : W.ownsRow w0.heap.size 112 2 (.slice a out.length c) out.length (pairCs out) := own_below hown14 ⟨hbW.os.trans hb14.os.symm, hbW.tape.trans hb14.tape.symm, hbW.output.trans hb14.output.symm, by rw [hW]; exact Nat.le_refl _, fun k _ => by rw [hW]⟩
            refine appendV (P := Tryz.prog) (size := 2) (news := [.string (S t1), .string (S t2)]) (by kernel_rfl) hownW hbW.size (m := 1) (by rfl) (by simp [Value.oneCell']) (by decide) (by omega) ?_
            intro g'' c' w' ho hb' hg hs
            exact ⟨_, _, _, rfl, hback' _ _ _ (by rw [pairCs_snoc]; exact ho) hgo' (hbW.trans hb') _⟩
          by_cases h0 : out.length = 0
          · have hout : out = [] := List.length_eq_zero_iff.mp h0
            refine boolF (by simp [h0]) fun W hW => ?_
            have hcell := hblk14.same hW.1
            refine ⟨_, _, ⟨hcell.cell (j := 0) rfl, hcell.cell (j := 1) rfl⟩, ?_⟩
            rintro b22 w23 rfl rfl
            exact happ W hW.1 hW.2 (by rw [hout] at hgo ⊢; exact hgo) _
          · obtain ⟨last, hlast⟩ : ∃ last, out.getLast? = some last := by
              cases hh : out.getLast? with
              | none => rw [List.getLast?_eq_none_iff] at hh; exact absurd (by simp [hh]) h0
              | some l => exact ⟨l, rfl⟩
            have hli : out[out.length - 1]? = some last := by rw [← hlast, List.getLast?_eq_getElem?]
            have hw1 : IntKind.wrap .i64 (((out.length : Nat) : Int) - 1) = ((out.length - 1 : Nat) : Int) := by rw [wrap_i64 (by omega) (by omega)]; omega
            obtain ⟨q, hq, d0, d1⟩ := (RowAt.of_own hown14).pair hli
            simp only [hlast] at hgo
            rw [hw1]
            refine boolT (by simp; omega) (someV_some hq ⟨⟨by omega, by omega⟩, _, fun W hW => (World.cell?_of_block (by rw [hW.1])).trans d0, _, fun W hW => (hblk14.same hW.1).cell (j := 0) rfl, fun W hW => ?_⟩)
            rw [S_toList, S_toList]
            by_cases hless : Op.bytesLess last.1 t1 = true
            · rw [if_pos hless] at hgo
              have hcell := hblk14.same hW.1
              refine boolF (by rw [hless]; rfl) ⟨_, _, ⟨hcell.cell (j := 0) rfl, hcell.cell (j := 1) rfl⟩, ?_⟩
              rintro b22 w23 rfl rfl
              exact happ W hW.1 hW.2 hgo _
            · rw [if_neg hless] at hgo
              exact boolT (by simpa using hless) (hnone hgo.symm hW.2)
    · have heq : n - out.length = 0 := by omega
      rw [heq, labTakeGo] at hgo
      refine boolF (by simp; omega) ?_
      refine (label_check out (fun p hp => by have := hnm p hp; omega) (by omega) a c (own_le hown) w (RowAt.of_own hown)).mono ?_
      rintro e w9 ⟨rfl, hb9⟩
      have hb9' := hbel.trans (hb9.mono hbel.size)
      refine ⟨_, rfl, ?_⟩
      by_cases hc : labCheck out = 0
      · refine boolF (by simp [hc]) ⟨hb9', ?_⟩
        rw [hdef, ← hgo]; simp only [if_pos hc]
        exact ⟨hr, hnm, _, _, rfl, own_below hown hb9⟩
      · refine boolT (by simp; omega) ⟨hb9', ?_⟩
        rw [hdef, ← hgo]; simp only [if_neg hc]
end Go.Proofs.YtcofknlcdgidpaaGreatDoor
/-! ## SmpTake -/
namespace Go.Proofs.YtcofknlcdgidpaaGreatDoor
open Go Go.RowKit Go.Proofs.YtcofknlcdgidpaaGreatDoor.VC
set_option linter.unusedVariables false
set_option maxRecDepth 100000

def smpTakeGo : Nat → Int → Int → Int → List (Nat × Int) → List UInt8 → Option (List (Nat × Int) × List UInt8)
  | 0, _, _, _, out, r => some (out, r)
  | k + 1, at_, st, v, out, r => match takeGo 0 0 r with
    | none => none
    | some (za, r1) => match takeGo 0 0 r1 with
      | none => none
      | some (zb, r2) =>
        let st' := IntKind.wrap .i64 (st + unzz za)
        let at' := IntKind.wrap .i64 (at_ + st')
        let v' := IntKind.wrap .i64 (v + unzz zb)
        smpTakeGo k at' st' v' (out ++ [((IntKind.wrap .u64 at').toNat, v')]) r2
/-- Samples off bytes, and what is left. -/
def smpTake (bs : List UInt8) : Option (List (Nat × Int) × List UInt8) :=
  match takeGo 0 0 bs with
  | none => none
  | some (n, r) => if n = 0 ∨ 20 < n then none else match takeGo 0 0 r with
    | none => none
    | some (a, r1) => match takeGo 0 0 r1 with
      | none => none
      | some (zb, r2) => match smpTakeGo (n - 1) (IntKind.wrap .i64 a) 0 (unzz zb) [(a, unzz zb)] r2 with
        | none => none
        | some (out, r) => if smpCheck out = 0 then some (out, r) else none
def smpTakeR (w0 : World) (bs : List UInt8) (e : Ending) (w : World) : Prop := Below w0.heap.size w0 w ∧ match smpTake bs with
  | none => e = .returned (.tuple #[.slice none 0 0, .string ⟨#[]⟩, .int .i64 2])
  | some (out, r) => r.length < bs.length ∧ ∃ a c, e = .returned (.tuple #[.slice a out.length c, .string (S r), .int .i64 0]) ∧ w.ownsRow w0.heap.size 114 2 (.slice a out.length c) out.length (smpCs out)
theorem smpCs_snoc (l : List (Nat × Int)) (a : Nat) (b : Int) : smpCs (l ++ [(a, b)]) = smpCs l ++ [.int .u64 a, .int .i64 b] := by simp [smpCs, smpC]
theorem smpTakeGo_len : ∀ (k : Nat) (a s v : Int) (out : List (Nat × Int)) (r : List UInt8) (out' : List (Nat × Int)) (r' : List UInt8), smpTakeGo k a s v out r = some (out', r') → out'.length = out.length + k ∧ r'.length ≤ r.length
  | 0, a, s, v, out, r, out', r', h => by simp only [smpTakeGo, Option.some.injEq, Prod.mk.injEq] at h; obtain ⟨rfl, rfl⟩ := h; exact ⟨rfl, Nat.le_refl _⟩
  | k + 1, a, s, v, out, r, out', r', h => by
    rw [smpTakeGo] at h
    split at h
    · cases h
    · rename_i za r1 h1
      split at h
      · cases h
      · rename_i zb r2 h2
        have := smpTakeGo_len k _ _ _ _ _ _ _ h
        have e1 := takeGo_short h1
        have e2 := takeGo_short h2
        simp at this; omega
/-- The state of 'sample.Take' between two steps. -/
structure TakeSt (sa sd sv : Nat) (A D V : Int) (out : List (Nat × Int)) (oa : Option Addr) (on oc : Nat) (w0 w : World) : Prop where
  ba : Box sa A w
  bd : Box sd D w
  bv : Box sv V w
  ne0 : w0.heap.size ≤ sa
  ne2 : sa < sd
  ne3 : sd < sv
  row : w.ownsRow w0.heap.size 114 2 (.slice oa on oc) on (smpCs out)
  len : on = out.length
  bel : Below w0.heap.size w0 w
section
variable {sa sd sv : Nat} {A D V : Int} {out : List (Nat × Int)} {oa : Option Addr} {on oc : Nat} {w0 w : World}
theorem TakeSt.below {w' : World} (h : TakeSt sa sd sv A D V out oa on oc w0 w) (hb : Below w.heap.size w w') : TakeSt sa sd sv A D V out oa on oc w0 w' :=
  { h with ba := h.ba.below hb h.ba.lt, bd := h.bd.below hb h.bd.lt, bv := h.bv.below hb h.bv.lt, row := own_below h.row hb, bel := h.bel.trans (hb.mono h.bel.size) }
theorem TakeSt.setA (h : TakeSt sa sd sv A D V out oa on oc w0 w) (n : Int) : TakeSt sa sd sv n D V out oa on oc w0 (w.setCell ⟨sa, 0, none⟩ (.int .i64 n)) :=
  have h1 := h.ne0; have h2 := h.ne2; have h3 := h.ne3
  { h with row := own_set h.row h.ba (by decide) _ _, ba := h.ba.set 0 _, bd := h.bd.other (by simp; omega) _, bv := h.bv.other (by simp; omega) _, bel := h.bel.setCell (by simp; omega) _ }
theorem TakeSt.setD (h : TakeSt sa sd sv A D V out oa on oc w0 w) (n : Int) : TakeSt sa sd sv A n V out oa on oc w0 (w.setCell ⟨sd, 0, none⟩ (.int .i64 n)) :=
  have h1 := h.ne0; have h2 := h.ne2; have h3 := h.ne3
  { h with row := own_set h.row h.bd (by decide) _ _, bd := h.bd.set 0 _, ba := h.ba.other (by simp; omega) _, bv := h.bv.other (by simp; omega) _, bel := h.bel.setCell (by simp; omega) _ }
theorem TakeSt.setV (h : TakeSt sa sd sv A D V out oa on oc w0 w) (n : Int) : TakeSt sa sd sv A D n out oa on oc w0 (w.setCell ⟨sv, 0, none⟩ (.int .i64 n)) :=
  have h1 := h.ne0; have h2 := h.ne2; have h3 := h.ne3
  { h with row := own_set h.row h.bv (by decide) _ _, bv := h.bv.set 0 _, ba := h.ba.other (by simp; omega) _, bd := h.bd.other (by simp; omega) _, bel := h.bel.setCell (by simp; omega) _ }
theorem TakeSt.append (h : TakeSt sa sd sv A D V out oa on oc w0 w) (hon : on ≤ 100) (a : Nat) (b : Int) {K : Value → World → Prop}
    (hK : ∀ g c' w', TakeSt sa sd sv A D V (out ++ [(a, b)]) (some ⟨g, 0, none⟩) (on + 1) c' w0 w' → K (.slice (some ⟨g, 0, none⟩) (on + 1) c') w') :
    runV Tryz.prog (Builtin.append_ #[51, 51] 51 #[.slice oa on oc, .slice (some ⟨w.heap.size, 0, none⟩) 1 1]) (World.alloc w (.cells #[.int .u64 a, .int .i64 b] 114)) K := by
  have h1 := h.ne0; have h2 := h.ne2; have h3 := h.ne3
  refine appendV (P := Tryz.prog) (size := 2) (news := [.int .u64 a, .int .i64 b]) (by kernel_rfl) h.row h.bel.size (m := 1) (by rfl) (by simp [Value.oneCell']) (by decide) (by omega) ?_
  intro g c' w' ho hb hg hs
  have n1 := own_ne h.row h.ba (by decide)
  have n2 := own_ne h.row h.bd (by decide)
  have n3 := own_ne h.row h.bv (by decide)
  refine hK g c' w' { h with ba := h.ba.grown hg (fun e => n1 e.symm), bd := h.bd.grown hg (fun e => n2 e.symm), bv := h.bv.grown hg (fun e => n3 e.symm), row := by rw [smpCs_snoc]; exact ho, len := by have := h.len; simp; omega, bel := h.bel.trans hb }
end
theorem sample_take (bs : List UInt8) (hlen : bs.length < 9223372036854775808) (w0 : World) :
    Calls Tryz.prog 125 #[.string (S bs)] w0 (smpTakeR w0 bs) := by
  apply sample_Take.calls
  intro L0 hL
  unfold sample_Take.t0
  refine (num_take bs hlen w0).mono ?_
  rintro e w ⟨rfl, hb⟩
  cases ht : takeGo 0 0 bs with
  | none => exact ⟨_, _, _, rfl, boolT (by decide) ⟨hb, by rw [smpTake, ht]⟩⟩
  | some p =>
    obtain ⟨n, r0⟩ := p
    have hr0 := takeGo_short ht
    refine ⟨_, _, _, rfl, boolF (by decide) ?_⟩
    by_cases hn0 : n = 0
    · exact boolT (by simp [hn0]) ⟨hb, by simp [smpTake, ht, hn0]⟩
    refine boolF (by simpa using hn0) ?_
    by_cases h20 : 20 < n
    · exact boolT (by simp; omega) ⟨hb, by simp [smpTake, ht, h20]⟩
    refine boolF (by simp; omega) ?_
    have hd1 : smpTake bs = match takeGo 0 0 r0 with
      | none => none
      | some (a, r1) => match takeGo 0 0 r1 with
        | none => none
        | some (zb, r2) => match smpTakeGo (n - 1) (IntKind.wrap .i64 a) 0 (unzz zb) [(a, unzz zb)] r2 with
          | none => none
          | some (out, r) => if smpCheck out = 0 then some (out, r) else none := by rw [smpTake, ht]; simp only [if_neg (show ¬ (n = 0 ∨ 20 < n) by omega)]
    -- the loop, from any state, with or without an error
    have loop : ∀ (rest : ByteArray) (err : Int) (oa : Option Addr) (on oc : Nat) (sa sd sv : Nat) (g : List Value) (W : World) (A D V : Int) (out : List (Nat × Int)) (r : List UInt8),
        TakeSt sa sd sv A D V out oa on oc w0 W → 1 ≤ on → on ≤ n → rest = S r → r.length < bs.length → ((err = 0 ∧ (match smpTakeGo (n - on) A D V out r with | none => smpTake bs = none | some (out', r') => smpTake bs = if smpCheck out' = 0 then some (out', r') else none)) ∨ (err = 2 ∧ smpTake bs = none)) →
        L0 (n : Int) rest err oa on oc (sumF sa) (sumF sd) (sumF sv) g W := by
      intro rest err oa on oc sa sd sv g W A D V out r hst h1 hle hrest hrl hres
      refine hL _ _ _ _ _ _ _ _ _ _ _ ?_
      refine ⟨fun m rest err oa on oc w => ∃ A D V out r, TakeSt sa sd sv A D V out oa on oc w0 w ∧ on ≤ n ∧ rest = S r ∧ r.length < bs.length ∧ ((err = 0 ∧ (match smpTakeGo (n - on) A D V out r with | none => smpTake bs = none | some (out', r') => smpTake bs = if smpCheck out' = 0 then some (out', r') else none)) ∨ (err = 2 ∧ smpTake bs = none)) ∧ m = n - on, _,
        ⟨A, D, V, out, r, hst, hle, hrest, hrl, hres, rfl⟩, ?_⟩
      rintro m rest err oa on oc g w ⟨A, D, V, out, r, st, hle, rfl, hrl, hres, rfl⟩ Back hback
      unfold sample_Take.t1
      have hwn : IntKind.wrap .i64 (n : Int) = (n : Int) := wrap_i64 (by omega) (by omega)
      rw [hwn]
      have hlen' := st.len
      have hfail : ∀ {w : World}, smpTake bs = none → Below w0.heap.size w0 w → smpTakeR w0 bs (.returned (.tuple #[.slice none 0 0, .string ⟨#[]⟩, .int .i64 2])) w := fun h hb => ⟨hb, by rw [h]⟩
      rcases hres with ⟨rfl, hgo⟩ | ⟨rfl, hno⟩
      · by_cases hlt : on < n
        · rw [show n - on = (n - (on + 1)) + 1 from by omega, smpTakeGo] at hgo
          refine boolT (by simp; omega) (boolT rfl ((num_takeInt r (by omega) w).mono ?_))
          rintro e w2 ⟨rfl, hb2⟩
          have st2 := st.below hb2
          cases h1 : takeGo 0 0 r with
          | none =>
            rw [h1] at hgo; simp only at hgo
            refine ⟨_, _, _, rfl, boolF (by decide) ?_⟩
            refine funcV_call (by kernel_rfl) ((sample_sums1_ sd D _ _ st2.bd).mono ?_)
            rintro e w3 ⟨rfl, rfl⟩
            have st3 := st2.setD (IntKind.wrap .i64 (D + 0))
            refine ⟨_, rfl, funcV_call (by kernel_rfl) ((sample_sums1_ sa A _ _ st3.ba).mono ?_)⟩
            rintro e w4 ⟨rfl, rfl⟩
            have st4 := st3.setA (IntKind.wrap .i64 (A + IntKind.wrap .i64 (D + 0)))
            refine ⟨_, rfl, funcV_call (by kernel_rfl) ((sample_sums1_ sv V _ _ st4.bv).mono ?_)⟩
            rintro e w5 ⟨rfl, rfl⟩
            have st5 := st4.setV (IntKind.wrap .i64 (V + 0))
            refine ⟨_, rfl, ?_⟩
            rintro b w6 rfl rfl
            obtain ⟨z, hz⟩ : ∃ z : Nat, IntKind.wrap .u64 (IntKind.wrap .i64 (A + IntKind.wrap .i64 (D + 0))) = (z : Int) := ⟨_, (Int.toNat_of_nonneg (by rw [wrap_u64_int]; omega)).symm⟩
            rw [hz]
            refine st5.append (by omega) z _ fun g' c' w' st' => ⟨_, _, _, rfl, hback (n - (on + 1)) _ _ _ _ _ _ _ (by omega) ⟨_, _, _, _, [], st', by omega, rfl, by simp; omega, .inr ⟨rfl, hgo⟩, rfl⟩⟩
          | some p1 =>
            obtain ⟨za, r1⟩ := p1
            have hr1 := takeGo_short h1
            rw [h1] at hgo; simp only at hgo
            refine ⟨_, _, _, rfl, boolT rfl ((num_takeInt r1 (by omega) w2).mono ?_)⟩
            rintro e w7 ⟨rfl, hb7⟩
            have st7 := st2.below hb7
            cases h2 : takeGo 0 0 r1 with
            | none =>
              rw [h2] at hgo; simp only at hgo
              refine ⟨_, _, _, rfl, ?_⟩
              refine funcV_call (by kernel_rfl) ((sample_sums1_ sd D _ _ st7.bd).mono ?_)
              rintro e w3 ⟨rfl, rfl⟩
              have st3 := st7.setD (IntKind.wrap .i64 (D + unzz za))
              refine ⟨_, rfl, funcV_call (by kernel_rfl) ((sample_sums1_ sa A _ _ st3.ba).mono ?_)⟩
              rintro e w4 ⟨rfl, rfl⟩
              have st4 := st3.setA (IntKind.wrap .i64 (A + IntKind.wrap .i64 (D + unzz za)))
              refine ⟨_, rfl, funcV_call (by kernel_rfl) ((sample_sums1_ sv V _ _ st4.bv).mono ?_)⟩
              rintro e w5 ⟨rfl, rfl⟩
              have st5 := st4.setV (IntKind.wrap .i64 (V + 0))
              refine ⟨_, rfl, ?_⟩
              rintro b w6 rfl rfl
              obtain ⟨z, hz⟩ : ∃ z : Nat, IntKind.wrap .u64 (IntKind.wrap .i64 (A + IntKind.wrap .i64 (D + unzz za))) = (z : Int) := ⟨_, (Int.toNat_of_nonneg (by rw [wrap_u64_int]; omega)).symm⟩
              rw [hz]
              refine st5.append (by omega) z _ fun g' c' w' st' => ⟨_, _, _, rfl, hback (n - (on + 1)) _ _ _ _ _ _ _ (by omega) ⟨_, _, _, _, [], st', by omega, rfl, by simp; omega, .inr ⟨rfl, hgo⟩, rfl⟩⟩
            | some p2 =>
              obtain ⟨zb, r2⟩ := p2
              have hr2 := takeGo_short h2
              rw [h2] at hgo; simp only at hgo
              refine ⟨_, _, _, rfl, ?_⟩
              refine funcV_call (by kernel_rfl) ((sample_sums1_ sd D _ _ st7.bd).mono ?_)
              rintro e w3 ⟨rfl, rfl⟩
              have st3 := st7.setD (IntKind.wrap .i64 (D + unzz za))
              refine ⟨_, rfl, funcV_call (by kernel_rfl) ((sample_sums1_ sa A _ _ st3.ba).mono ?_)⟩
              rintro e w4 ⟨rfl, rfl⟩
              have st4 := st3.setA (IntKind.wrap .i64 (A + IntKind.wrap .i64 (D + unzz za)))
              refine ⟨_, rfl, funcV_call (by kernel_rfl) ((sample_sums1_ sv V _ _ st4.bv).mono ?_)⟩
              rintro e w5 ⟨rfl, rfl⟩
              have st5 := st4.setV (IntKind.wrap .i64 (V + unzz zb))
              refine ⟨_, rfl, ?_⟩
              rintro b w6 rfl rfl
              have hz : IntKind.wrap .u64 (IntKind.wrap .i64 (A + IntKind.wrap .i64 (D + unzz za))) = (((IntKind.wrap .u64 (IntKind.wrap .i64 (A + IntKind.wrap .i64 (D + unzz za)))).toNat : Nat) : Int) := (Int.toNat_of_nonneg (by rw [wrap_u64_int]; omega)).symm
              rw [hz]
              refine st5.append (by omega) _ _ fun g' c' w' st' => ⟨_, _, _, rfl, hback (n - (on + 1)) _ _ _ _ _ _ _ (by omega) ⟨_, _, _, _, r2, st', by omega, rfl, by omega, .inl ⟨rfl, hgo⟩, rfl⟩⟩
        · have heq : n - on = 0 := by omega
          rw [heq, smpTakeGo] at hgo
          simp only at hgo
          refine boolF (by simp; omega) (boolF rfl ?_)
          have hck := sample_check out (by omega) oa oc (by have := own_le st.row; omega) w (RowAt.of_own st.row)
          rw [← hlen'] at hck
          refine hck.mono ?_
          rintro e w9 ⟨rfl, hb9⟩
          have st9 := st.below hb9
          refine ⟨_, rfl, ?_⟩
          by_cases hc : smpCheck out = 0
          · rw [if_pos hc] at hgo
            refine boolF (by simp [hc]) ⟨st9.bel, ?_⟩
            rw [hgo]
            refine ⟨hrl, oa, oc, ?_, ?_⟩
            · rw [← hlen']
            · rw [← hlen']; exact st9.row
          · rw [if_neg hc] at hgo
            exact boolT (by simp; omega) (hfail hgo st9.bel)
      · by_cases hlt : on < n
        · exact boolT (by simp; omega) (boolF rfl (boolT rfl (hfail hno st.bel)))
        · exact boolF (by simp; omega) (boolT rfl (hfail hno st.bel))
    refine allocV (cs := [.int .u64 0, .int .i64 0]) ?_
    intro w7 hblk7 hb7 hs7
    have hb7' := hb.trans (hb7.mono hb.size)
    refine (num_take r0 (by omega) w7).mono ?_
    rintro e w9 ⟨rfl, hb9⟩
    have hb9' := hb7'.trans (hb9.mono hb7'.size)
    have hblk9 := hblk7.below hb9 hblk7.lt
    have hsw : w0.heap.size ≤ w.heap.size := hb.size
    have start : ∀ (W : World) (a : Nat) (v : Int) (rest : ByteArray) (err : Int) (r : List UInt8), Blk W w.heap.size 114 [.int .u64 a, .int .i64 v] → Below w0.heap.size w0 W → rest = S r → r.length < bs.length →
        ((err = 0 ∧ (match smpTakeGo (n - 1) (IntKind.wrap .i64 a) 0 v [(a, v)] r with | none => smpTake bs = none | some (out', r') => smpTake bs = if smpCheck out' = 0 then some (out', r') else none)) ∨ (err = 2 ∧ smpTake bs = none)) →
        ∀ (G : Option Addr → Nat → Value → Value → Value → World → List Value), ∃ x20 : Int, ∃ x21 : Int, (W.cell? ⟨w.heap.size, 0, none⟩ = some (.int .u64 x20) ∧ W.cell? ⟨w.heap.size, 1, none⟩ = some (.int .i64 x21)) ∧ True := by
      intro W a v rest err r hblk hbW _ _ _ G
      exact ⟨_, _, ⟨hblk.cell (j := 0) rfl, hblk.cell (j := 1) rfl⟩, trivial⟩
    cases h1 : takeGo 0 0 r0 with
    | none =>
      rw [h1] at hd1; simp only at hd1
      refine ⟨_, _, _, rfl, hblk9.writable (by simp), ?_⟩
      rintro w13 rfl
      have hblk13 := hblk9.set 0 (.int .u64 0)
      have hb13 := hb9'.setCell (p := ⟨w.heap.size, 0, none⟩) hsw (.int .u64 0)
      refine boolF rfl ⟨_, _, ⟨hblk13.cell (j := 0) rfl, hblk13.cell (j := 1) rfl⟩, allocV (cs := [.int .u64 0, .int .i64 0]) ?_⟩
      intro w40 hrow hb40 hs40
      have hb40' := hb13.trans (hb40.mono hb13.size)
      have hblk40 := hblk13.below hb40 hblk13.lt
      refine ⟨fun W => Blk W w.heap.size 114 [.int .u64 0, .int .i64 0], ?_⟩
      intro w42 e1 e2 e3 e4
      have hs42 := same_below (w := w40) (w' := w42) w40.heap.size e1 e2 e3 e4
      have hb42 := hb40'.trans (hs42.mono hb40'.size)
      have hblk42 := hblk40.below hs42 hblk40.lt
      have hrow42 := hrow.below hs42 hrow.lt
      refine ⟨hblk42, _, fun W hW => hW.cell (j := 0) rfl, _, fun W hW => hW.cell (j := 1) rfl, (sample_sums_ _ w42).mono ?_⟩
      rintro e w46 ⟨rfl, hA, h46, s46⟩
      have hb46 := hb42.trans (h46.mono hb42.size)
      refine ⟨_, rfl, hblk42.below h46 hblk42.lt, (sample_sums_ _ w46).mono ?_⟩
      rintro e w49 ⟨rfl, hD, h49, s49⟩
      have hb49 := hb46.trans (h49.mono hb46.size)
      refine ⟨_, rfl, (hblk42.below h46 hblk42.lt).below h49 (by have := hblk42.lt; omega), (sample_sums_ _ w49).mono ?_⟩
      rintro e w52 ⟨rfl, hV, h52, s52⟩
      have hb52 := hb49.trans (h52.mono hb49.size)
      have hrow52 := ((hrow42.below h46 hrow42.lt).below h49 (by have := hrow42.lt; omega)).below h52 (by have := hrow42.lt; omega)
      refine ⟨_, rfl, ((hblk42.below h46 hblk42.lt).below h49 (by have := hblk42.lt; omega)).below h52 (by have := hblk42.lt; omega), ?_⟩
      refine loop _ _ _ _ _ _ _ _ _ _ (IntKind.wrap .i64 0) 0 0 [(0, 0)] [] ⟨(hA.below h49 hA.lt).below h52 (by have := hA.lt; omega), hD.below h52 hD.lt, hV, hb42.size, by omega, by omega, ?_, rfl, hb52⟩ (by decide) (by omega) rfl (by simp; omega) (.inr ⟨rfl, hd1⟩)
      exact hrow52.own (size := 2) (n := 1) (by have := hb13.size; omega) (by decide) rfl
    | some p1 =>
      obtain ⟨a, r1⟩ := p1
      have hr1 := takeGo_short h1
      rw [h1] at hd1; simp only at hd1
      refine ⟨_, _, _, rfl, hblk9.writable (by simp), ?_⟩
      rintro w13 rfl
      have hblk13 := hblk9.set 0 (.int .u64 a)
      have hb13 := hb9'.setCell (p := ⟨w.heap.size, 0, none⟩) hsw (.int .u64 a)
      refine boolT rfl ((num_takeInt r1 (by omega) _).mono ?_)
      rintro e w15 ⟨rfl, hb15⟩
      have hb15' := hb13.trans (hb15.mono hb13.size)
      have hblk15 := hblk13.below hb15 hblk13.lt
      obtain ⟨vv, rest, err, r2, hval, hrest, hrl, hres⟩ : ∃ vv rest err r2, takeIntV (takeGo 0 0 r1) = .tuple #[.int .i64 vv, .string rest, .int .i64 err] ∧ rest = S r2 ∧ r2.length < bs.length ∧
          ((err = 0 ∧ (match smpTakeGo (n - 1) (IntKind.wrap .i64 a) 0 vv [(a, vv)] r2 with | none => smpTake bs = none | some (out', r') => smpTake bs = if smpCheck out' = 0 then some (out', r') else none)) ∨ (err = 2 ∧ smpTake bs = none)) := by
        cases h2 : takeGo 0 0 r1 with
        | none =>
          rw [h2] at hd1; simp only at hd1
          exact ⟨0, ⟨#[]⟩, 2, [], rfl, rfl, by simp; omega, .inr ⟨rfl, hd1⟩⟩
        | some p2 =>
          obtain ⟨zb, r2⟩ := p2
          have hr2 := takeGo_short h2
          rw [h2] at hd1; simp only at hd1
          refine ⟨_, _, _, r2, rfl, rfl, by omega, .inl ⟨rfl, ?_⟩⟩
          cases h3 : smpTakeGo (n - 1) (IntKind.wrap .i64 a) 0 (unzz zb) [(a, unzz zb)] r2 with
          | none => rw [h3] at hd1; exact hd1
          | some p3 => rw [h3] at hd1; exact hd1
      rw [hval]
      refine ⟨_, _, _, rfl, hblk15.writable (o := 1) (by simp), ?_⟩
      rintro w19 rfl
      have hblk19 := hblk15.set 1 (.int .i64 vv)
      have hb19 := hb15'.setCell (p := ⟨w.heap.size, 1, none⟩) hsw (.int .i64 vv)
      refine ⟨_, _, ⟨hblk19.cell (j := 0) rfl, hblk19.cell (j := 1) rfl⟩, allocV (cs := [.int .u64 a, .int .i64 vv]) ?_⟩
      intro w40 hrow hb40 hs40
      have hb40' := hb19.trans (hb40.mono hb19.size)
      have hblk40 := hblk19.below hb40 hblk19.lt
      refine ⟨fun W => Blk W w.heap.size 114 [.int .u64 a, .int .i64 vv], ?_⟩
      intro w42 e1 e2 e3 e4
      have hs42 := same_below (w := w40) (w' := w42) w40.heap.size e1 e2 e3 e4
      have hb42 := hb40'.trans (hs42.mono hb40'.size)
      have hblk42 := hblk40.below hs42 hblk40.lt
      have hrow42 := hrow.below hs42 hrow.lt
      refine ⟨hblk42, _, fun W hW => hW.cell (j := 0) rfl, _, fun W hW => hW.cell (j := 1) rfl, (sample_sums_ _ w42).mono ?_⟩
      rintro e w46 ⟨rfl, hA, h46, s46⟩
      have hb46 := hb42.trans (h46.mono hb42.size)
      refine ⟨_, rfl, hblk42.below h46 hblk42.lt, (sample_sums_ _ w46).mono ?_⟩
      rintro e w49 ⟨rfl, hD, h49, s49⟩
      have hb49 := hb46.trans (h49.mono hb46.size)
      refine ⟨_, rfl, (hblk42.below h46 hblk42.lt).below h49 (by have := hblk42.lt; omega), (sample_sums_ _ w49).mono ?_⟩
      rintro e w52 ⟨rfl, hV, h52, s52⟩
      have hb52 := hb49.trans (h52.mono hb49.size)
      have hrow52 := ((hrow42.below h46 hrow42.lt).below h49 (by have := hrow42.lt; omega)).below h52 (by have := hrow42.lt; omega)
      refine ⟨_, rfl, ((hblk42.below h46 hblk42.lt).below h49 (by have := hblk42.lt; omega)).below h52 (by have := hblk42.lt; omega), ?_⟩
      refine loop _ _ _ _ _ _ _ _ _ _ (IntKind.wrap .i64 a) 0 vv [(a, vv)] r2 ⟨(hA.below h49 hA.lt).below h52 (by have := hA.lt; omega), hD.below h52 hD.lt, hV, hb42.size, by omega, by omega, ?_, rfl, hb52⟩ (by decide) (by omega) hrest hrl hres
      exact hrow52.own (size := 2) (n := 1) (by have := hb19.size; omega) (by decide) rfl
end Go.Proofs.YtcofknlcdgidpaaGreatDoor
/-! ## GentryTake -/
namespace Go.Proofs.YtcofknlcdgidpaaGreatDoor
open Go Go.Proofs.YtcofknlcdgidpaaGreatDoor.VC
set_option linter.unusedVariables false
set_option maxRecDepth 100000
set_option maxHeartbeats 0

/-! ### postroom/entry.Take: function 45 -/
namespace entry_Take
def t1 (R : Ending → World → Prop)  (Back0 : ByteArray → Int → List Value → World → Prop)  (s_0 : ByteArray) (x_2 : Nat) (e_4 : Nat) (x_9a : Option Addr) (x_9b : Nat) (x_9c : Nat) (x_10 : Int) (x_11 : Int) (g : List Value) (w : World) : Prop := boolV (decide (x_11 < x_10)) (someV x_9a (fun p1 => (0 ≤ x_11 ∧ x_11 < (x_9b : Nat)) ∧ (∃ v2 : Value, (w.cell? (p1.add (x_11.toNat * 1)) = some v2) ∧ (∀ (b3 : Nat) (w4 : World), b3 = w.heap.size → w4 = World.alloc w (.cells #[.nilFunc] 173) → monoV v2 (Writable w4 ⟨b3, 0, none⟩ 1 ∧ ∀ w5 : World, w5 = World.setCell w4 ⟨b3, 0, none⟩ v2 → ∃ v6 : Value, w5.cell? ⟨b3, 0, none⟩ = some v6 ∧ (funcV v6 (fun g9 first10 captured11 => goodCall Tryz.prog g9 (Calls Tryz.prog g9 (first10.toList ++ ([.pointer (some ⟨e_4, 0, none⟩), .string s_0] : List Value) ++ captured11.toList).toArray w5 (fun e7 w8 => ∃ s12 : ByteArray, ∃ x13 : Int, e7 = .returned (.tuple #[.string s12, .int .i64 x13]) ∧ (boolV (x13 != (0 : Int)) (Writable w8 ⟨x_2, 0, none⟩ 2 ∧ ∀ w14 : World, w14 = World.setCell (World.setCell w8 ⟨x_2, 0, none⟩ (.slice none 0 0)) ⟨x_2, 1, none⟩ (.slice none 0 0) → ∃ (a15 : Option Addr) (n16 c17 : Nat), ∃ (a18 : Option Addr) (n19 c20 : Nat), (w14.cell? ⟨x_2, 0, none⟩ = some (.slice a15 n16 c17) ∧ w14.cell? ⟨x_2, 1, none⟩ = some (.slice a18 n19 c20)) ∧ (R (.returned (.tuple #[.agg #[.slice a15 n16 c17, .slice a18 n19 c20], .int .i64 2])) w14)) (Back0 s12 (IntKind.wrap .i64 (x_11 + 1)) [nth g 0, nth g 1, nth g 2, .pointer (some ⟨b3, 0, none⟩), .string s12, .int .i64 x13, .bool (decide (x_11 < x_10)), .pointer (some (p1.add (x_11.toNat * 1))), .agg #[v2], .tuple #[.string s12, .int .i64 x13], .pointer (some ⟨b3, 0, none⟩), v6, .string s_0, .tuple #[.string s12, .int .i64 x13], .string s12, .int .i64 x13, .int .i64 x13, .bool (x13 != (0 : Int)), nth g 18, .string s12, .int .i64 (IntKind.wrap .i64 (x_11 + 1)), nth g 21, nth g 22, nth g 23, nth g 24] w8))))))))))) (boolV (!(s_0.toList == (⟨#[]⟩ : ByteArray).toList)) (Writable w ⟨x_2, 0, none⟩ 2 ∧ ∀ w21 : World, w21 = World.setCell (World.setCell w ⟨x_2, 0, none⟩ (.slice none 0 0)) ⟨x_2, 1, none⟩ (.slice none 0 0) → ∃ (a22 : Option Addr) (n23 c24 : Nat), ∃ (a25 : Option Addr) (n26 c27 : Nat), (w21.cell? ⟨x_2, 0, none⟩ = some (.slice a22 n23 c24) ∧ w21.cell? ⟨x_2, 1, none⟩ = some (.slice a25 n26 c27)) ∧ (R (.returned (.tuple #[.agg #[.slice a22 n23 c24, .slice a25 n26 c27], .int .i64 2])) w21)) (∃ (a28 : Option Addr) (n29 c30 : Nat), ∃ (a31 : Option Addr) (n32 c33 : Nat), (w.cell? ⟨e_4, 0, none⟩ = some (.slice a28 n29 c30) ∧ w.cell? ⟨e_4, 1, none⟩ = some (.slice a31 n32 c33)) ∧ (Writable w ⟨x_2, 0, none⟩ 2 ∧ ∀ w34 : World, w34 = World.setCell (World.setCell w ⟨x_2, 0, none⟩ (.slice a28 n29 c30)) ⟨x_2, 1, none⟩ (.slice a31 n32 c33) → ∃ (a35 : Option Addr) (n36 c37 : Nat), ∃ (a38 : Option Addr) (n39 c40 : Nat), (w34.cell? ⟨x_2, 0, none⟩ = some (.slice a35 n36 c37) ∧ w34.cell? ⟨x_2, 1, none⟩ = some (.slice a38 n39 c40)) ∧ (R (.returned (.tuple #[.agg #[.slice a35 n36 c37, .slice a38 n39 c40], .int .i64 0])) w34))))
def W0 (R : Ending → World → Prop)  (s_0 : ByteArray) (x_2 : Nat) (e_4 : Nat) (x_9a : Option Addr) (x_9b : Nat) (x_9c : Nat) (x_10 : Int) (x_11 : Int) (w : World) : Prop := ∃ (I : Nat → ByteArray → Int → World → Prop) (n : Nat), I n s_0 x_11 w ∧ ∀ (n : Nat) (s_0 : ByteArray) (x_11 : Int) (g : List Value) (w : World), I n s_0 x_11 w → ∀ (Back0 : ByteArray → Int → List Value → World → Prop), (∀ (m : Nat) (s_0 : ByteArray) (x_11 : Int) (g : List Value) (w : World), m < n → I m s_0 x_11 w → Back0 s_0 x_11 g w) → t1 R  Back0  s_0 x_2 e_4 x_9a x_9b x_9c x_10 x_11 g w
def t0 (R : Ending → World → Prop) (L0 : ByteArray → Nat → Nat → (Option Addr) → Nat → Nat → Int → Int → List Value → World → Prop) (s_0 : ByteArray) (w : World) : Prop := ∀ (b1 : Nat) (w2 : World), b1 = w.heap.size → w2 = World.alloc w (.cells #[.slice none 0 0, .slice none 0 0] 53) → ∀ (b3 : Nat) (w4 : World), b3 = w2.heap.size → w4 = World.alloc w2 (.cells #[.slice none 0 0, .slice none 0 0] 53) → Calls Tryz.prog 84 #[] w4 (fun e5 w6 => ∃ (a7 : Option Addr) (n8 c9 : Nat), e5 = .returned (.slice a7 n8 c9) ∧ (L0 s_0 b1 b3 a7 n8 c9 ((n8 : Nat) : Int) 0 [undef, .int .i64 0, undef, undef, undef, undef, undef, undef, undef, undef, undef, undef, undef, undef, undef, undef, undef, undef, undef, undef, undef, undef, undef, undef, undef] w6))
def vc (R : Ending → World → Prop) (s_0 : ByteArray) (w : World) : Prop := ∀ (L0 : ByteArray → Nat → Nat → (Option Addr) → Nat → Nat → Int → Int → List Value → World → Prop), (∀ s_0 x_2 e_4 x_9a x_9b x_9c x_10 x_11 g w, W0 R s_0 x_2 e_4 x_9a x_9b x_9c x_10 x_11 w → L0 s_0 x_2 e_4 x_9a x_9b x_9c x_10 x_11 g w) → t0 R L0 s_0 w
theorem at0 (R : Ending → World → Prop) (s_0 : ByteArray) (x_2 : Nat) (e_4 : Nat) (x_9a : Option Addr) (x_9b : Nat) (x_9c : Nat) (x_10 : Int) (x_11 : Int) (g : List Value) (w : World) (h : W0 R  s_0 x_2 e_4 x_9a x_9b x_9c x_10 x_11 w) : atV Tryz.prog (bodyC Tryz.f45) [true, true, false, true, false] (retQ Tryz.prog Tryz.f45 R) [.string s_0, nth g 0, .pointer (some ⟨x_2, 0, none⟩), nth g 1, .pointer (some ⟨e_4, 0, none⟩), nth g 2, nth g 3, nth g 4, nth g 5, .slice x_9a x_9b x_9c, .int .i64 x_10, .int .i64 x_11, nth g 6, nth g 7, nth g 8, nth g 9, nth g 10, nth g 11, nth g 12, nth g 13, nth g 14, nth g 15, nth g 16, nth g 17, nth g 18, nth g 19, nth g 20, nth g 21, nth g 22, nth g 23, nth g 24] w := by
  obtain ⟨I, n0, h0, hs⟩ := h
  refine atV_loop (by kernel_rfl) (fun n s w => ∃ (s_0 : ByteArray) (x_11 : Int) (g : List Value), s = [.string s_0, nth g 0, .pointer (some ⟨x_2, 0, none⟩), nth g 1, .pointer (some ⟨e_4, 0, none⟩), nth g 2, nth g 3, nth g 4, nth g 5, .slice x_9a x_9b x_9c, .int .i64 x_10, .int .i64 x_11, nth g 6, nth g 7, nth g 8, nth g 9, nth g 10, nth g 11, nth g 12, nth g 13, nth g 14, nth g 15, nth g 16, nth g 17, nth g 18, nth g 19, nth g 20, nth g 21, nth g 22, nth g 23, nth g 24] ∧ I n s_0 x_11 w) n0 ⟨_, _, _, rfl, h0⟩ ?_
  rintro n s w ⟨s_0, x_11, g, rfl, hI⟩
  exact Eq.mpr (by kernel_rfl) (hs n s_0 x_11 g w hI (fun s_0 x_11 g w => (backQ (fun n s w => ∃ (s_0 : ByteArray) (x_11 : Int) (g : List Value), s = [.string s_0, nth g 0, .pointer (some ⟨x_2, 0, none⟩), nth g 1, .pointer (some ⟨e_4, 0, none⟩), nth g 2, nth g 3, nth g 4, nth g 5, .slice x_9a x_9b x_9c, .int .i64 x_10, .int .i64 x_11, nth g 6, nth g 7, nth g 8, nth g 9, nth g 10, nth g 11, nth g 12, nth g 13, nth g 14, nth g 15, nth g 16, nth g 17, nth g 18, nth g 19, nth g 20, nth g 21, nth g 22, nth g 23, nth g 24] ∧ I n s_0 x_11 w) n (ctxQ Tryz.prog (bodyC Tryz.f45) [true, true, false, true, false] (retQ Tryz.prog Tryz.f45 R))) .normal [.string s_0, nth g 0, .pointer (some ⟨x_2, 0, none⟩), nth g 1, .pointer (some ⟨e_4, 0, none⟩), nth g 2, nth g 3, nth g 4, nth g 5, .slice x_9a x_9b x_9c, .int .i64 x_10, .int .i64 x_11, nth g 6, nth g 7, nth g 8, nth g 9, nth g 10, nth g 11, nth g 12, nth g 13, nth g 14, nth g 15, nth g 16, nth g 17, nth g 18, nth g 19, nth g 20, nth g 21, nth g 22, nth g 23, nth g 24] w) (fun m s_0 x_11 g w hm hI => ⟨m, hm, s_0, x_11, g, rfl, hI⟩))
theorem calls (R : Ending → World → Prop) (s_0 : ByteArray) (w : World) (h : vc R s_0 w) : Calls Tryz.prog 45 #[.string s_0] w R :=
  calls_V Tryz.func45 (Eq.mpr (by kernel_rfl) (h (fun s_0 x_2 e_4 x_9a x_9b x_9c x_10 x_11 g w => atV Tryz.prog (bodyC Tryz.f45) [true, true, false, true, false] (retQ Tryz.prog Tryz.f45 R) [.string s_0, nth g 0, .pointer (some ⟨x_2, 0, none⟩), nth g 1, .pointer (some ⟨e_4, 0, none⟩), nth g 2, nth g 3, nth g 4, nth g 5, .slice x_9a x_9b x_9c, .int .i64 x_10, .int .i64 x_11, nth g 6, nth g 7, nth g 8, nth g 9, nth g 10, nth g 11, nth g 12, nth g 13, nth g 14, nth g 15, nth g 16, nth g 17, nth g 18, nth g 19, nth g 20, nth g 21, nth g 22, nth g 23, nth g 24] w) (fun s_0 x_2 e_4 x_9a x_9b x_9c x_10 x_11 g w h => at0 R s_0 x_2 e_4 x_9a x_9b x_9c x_10 x_11 g w h)))
end entry_Take
end Go.Proofs.YtcofknlcdgidpaaGreatDoor
/-! ## Gentryparts -/
namespace Go.Proofs.YtcofknlcdgidpaaGreatDoor
open Go Go.Proofs.YtcofknlcdgidpaaGreatDoor.VC
set_option linter.unusedVariables false
set_option maxRecDepth 100000
set_option maxHeartbeats 0

/-! ### postroom/entry.parts: function 84 -/
namespace entry_parts
def t0 (R : Ending → World → Prop)   (w : World) : Prop := ∀ (b1 : Nat) (w2 : World), b1 = w.heap.size → w2 = World.alloc w (.cells #[.func (.func 122) #[] #[], .func (.func 124) #[] #[]] 173) → R (.returned (.slice (some ⟨b1, 0, none⟩) 2 2)) w2
def vc (R : Ending → World → Prop)  (w : World) : Prop := t0 R   w
theorem calls (R : Ending → World → Prop)  (w : World) (h : vc R  w) : Calls Tryz.prog 84 #[] w R :=
  calls_V Tryz.func84 (Eq.mpr (by kernel_rfl) (h))
end entry_parts
end Go.Proofs.YtcofknlcdgidpaaGreatDoor
/-! ## Gentryparts1 -/
namespace Go.Proofs.YtcofknlcdgidpaaGreatDoor
open Go Go.Proofs.YtcofknlcdgidpaaGreatDoor.VC
set_option linter.unusedVariables false
set_option maxRecDepth 100000
set_option maxHeartbeats 0

/-! ### postroom/entry.parts$1: function 122 -/
namespace entry_parts_1
def t0 (R : Ending → World → Prop)  (e_0 : Option Addr) (s_1 : ByteArray) (w : World) : Prop := Calls Tryz.prog 123 #[.string s_1] w (fun e1 w2 => ∃ (a3 : Option Addr) (n4 c5 : Nat), ∃ s6 : ByteArray, ∃ x7 : Int, e1 = .returned (.tuple #[.slice a3 n4 c5, .string s6, .int .i64 x7]) ∧ (someV e_0 (fun p8 => Writable w2 p8 1 ∧ ∀ w9 : World, w9 = World.setCell w2 p8 (.slice a3 n4 c5) → R (.returned (.tuple #[.string s6, .int .i64 x7])) w9)))
def vc (R : Ending → World → Prop) (e_0 : Option Addr) (s_1 : ByteArray) (w : World) : Prop := t0 R  e_0 s_1 w
theorem calls (R : Ending → World → Prop) (e_0 : Option Addr) (s_1 : ByteArray) (w : World) (h : vc R e_0 s_1 w) : Calls Tryz.prog 122 #[.pointer e_0, .string s_1] w R :=
  calls_V Tryz.func122 (Eq.mpr (by kernel_rfl) (h))
end entry_parts_1
end Go.Proofs.YtcofknlcdgidpaaGreatDoor
/-! ## Gentryparts2 -/
namespace Go.Proofs.YtcofknlcdgidpaaGreatDoor
open Go Go.Proofs.YtcofknlcdgidpaaGreatDoor.VC
set_option linter.unusedVariables false
set_option maxRecDepth 100000
set_option maxHeartbeats 0

/-! ### postroom/entry.parts$2: function 124 -/
namespace entry_parts_2
def t0 (R : Ending → World → Prop)  (e_0 : Option Addr) (s_1 : ByteArray) (w : World) : Prop := Calls Tryz.prog 125 #[.string s_1] w (fun e1 w2 => ∃ (a3 : Option Addr) (n4 c5 : Nat), ∃ s6 : ByteArray, ∃ x7 : Int, e1 = .returned (.tuple #[.slice a3 n4 c5, .string s6, .int .i64 x7]) ∧ (someV e_0 (fun p8 => Writable w2 (p8.add 1) 1 ∧ ∀ w9 : World, w9 = World.setCell w2 (p8.add 1) (.slice a3 n4 c5) → R (.returned (.tuple #[.string s6, .int .i64 x7])) w9)))
def vc (R : Ending → World → Prop) (e_0 : Option Addr) (s_1 : ByteArray) (w : World) : Prop := t0 R  e_0 s_1 w
theorem calls (R : Ending → World → Prop) (e_0 : Option Addr) (s_1 : ByteArray) (w : World) (h : vc R e_0 s_1 w) : Calls Tryz.prog 124 #[.pointer e_0, .string s_1] w R :=
  calls_V Tryz.func124 (Eq.mpr (by kernel_rfl) (h))
end entry_parts_2
end Go.Proofs.YtcofknlcdgidpaaGreatDoor
/-! ## Ent -/
namespace Go.Proofs.YtcofknlcdgidpaaGreatDoor
open Go Go.RowKit Go.Proofs.YtcofknlcdgidpaaGreatDoor.VC
set_option linter.unusedVariables false
set_option maxRecDepth 100000

/-- An entry off bytes. -/
def entTake (bs : List UInt8) : Option Ent := match labTake bs with
  | none => none
  | some (ls, r) => match smpTake r with
    | none => none
    | some (ss, r2) => if r2 = [] then some ⟨ls, ss⟩ else none
def entTakeR (w0 : World) (bs : List UInt8) (e : Ending) (w : World) : Prop := Below w0.heap.size w0 w ∧ match entTake bs with
  | none => e = .returned (.tuple #[.agg #[.slice none 0 0, .slice none 0 0], .int .i64 2])
  | some x => ∃ a c b d, e = .returned (.tuple #[.agg #[.slice a x.labels.length c, .slice b x.samples.length d], .int .i64 0]) ∧ EntAt w x a x.labels.length c b x.samples.length d
theorem labTakeGo_len : ∀ (k : Nat) (out : List (Txt × Txt)) (r : List UInt8) (out' : List (Txt × Txt)) (r' : List UInt8), labTakeGo k out r = some (out', r') → out'.length = out.length + k
  | 0, out, r, out', r', h => by simp only [labTakeGo, Option.some.injEq, Prod.mk.injEq] at h; obtain ⟨rfl, rfl⟩ := h; rfl
  | k + 1, out, r, out', r', h => by
    rw [labTakeGo] at h
    split at h
    · cases h
    · split at h
      · cases h
      · split at h
        · split at h
          · have := labTakeGo_len k _ _ _ _ h; simp at this; omega
          · cases h
        · have := labTakeGo_len k _ _ _ _ h; simp at this; omega
theorem labTake_len {bs r : List UInt8} {out : List (Txt × Txt)} (h : labTake bs = some (out, r)) : out.length ≤ 8 := by
  unfold labTake at h
  split at h
  · cases h
  · split at h
    · cases h
    · split at h
      · cases h
      · rename_i h3
        split at h
        · cases h
          have := labTakeGo_len _ _ _ _ _ h3
          simp at this; omega
        · cases h
theorem smpTake_len {bs r : List UInt8} {out : List (Nat × Int)} (h : smpTake bs = some (out, r)) : out.length ≤ 20 := by
  unfold smpTake at h
  split at h
  · cases h
  · split at h
    · cases h
    · split at h
      · cases h
      · split at h
        · cases h
        · split at h
          · cases h
          · rename_i h3
            split at h
            · cases h
              have := (smpTakeGo_len _ _ _ _ _ _ _ _ h3).1
              simp at this; omega
            · cases h
theorem entry_parts_ (w0 : World) : Calls Tryz.prog 84 #[] w0 (fun e w => e = .returned (.slice (some ⟨w0.heap.size, 0, none⟩) 2 2) ∧ Blk w w0.heap.size 173 [.func (.func 122) #[] #[], .func (.func 124) #[] #[]] ∧ Below w0.heap.size w0 w) := by
  apply entry_parts.calls
  unfold entry_parts.vc entry_parts.t0
  exact allocV (cs := [.func (.func 122) #[] #[], .func (.func 124) #[] #[]]) fun w6 hblk hb hs => ⟨rfl, hblk, hb⟩

theorem entry_part1 (bs : List UInt8) (hlen : bs.length < 9223372036854775808) (b : Nat) (u v : Value) (w0 : World) (hb : Blk w0 b 53 [u, v]) :
    Calls Tryz.prog 122 #[.pointer (some ⟨b, 0, none⟩), .string (S bs)] w0 (fun e w => ∃ w1, Below w0.heap.size w0 w1 ∧ match labTake bs with
      | none => e = .returned (.tuple #[.string ⟨#[]⟩, .int .i64 2]) ∧ w = w1.setCell ⟨b, 0, none⟩ (.slice none 0 0)
      | some (out, r) => r.length < bs.length ∧ (∀ p ∈ out, p.1.length ≤ 20) ∧ ∃ a c, e = .returned (.tuple #[.string (S r), .int .i64 0]) ∧ w1.ownsRow w0.heap.size 112 2 (.slice a out.length c) out.length (pairCs out) ∧ w = w1.setCell ⟨b, 0, none⟩ (.slice a out.length c)) := by
  apply entry_parts_1.calls
  unfold entry_parts_1.vc entry_parts_1.t0
  refine (label_take bs hlen w0).mono ?_
  rintro e w1 ⟨hb1, h⟩
  have hw := (hb.below hb1 hb.lt).writable (o := 0) (n := 1) (by simp)
  cases ht : labTake bs with
  | none =>
    rw [ht] at h; simp only at h; subst h
    refine ⟨_, _, _, _, _, rfl, someV_some rfl ⟨hw, ?_⟩⟩
    rintro w9 rfl
    exact ⟨w1, hb1, rfl, rfl⟩
  | some p =>
    obtain ⟨out, r⟩ := p
    rw [ht] at h; simp only at h
    obtain ⟨hr, hn, a, c, rfl, ho⟩ := h
    refine ⟨_, _, _, _, _, rfl, someV_some rfl ⟨hw, ?_⟩⟩
    rintro w9 rfl
    exact ⟨w1, hb1, hr, hn, a, c, rfl, ho, rfl⟩
theorem entry_part2 (bs : List UInt8) (hlen : bs.length < 9223372036854775808) (b : Nat) (u v : Value) (w0 : World) (hb : Blk w0 b 53 [u, v]) :
    Calls Tryz.prog 124 #[.pointer (some ⟨b, 0, none⟩), .string (S bs)] w0 (fun e w => ∃ w1, Below w0.heap.size w0 w1 ∧ match smpTake bs with
      | none => e = .returned (.tuple #[.string ⟨#[]⟩, .int .i64 2]) ∧ w = w1.setCell ⟨b, 1, none⟩ (.slice none 0 0)
      | some (out, r) => r.length < bs.length ∧ ∃ a c, e = .returned (.tuple #[.string (S r), .int .i64 0]) ∧ w1.ownsRow w0.heap.size 114 2 (.slice a out.length c) out.length (smpCs out) ∧ w = w1.setCell ⟨b, 1, none⟩ (.slice a out.length c)) := by
  apply entry_parts_2.calls
  unfold entry_parts_2.vc entry_parts_2.t0
  refine (sample_take bs hlen w0).mono ?_
  rintro e w1 ⟨hb1, h⟩
  have hw := (hb.below hb1 hb.lt).writable (o := 1) (n := 1) (by simp)
  cases ht : smpTake bs with
  | none =>
    rw [ht] at h; simp only at h; subst h
    refine ⟨_, _, _, _, _, rfl, someV_some rfl ⟨hw, ?_⟩⟩
    rintro w9 rfl
    exact ⟨w1, hb1, rfl, rfl⟩
  | some p =>
    obtain ⟨out, r⟩ := p
    rw [ht] at h; simp only at h
    obtain ⟨hr, a, c, rfl, ho⟩ := h
    refine ⟨_, _, _, _, _, rfl, someV_some rfl ⟨hw, ?_⟩⟩
    rintro w9 rfl
    exact ⟨w1, hb1, hr, a, c, rfl, ho, rfl⟩
theorem entry_take (bs : List UInt8) (hlen : bs.length < 9223372036854775808) (w0 : World) :
    Calls Tryz.prog 45 #[.string (S bs)] w0 (entTakeR w0 bs) := by
  apply entry_Take.calls
  intro L0 hL
  unfold entry_Take.t0
  refine allocV (cs := [.slice none 0 0, .slice none 0 0]) ?_
  intro w2 hX2 hb2 hs2
  refine allocV (cs := [.slice none 0 0, .slice none 0 0]) ?_
  intro w4 hE4 hb4 hs4
  have hX4 := hX2.below hb4 (by omega)
  have hb4' := hb2.trans (hb4.mono hb2.size)
  refine (entry_parts_ w4).mono ?_
  rintro e w6 ⟨rfl, hP, hb6⟩
  have hX6 := hX4.below hb6 (by omega)
  have hE6 := hE4.below hb6 (by omega)
  have hb6' := hb4'.trans (hb6.mono hb4'.size)
  refine ⟨_, _, _, rfl, hL _ _ _ _ _ _ _ _ _ _ ?_⟩
  refine ⟨fun m s x w => ∃ i r, x = ((i : Nat) : Int) ∧ m = 2 - i ∧ s = S r ∧ r.length < 9223372036854775808 ∧ Blk w w4.heap.size 173 [.func (.func 122) #[] #[], .func (.func 124) #[] #[]] ∧ Blk w w0.heap.size 53 [.slice none 0 0, .slice none 0 0] ∧ Below w0.heap.size w0 w ∧
      ((i = 0 ∧ r = bs ∧ Blk w w2.heap.size 53 [.slice none 0 0, .slice none 0 0]) ∨ ∃ ls r1 a c, labTake bs = some (ls, r1) ∧ (∀ p ∈ ls, p.1.length ≤ 20) ∧ w.ownsRow w0.heap.size 112 2 (.slice a ls.length c) ls.length (pairCs ls) ∧
        ((i = 1 ∧ r = r1 ∧ Blk w w2.heap.size 53 [.slice a ls.length c, .slice none 0 0]) ∨ ∃ ss b d, i = 2 ∧ smpTake r1 = some (ss, r) ∧ w.ownsRow w0.heap.size 114 2 (.slice b ss.length d) ss.length (smpCs ss) ∧ Blk w w2.heap.size 53 [.slice a ls.length c, .slice b ss.length d])), _,
    ⟨0, bs, rfl, rfl, rfl, hlen, hP, hX6, hb6', .inl ⟨rfl, rfl, hE6⟩⟩, ?_⟩
  rintro m s x g w ⟨i, r, rfl, rfl, rfl, hrl, hP, hX, hbel, hst⟩ Back hback
  unfold entry_Take.t1
  -- what a failure comes to
  have hfail : ∀ W : World, Blk W w0.heap.size 53 [.slice none 0 0, .slice none 0 0] → Below w0.heap.size w0 W → entTake bs = none → (Writable W ⟨w0.heap.size, 0, none⟩ 2 ∧ ∀ w14 : World, w14 = World.setCell (World.setCell W ⟨w0.heap.size, 0, none⟩ (.slice none 0 0)) ⟨w0.heap.size, 1, none⟩ (.slice none 0 0) → ∃ (a15 : Option Addr) (n16 c17 : Nat), ∃ (a18 : Option Addr) (n19 c20 : Nat), (w14.cell? ⟨w0.heap.size, 0, none⟩ = some (.slice a15 n16 c17) ∧ w14.cell? ⟨w0.heap.size, 1, none⟩ = some (.slice a18 n19 c20)) ∧ (entTakeR w0 bs (.returned (.tuple #[.agg #[.slice a15 n16 c17, .slice a18 n19 c20], .int .i64 2])) w14)) := by
    intro W hXW hbW hno
    refine ⟨hXW.writable (Nat.le_refl 2), ?_⟩
    rintro w14 rfl
    have h14 := (hXW.set 0 (.slice none 0 0)).set 1 (.slice none 0 0)
    refine ⟨_, _, _, _, _, _, ⟨h14.cell (j := 0) rfl, h14.cell (j := 1) rfl⟩, (hbW.setCell (p := ⟨w0.heap.size, 0, none⟩) (Nat.le_refl _) _).setCell (p := ⟨w0.heap.size, 1, none⟩) (Nat.le_refl _) _, ?_⟩
    rw [hno]
  by_cases hlt : i < 2
  · refine boolT (by simp; omega) (someV_some rfl ⟨⟨by omega, by omega⟩, ?_⟩)
    rw [Nat.mul_one, addr_add0]
    rcases hst with ⟨rfl, rfl, hE⟩ | ⟨ls, r1, a, c, hls, hn, hown, hst⟩
    · -- the labels
      refine ⟨_, hP.cell (j := 0) rfl, ?_⟩
      rintro b3 w4' rfl rfl
      have hblk := Blk.new w 173 [.nilFunc]
      have hb5 := hbel.alloc hbel.size (.cells #[.nilFunc] 173)
      show Writable _ _ 1 ∧ _
      refine ⟨hblk.writable (Nat.le_refl 1), ?_⟩
      rintro w5 rfl
      have hblk5 := hblk.set 0 (.func (.func 122) #[] #[])
      have hb5' := hb5.setCell (p := ⟨w.heap.size, 0, none⟩) hbel.size (.func (.func 122) #[] #[])
      have k1 := hX.lt
      have k2 := hE.lt
      have k3 := hP.lt
      have hX5 := (hX.alloc (.cells #[.nilFunc] 173)).other (p := ⟨w.heap.size, 0, none⟩) (by simp; omega) (.func (.func 122) #[] #[])
      have hE5 := (hE.alloc (.cells #[.nilFunc] 173)).other (p := ⟨w.heap.size, 0, none⟩) (by simp; omega) (.func (.func 122) #[] #[])
      have hP5 := (hP.alloc (.cells #[.nilFunc] 173)).other (p := ⟨w.heap.size, 0, none⟩) (by simp; omega) (.func (.func 122) #[] #[])
      refine ⟨_, hblk5.cell (j := 0) rfl, funcV_call (by kernel_rfl) ((entry_part1 r hrl w2.heap.size _ _ _ hE5).mono ?_)⟩
      rintro e w8 ⟨w7, hb7, h⟩
      have hb7' := hb5'.trans (hb7.mono hb5'.size)
      cases hls : labTake r with
      | none =>
        rw [hls] at h; simp only at h
        obtain ⟨rfl, rfl⟩ := h
        refine ⟨_, _, rfl, boolT rfl ?_⟩
        exact hfail _ ((hX5.below hb7 hX5.lt).other (by simp; omega) _) (hb7'.setCell (by simp; omega) _) (by rw [entTake, hls])
      | some p =>
        obtain ⟨ls, r1⟩ := p
        rw [hls] at h; simp only at h
        obtain ⟨hr, hn, a, c, rfl, ho, rfl⟩ := h
        refine ⟨_, _, rfl, boolF rfl (hback 1 _ _ _ _ (by omega) ⟨1, r1, ?_, rfl, rfl, by omega, (hP5.below hb7 hP5.lt).other (by simp; omega) _, (hX5.below hb7 hX5.lt).other (by simp; omega) _, hb7'.setCell (by simp; omega) _, .inr ⟨ls, r1, a, c, hls, hn, ?_, .inl ⟨rfl, rfl, (hE5.below hb7 hE5.lt).set 0 _⟩⟩⟩)⟩
        · rw [wrap_i64 (by omega) (by omega)]; rfl
        · exact own_mono (own_set ho (hE5.below hb7 hE5.lt) (by decide) 0 _) hb5'.size
    · obtain ⟨rfl, rfl, hE⟩ : i = 1 ∧ r = r1 ∧ Blk w w2.heap.size 53 [.slice a ls.length c, .slice none 0 0] := by
        rcases hst with h | ⟨ss, b, d, rfl, _⟩
        · exact h
        · omega
      -- the samples
      refine ⟨_, hP.cell (j := 1) rfl, ?_⟩
      rintro b3 w4' rfl rfl
      have hblk := Blk.new w 173 [.nilFunc]
      have hb5 := hbel.alloc hbel.size (.cells #[.nilFunc] 173)
      show Writable _ _ 1 ∧ _
      refine ⟨hblk.writable (Nat.le_refl 1), ?_⟩
      rintro w5 rfl
      have hblk5 := hblk.set 0 (.func (.func 124) #[] #[])
      have hb5' := hb5.setCell (p := ⟨w.heap.size, 0, none⟩) hbel.size (.func (.func 124) #[] #[])
      have k1 := hX.lt
      have k2 := hE.lt
      have k3 := hP.lt
      have hX5 := (hX.alloc (.cells #[.nilFunc] 173)).other (p := ⟨w.heap.size, 0, none⟩) (by simp; omega) (.func (.func 124) #[] #[])
      have hE5 := (hE.alloc (.cells #[.nilFunc] 173)).other (p := ⟨w.heap.size, 0, none⟩) (by simp; omega) (.func (.func 124) #[] #[])
      have hP5 := (hP.alloc (.cells #[.nilFunc] 173)).other (p := ⟨w.heap.size, 0, none⟩) (by simp; omega) (.func (.func 124) #[] #[])
      have hO5 := own_set (hown.alloc (.cells #[.nilFunc] 173)) hblk (by decide) 0 (.func (.func 124) #[] #[])
      refine ⟨_, hblk5.cell (j := 0) rfl, funcV_call (by kernel_rfl) ((entry_part2 r hrl w2.heap.size _ _ _ hE5).mono ?_)⟩
      rintro e w8 ⟨w7, hb7, h⟩
      have hb7' := hb5'.trans (hb7.mono hb5'.size)
      cases hss : smpTake r with
      | none =>
        rw [hss] at h; simp only at h
        obtain ⟨rfl, rfl⟩ := h
        refine ⟨_, _, rfl, boolT rfl ?_⟩
        exact hfail _ ((hX5.below hb7 hX5.lt).other (by simp; omega) _) (hb7'.setCell (by simp; omega) _) (by rw [entTake, hls]; simp only; rw [hss])
      | some p =>
        obtain ⟨ss, r2⟩ := p
        rw [hss] at h; simp only at h
        obtain ⟨hr, b, d, rfl, ho, rfl⟩ := h
        have hE7 := hE5.below hb7 hE5.lt
        refine ⟨_, _, rfl, boolF rfl (hback 0 _ _ _ _ (by omega) ⟨2, r2, ?_, rfl, rfl, by omega, (hP5.below hb7 hP5.lt).other (by simp; omega) _, (hX5.below hb7 hX5.lt).other (by simp; omega) _, hb7'.setCell (by simp; omega) _, .inr ⟨ls, r, a, c, hls, hn, ?_, .inr ⟨ss, b, d, rfl, hss, ?_, hE7.set 1 _⟩⟩⟩)⟩
        · rw [wrap_i64 (by omega) (by omega)]; rfl
        · exact own_set (own_below hO5 hb7) hE7 (by decide) 1 _
        · exact own_mono (own_set ho hE7 (by decide) 1 _) hb5'.size
  · rcases hst with ⟨rfl, _⟩ | ⟨ls, r1, a, c, hls, hn, hown, hst⟩
    · omega
    rcases hst with ⟨rfl, _⟩ | ⟨ss, b, d, rfl, hss, hows, hE⟩
    · omega
    refine boolF (by simp) ?_
    rw [S_toList, nil_toList]
    have hd : entTake bs = if r = [] then some ⟨ls, ss⟩ else none := by rw [entTake, hls]; simp only; rw [hss]
    by_cases hr : r = []
    · rw [if_pos hr] at hd
      refine boolF (by subst hr; rfl) ⟨_, _, _, _, _, _, ⟨hE.cell (j := 0) rfl, hE.cell (j := 1) rfl⟩, hX.writable (Nat.le_refl 2), ?_⟩
      rintro w34 rfl
      have h34 := (hX.set 0 (.slice a ls.length c)).set 1 (.slice b ss.length d)
      refine ⟨_, _, _, _, _, _, ⟨h34.cell (j := 0) rfl, h34.cell (j := 1) rfl⟩, (hbel.setCell (p := ⟨w0.heap.size, 0, none⟩) (Nat.le_refl _) _).setCell (p := ⟨w0.heap.size, 1, none⟩) (Nat.le_refl _) _, ?_⟩
      rw [hd]
      have l8 := labTake_len hls
      have l20 := smpTake_len hss
      refine ⟨a, c, b, d, rfl, ⟨rfl, own_le hown, by show ls.length < _; omega, fun p hp => by have := hn p hp; omega, RowAt.of_own (own_set (own_set hown hX (by decide) 0 _) (hX.set 0 (.slice a ls.length c)) (by decide) 1 _), rfl, own_le hows, by show ss.length < _; omega, RowAt.of_own (own_set (own_set hows hX (by decide) 0 _) (hX.set 0 (.slice a ls.length c)) (by decide) 1 _)⟩⟩
    · rw [if_neg hr] at hd
      refine boolT (by cases r with | nil => exact absurd rfl hr | cons x r => rfl) (hfail w hX hbel hd)
end Go.Proofs.YtcofknlcdgidpaaGreatDoor
/-! ## GcrcAdd -/
namespace Go.Proofs.YtcofknlcdgidpaaGreatDoor
open Go Go.Proofs.YtcofknlcdgidpaaGreatDoor.VC
set_option linter.unusedVariables false
set_option maxRecDepth 100000
set_option maxHeartbeats 0

/-! ### postroom/crc.Add: function 214 -/
namespace crc_Add
def t2 (R : Ending → World → Prop) (Back0 : Int → Int → List Value → World → Prop) (Back1 : Int → Int → List Value → World → Prop)  (s_1 : ByteArray) (r_5 : Int) (x_10 : Int) (x_11 : Int) (x_20 : Int) (g : List Value) (w : World) : Prop := boolV (decide (x_20 < (2 : Int))) ((0 ≤ (Go.bits .and .u32 r_5 15) ∧ (Go.bits .and .u32 r_5 15) < (16 : Nat)) ∧ (∃ x1 : Int, w.cell? ((⟨1, 0, none⟩ : Addr).add ((Go.bits .and .u32 r_5 15).toNat * 1)) = some (.int .u32 x1) ∧ (Back1 (Go.bits .xor .u32 (shrI .u32 r_5 4) x1) (IntKind.wrap .i64 (x_20 + 1)) [nth g 0, nth g 1, nth g 2, nth g 3, nth g 4, nth g 5, nth g 6, nth g 7, nth g 8, nth g 9, nth g 10, nth g 11, nth g 12, nth g 13, nth g 14, nth g 15, .bool (decide (x_20 < (2 : Int))), .int .u32 r_5, .int .u32 (shrI .u32 r_5 4), .int .u32 r_5, .int .u32 (Go.bits .and .u32 r_5 15), .pointer (some ((⟨1, 0, none⟩ : Addr).add ((Go.bits .and .u32 r_5 15).toNat * 1))), .int .u32 x1, .int .u32 (Go.bits .xor .u32 (shrI .u32 r_5 4) x1), .int .i64 (IntKind.wrap .i64 (x_20 + 1)), nth g 25, nth g 26, nth g 27] w))) (Back0 r_5 (IntKind.wrap .i64 (x_11 + 1)) [nth g 0, nth g 1, nth g 2, nth g 3, nth g 4, nth g 5, nth g 6, nth g 7, nth g 8, nth g 9, nth g 10, nth g 11, nth g 12, nth g 13, nth g 14, nth g 15, .int .i64 x_20, .bool (decide (x_20 < (2 : Int))), nth g 17, nth g 18, nth g 19, nth g 20, nth g 21, nth g 22, nth g 23, nth g 24, .int .i64 (IntKind.wrap .i64 (x_11 + 1)), nth g 26, nth g 27] w)
def W1 (R : Ending → World → Prop) (Back0 : Int → Int → List Value → World → Prop) (s_1 : ByteArray) (r_5 : Int) (x_10 : Int) (x_11 : Int) (x_20 : Int) (w : World) : Prop := ∃ (I : Nat → Int → Int → World → Prop) (n : Nat), I n r_5 x_20 w ∧ ∀ (n : Nat) (r_5 : Int) (x_20 : Int) (g : List Value) (w : World), I n r_5 x_20 w → ∀ (Back1 : Int → Int → List Value → World → Prop), (∀ (m : Nat) (r_5 : Int) (x_20 : Int) (g : List Value) (w : World), m < n → I m r_5 x_20 w → Back1 r_5 x_20 g w) → t2 R Back0 Back1  s_1 r_5 x_10 x_11 x_20 g w
def t1 (R : Ending → World → Prop)  (Back0 : Int → Int → List Value → World → Prop) (L1 : Int → Int → Int → List Value → World → Prop) (s_1 : ByteArray) (r_5 : Int) (x_10 : Int) (x_11 : Int) (g : List Value) (w : World) : Prop := boolV (decide (x_11 < x_10)) ((0 ≤ x_11 ∧ x_11 < s_1.size) ∧ (L1 (Go.bits .xor .u32 r_5 (IntKind.wrap .u32 ((byteAt s_1 x_11.toNat).toNat : Int))) x_11 0 [nth g 0, nth g 1, nth g 2, nth g 3, .int .i64 x_11, nth g 5, nth g 6, nth g 7, .bool (decide (x_11 < x_10)), .int .i64 x_11, .int .u32 r_5, .string s_1, .int .i64 x_11, .int .u8 ((byteAt s_1 x_11.toNat).toNat : Int), .int .u32 (IntKind.wrap .u32 ((byteAt s_1 x_11.toNat).toNat : Int)), .int .u32 (Go.bits .xor .u32 r_5 (IntKind.wrap .u32 ((byteAt s_1 x_11.toNat).toNat : Int))), nth g 17, nth g 18, nth g 19, nth g 20, nth g 21, nth g 22, nth g 23, nth g 24, nth g 25, nth g 26, nth g 27, nth g 28] w)) (R (.returned (.int .u32 (Go.bits .xor .u32 IntKind.u32.max r_5))) w)
def W0 (R : Ending → World → Prop)  (s_1 : ByteArray) (r_5 : Int) (x_10 : Int) (x_11 : Int) (w : World) : Prop := ∃ (I : Nat → Int → Int → World → Prop) (n : Nat), I n r_5 x_11 w ∧ ∀ (n : Nat) (r_5 : Int) (x_11 : Int) (g : List Value) (w : World), I n r_5 x_11 w → ∀ (Back0 : Int → Int → List Value → World → Prop), (∀ (m : Nat) (r_5 : Int) (x_11 : Int) (g : List Value) (w : World), m < n → I m r_5 x_11 w → Back0 r_5 x_11 g w) → ∀ (L1 : Int → Int → Int → List Value → World → Prop), (∀ r_5 x_11 x_20 g w, W1 R Back0 s_1 r_5 x_10 x_11 x_20 w → L1 r_5 x_11 x_20 g w) → t1 R  Back0 L1 s_1 r_5 x_10 x_11 g w
def t0 (R : Ending → World → Prop) (L0 : ByteArray → Int → Int → Int → List Value → World → Prop) (sum_0 : Int) (s_1 : ByteArray) (w : World) : Prop := L0 s_1 (Go.bits .xor .u32 IntKind.u32.max sum_0) ((s_1.size : Nat) : Int) 0 [.int .u32 sum_0, undef, undef, .int .u32 0, undef, .int .u32 sum_0, .int .u32 (Go.bits .xor .u32 IntKind.u32.max sum_0), .string s_1, undef, undef, undef, undef, undef, undef, undef, undef, undef, undef, undef, undef, undef, undef, undef, undef, undef, undef, undef, undef, undef] w
def vc (R : Ending → World → Prop) (sum_0 : Int) (s_1 : ByteArray) (w : World) : Prop := ∀ (L0 : ByteArray → Int → Int → Int → List Value → World → Prop), (∀ s_1 r_5 x_10 x_11 g w, W0 R s_1 r_5 x_10 x_11 w → L0 s_1 r_5 x_10 x_11 g w) → t0 R L0 sum_0 s_1 w
theorem at1 (R : Ending → World → Prop) (J0 : Nat → List Value → World → Prop) (n0 : Nat) (s_1 : ByteArray) (r_5 : Int) (x_10 : Int) (x_11 : Int) (x_20 : Int) (g : List Value) (w : World) (h : W1 R (fun r_5 x_11 g w => (backQ J0 n0 (ctxQ Tryz.prog (bodyC Tryz.f214) [true, true, false, true, false] (retQ Tryz.prog Tryz.f214 R))) .normal [nth g 0, .string s_1, nth g 1, nth g 2, nth g 3, .int .u32 r_5, nth g 4, nth g 5, nth g 6, nth g 7, .int .i64 x_10, .int .i64 x_11, nth g 8, nth g 9, nth g 10, nth g 11, nth g 12, nth g 13, nth g 14, nth g 15, nth g 16, nth g 17, nth g 18, nth g 19, nth g 20, nth g 21, nth g 22, nth g 23, nth g 24, nth g 25, nth g 26, nth g 27, nth g 28] w) s_1 r_5 x_10 x_11 x_20 w) : atV Tryz.prog (loopC (bodyC Tryz.f214) [true, true, false, true, false]) [true, true, false, false, true, true, true, false] (backQ J0 n0 (ctxQ Tryz.prog (bodyC Tryz.f214) [true, true, false, true, false] (retQ Tryz.prog Tryz.f214 R))) [nth g 0, .string s_1, nth g 1, nth g 2, nth g 3, .int .u32 r_5, nth g 4, nth g 5, nth g 6, nth g 7, .int .i64 x_10, .int .i64 x_11, nth g 8, nth g 9, nth g 10, nth g 11, nth g 12, nth g 13, nth g 14, nth g 15, .int .i64 x_20, nth g 16, nth g 17, nth g 18, nth g 19, nth g 20, nth g 21, nth g 22, nth g 23, nth g 24, nth g 25, nth g 26, nth g 27] w := by
  obtain ⟨I, n0, h0, hs⟩ := h
  refine atV_loop (by kernel_rfl) (fun n s w => ∃ (r_5 : Int) (x_20 : Int) (g : List Value), s = [nth g 0, .string s_1, nth g 1, nth g 2, nth g 3, .int .u32 r_5, nth g 4, nth g 5, nth g 6, nth g 7, .int .i64 x_10, .int .i64 x_11, nth g 8, nth g 9, nth g 10, nth g 11, nth g 12, nth g 13, nth g 14, nth g 15, .int .i64 x_20, nth g 16, nth g 17, nth g 18, nth g 19, nth g 20, nth g 21, nth g 22, nth g 23, nth g 24, nth g 25, nth g 26, nth g 27] ∧ I n r_5 x_20 w) n0 ⟨_, _, _, rfl, h0⟩ ?_
  rintro n s w ⟨r_5, x_20, g, rfl, hI⟩
  exact Eq.mpr (by kernel_rfl) (hs n r_5 x_20 g w hI (fun r_5 x_20 g w => (backQ (fun n s w => ∃ (r_5 : Int) (x_20 : Int) (g : List Value), s = [nth g 0, .string s_1, nth g 1, nth g 2, nth g 3, .int .u32 r_5, nth g 4, nth g 5, nth g 6, nth g 7, .int .i64 x_10, .int .i64 x_11, nth g 8, nth g 9, nth g 10, nth g 11, nth g 12, nth g 13, nth g 14, nth g 15, .int .i64 x_20, nth g 16, nth g 17, nth g 18, nth g 19, nth g 20, nth g 21, nth g 22, nth g 23, nth g 24, nth g 25, nth g 26, nth g 27] ∧ I n r_5 x_20 w) n (ctxQ Tryz.prog (loopC (bodyC Tryz.f214) [true, true, false, true, false]) [true, true, false, false, true, true, true, false] (backQ J0 n0 (ctxQ Tryz.prog (bodyC Tryz.f214) [true, true, false, true, false] (retQ Tryz.prog Tryz.f214 R))))) .normal [nth g 0, .string s_1, nth g 1, nth g 2, nth g 3, .int .u32 r_5, nth g 4, nth g 5, nth g 6, nth g 7, .int .i64 x_10, .int .i64 x_11, nth g 8, nth g 9, nth g 10, nth g 11, nth g 12, nth g 13, nth g 14, nth g 15, .int .i64 x_20, nth g 16, nth g 17, nth g 18, nth g 19, nth g 20, nth g 21, nth g 22, nth g 23, nth g 24, nth g 25, nth g 26, nth g 27] w) (fun m r_5 x_20 g w hm hI => ⟨m, hm, r_5, x_20, g, rfl, hI⟩))
theorem at0 (R : Ending → World → Prop) (s_1 : ByteArray) (r_5 : Int) (x_10 : Int) (x_11 : Int) (g : List Value) (w : World) (h : W0 R  s_1 r_5 x_10 x_11 w) : atV Tryz.prog (bodyC Tryz.f214) [true, true, false, true, false] (retQ Tryz.prog Tryz.f214 R) [nth g 0, .string s_1, nth g 1, nth g 2, nth g 3, .int .u32 r_5, nth g 4, nth g 5, nth g 6, nth g 7, .int .i64 x_10, .int .i64 x_11, nth g 8, nth g 9, nth g 10, nth g 11, nth g 12, nth g 13, nth g 14, nth g 15, nth g 16, nth g 17, nth g 18, nth g 19, nth g 20, nth g 21, nth g 22, nth g 23, nth g 24, nth g 25, nth g 26, nth g 27, nth g 28] w := by
  obtain ⟨I, n0, h0, hs⟩ := h
  refine atV_loop (by kernel_rfl) (fun n s w => ∃ (r_5 : Int) (x_11 : Int) (g : List Value), s = [nth g 0, .string s_1, nth g 1, nth g 2, nth g 3, .int .u32 r_5, nth g 4, nth g 5, nth g 6, nth g 7, .int .i64 x_10, .int .i64 x_11, nth g 8, nth g 9, nth g 10, nth g 11, nth g 12, nth g 13, nth g 14, nth g 15, nth g 16, nth g 17, nth g 18, nth g 19, nth g 20, nth g 21, nth g 22, nth g 23, nth g 24, nth g 25, nth g 26, nth g 27, nth g 28] ∧ I n r_5 x_11 w) n0 ⟨_, _, _, rfl, h0⟩ ?_
  rintro n s w ⟨r_5, x_11, g, rfl, hI⟩
  exact Eq.mpr (by kernel_rfl) (hs n r_5 x_11 g w hI (fun r_5 x_11 g w => (backQ (fun n s w => ∃ (r_5 : Int) (x_11 : Int) (g : List Value), s = [nth g 0, .string s_1, nth g 1, nth g 2, nth g 3, .int .u32 r_5, nth g 4, nth g 5, nth g 6, nth g 7, .int .i64 x_10, .int .i64 x_11, nth g 8, nth g 9, nth g 10, nth g 11, nth g 12, nth g 13, nth g 14, nth g 15, nth g 16, nth g 17, nth g 18, nth g 19, nth g 20, nth g 21, nth g 22, nth g 23, nth g 24, nth g 25, nth g 26, nth g 27, nth g 28] ∧ I n r_5 x_11 w) n (ctxQ Tryz.prog (bodyC Tryz.f214) [true, true, false, true, false] (retQ Tryz.prog Tryz.f214 R))) .normal [nth g 0, .string s_1, nth g 1, nth g 2, nth g 3, .int .u32 r_5, nth g 4, nth g 5, nth g 6, nth g 7, .int .i64 x_10, .int .i64 x_11, nth g 8, nth g 9, nth g 10, nth g 11, nth g 12, nth g 13, nth g 14, nth g 15, nth g 16, nth g 17, nth g 18, nth g 19, nth g 20, nth g 21, nth g 22, nth g 23, nth g 24, nth g 25, nth g 26, nth g 27, nth g 28] w) (fun m r_5 x_11 g w hm hI => ⟨m, hm, r_5, x_11, g, rfl, hI⟩) (fun r_5 x_11 x_20 g w => atV Tryz.prog (loopC (bodyC Tryz.f214) [true, true, false, true, false]) [true, true, false, false, true, true, true, false] (backQ (fun n s w => ∃ (r_5 : Int) (x_11 : Int) (g : List Value), s = [nth g 0, .string s_1, nth g 1, nth g 2, nth g 3, .int .u32 r_5, nth g 4, nth g 5, nth g 6, nth g 7, .int .i64 x_10, .int .i64 x_11, nth g 8, nth g 9, nth g 10, nth g 11, nth g 12, nth g 13, nth g 14, nth g 15, nth g 16, nth g 17, nth g 18, nth g 19, nth g 20, nth g 21, nth g 22, nth g 23, nth g 24, nth g 25, nth g 26, nth g 27, nth g 28] ∧ I n r_5 x_11 w) n (ctxQ Tryz.prog (bodyC Tryz.f214) [true, true, false, true, false] (retQ Tryz.prog Tryz.f214 R))) [nth g 0, .string s_1, nth g 1, nth g 2, nth g 3, .int .u32 r_5, nth g 4, nth g 5, nth g 6, nth g 7, .int .i64 x_10, .int .i64 x_11, nth g 8, nth g 9, nth g 10, nth g 11, nth g 12, nth g 13, nth g 14, nth g 15, .int .i64 x_20, nth g 16, nth g 17, nth g 18, nth g 19, nth g 20, nth g 21, nth g 22, nth g 23, nth g 24, nth g 25, nth g 26, nth g 27] w) (fun r_5 x_11 x_20 g w h => at1 R (fun n s w => ∃ (r_5 : Int) (x_11 : Int) (g : List Value), s = [nth g 0, .string s_1, nth g 1, nth g 2, nth g 3, .int .u32 r_5, nth g 4, nth g 5, nth g 6, nth g 7, .int .i64 x_10, .int .i64 x_11, nth g 8, nth g 9, nth g 10, nth g 11, nth g 12, nth g 13, nth g 14, nth g 15, nth g 16, nth g 17, nth g 18, nth g 19, nth g 20, nth g 21, nth g 22, nth g 23, nth g 24, nth g 25, nth g 26, nth g 27, nth g 28] ∧ I n r_5 x_11 w) n  s_1 r_5 x_10 x_11 x_20 g w h))
theorem calls (R : Ending → World → Prop) (sum_0 : Int) (s_1 : ByteArray) (w : World) (h : vc R sum_0 s_1 w) : Calls Tryz.prog 214 #[.int .u32 sum_0, .string s_1] w R :=
  calls_V Tryz.func214 (Eq.mpr (by kernel_rfl) (h (fun s_1 r_5 x_10 x_11 g w => atV Tryz.prog (bodyC Tryz.f214) [true, true, false, true, false] (retQ Tryz.prog Tryz.f214 R) [nth g 0, .string s_1, nth g 1, nth g 2, nth g 3, .int .u32 r_5, nth g 4, nth g 5, nth g 6, nth g 7, .int .i64 x_10, .int .i64 x_11, nth g 8, nth g 9, nth g 10, nth g 11, nth g 12, nth g 13, nth g 14, nth g 15, nth g 16, nth g 17, nth g 18, nth g 19, nth g 20, nth g 21, nth g 22, nth g 23, nth g 24, nth g 25, nth g 26, nth g 27, nth g 28] w) (fun s_1 r_5 x_10 x_11 g w h => at0 R s_1 r_5 x_10 x_11 g w h)))
end crc_Add
end Go.Proofs.YtcofknlcdgidpaaGreatDoor
/-! ## GcrcSum -/
namespace Go.Proofs.YtcofknlcdgidpaaGreatDoor
open Go Go.Proofs.YtcofknlcdgidpaaGreatDoor.VC
set_option linter.unusedVariables false
set_option maxRecDepth 100000
set_option maxHeartbeats 0

/-! ### postroom/crc.Sum: function 170 -/
namespace crc_Sum
def t0 (R : Ending → World → Prop)  (s_0 : ByteArray) (w : World) : Prop := Calls Tryz.prog 214 #[.int .u32 0, .string s_0] w (fun e1 w2 => ∃ x3 : Int, e1 = .returned (.int .u32 x3) ∧ (R (.returned (.int .u32 x3)) w2))
def vc (R : Ending → World → Prop) (s_0 : ByteArray) (w : World) : Prop := t0 R  s_0 w
theorem calls (R : Ending → World → Prop) (s_0 : ByteArray) (w : World) (h : vc R s_0 w) : Calls Tryz.prog 170 #[.string s_0] w R :=
  calls_V Tryz.func170 (Eq.mpr (by kernel_rfl) (h))
end crc_Sum
end Go.Proofs.YtcofknlcdgidpaaGreatDoor
/-! ## Gframesum -/
namespace Go.Proofs.YtcofknlcdgidpaaGreatDoor
open Go Go.Proofs.YtcofknlcdgidpaaGreatDoor.VC
set_option linter.unusedVariables false
set_option maxRecDepth 100000
set_option maxHeartbeats 0

/-! ### postroom/frame.sum: function 121 -/
namespace frame_sum
def t1 (R : Ending → World → Prop)  (Back0 : Int → List Value → World → Prop)  (n_5 : Int) (b_6 : Nat) (x_13 : Int) (g : List Value) (w : World) : Prop := boolV (decide (x_13 < (4 : Int))) (nonnegV (IntKind.wrap .i64 (8 * x_13)) ((0 ≤ x_13 ∧ x_13 < (4 : Nat)) ∧ (Writable w ((⟨b_6, 0, none⟩ : Addr).add (x_13.toNat * 1)) 1 ∧ ∀ w1 : World, w1 = World.setCell w ((⟨b_6, 0, none⟩ : Addr).add (x_13.toNat * 1)) (.int .u8 (IntKind.wrap .u8 (shrI .u32 n_5 (IntKind.wrap .i64 (8 * x_13))))) → Back0 (IntKind.wrap .i64 (x_13 + 1)) [nth g 0, nth g 1, nth g 2, nth g 3, nth g 4, .int .i64 x_13, nth g 6, nth g 7, nth g 8, nth g 9, nth g 10, .bool (decide (x_13 < (4 : Int))), .int .i64 x_13, .int .i64 x_13, .int .u32 n_5, .int .i64 x_13, .int .i64 (IntKind.wrap .i64 (8 * x_13)), .int .u32 (shrI .u32 n_5 (IntKind.wrap .i64 (8 * x_13))), .int .u8 (IntKind.wrap .u8 (shrI .u32 n_5 (IntKind.wrap .i64 (8 * x_13)))), .pointer (some ((⟨b_6, 0, none⟩ : Addr).add (x_13.toNat * 1))), .int .i64 (IntKind.wrap .i64 (x_13 + 1)), nth g 21, nth g 22] w1))) (∃ s2 : ByteArray, BytesAt w (some ⟨b_6, 0, none⟩) 4 s2 ∧ (R (.returned (.string s2)) w))
def W0 (R : Ending → World → Prop)  (n_5 : Int) (b_6 : Nat) (x_13 : Int) (w : World) : Prop := ∃ (I : Nat → Int → World → Prop) (n : Nat), I n x_13 w ∧ ∀ (n : Nat) (x_13 : Int) (g : List Value) (w : World), I n x_13 w → ∀ (Back0 : Int → List Value → World → Prop), (∀ (m : Nat) (x_13 : Int) (g : List Value) (w : World), m < n → I m x_13 w → Back0 x_13 g w) → t1 R  Back0  n_5 b_6 x_13 g w
def t0 (R : Ending → World → Prop) (L0 : Int → Nat → Int → List Value → World → Prop) (seq_0 : Int) (body_1 : ByteArray) (w : World) : Prop := Calls Tryz.prog 116 #[.int .u64 seq_0] w (fun e1 w2 => ∃ s3 : ByteArray, e1 = .returned (.string s3) ∧ (s3.size + body_1.size ≤ 9223372036854775807 ∧ (Calls Tryz.prog 170 #[.string (s3 ++ body_1)] w2 (fun e4 w5 => ∃ x6 : Int, e4 = .returned (.int .u32 x6) ∧ (∀ (b7 : Nat) (w8 : World), b7 = w5.heap.size → w8 = World.alloc w5 (.cells #[.int .u8 0, .int .u8 0, .int .u8 0, .int .u8 0] 255) → L0 x6 b7 0 [.int .u64 seq_0, .string body_1, undef, undef, .string ⟨#[]⟩, undef, .int .u64 seq_0, .string s3, .string body_1, .string (s3 ++ body_1), .int .u32 x6, undef, undef, undef, undef, undef, undef, undef, undef, undef, undef, undef, undef] w8)))))
def vc (R : Ending → World → Prop) (seq_0 : Int) (body_1 : ByteArray) (w : World) : Prop := ∀ (L0 : Int → Nat → Int → List Value → World → Prop), (∀ n_5 b_6 x_13 g w, W0 R n_5 b_6 x_13 w → L0 n_5 b_6 x_13 g w) → t0 R L0 seq_0 body_1 w
theorem at0 (R : Ending → World → Prop) (n_5 : Int) (b_6 : Nat) (x_13 : Int) (g : List Value) (w : World) (h : W0 R  n_5 b_6 x_13 w) : atV Tryz.prog (bodyC Tryz.f121) [true, true, true, false, true, false] (retQ Tryz.prog Tryz.f121 R) [nth g 0, nth g 1, nth g 2, nth g 3, nth g 4, .int .u32 n_5, .pointer (some ⟨b_6, 0, none⟩), nth g 5, nth g 6, nth g 7, nth g 8, nth g 9, nth g 10, .int .i64 x_13, nth g 11, nth g 12, nth g 13, nth g 14, nth g 15, nth g 16, nth g 17, nth g 18, nth g 19, nth g 20, nth g 21, nth g 22] w := by
  obtain ⟨I, n0, h0, hs⟩ := h
  refine atV_loop (by kernel_rfl) (fun n s w => ∃ (x_13 : Int) (g : List Value), s = [nth g 0, nth g 1, nth g 2, nth g 3, nth g 4, .int .u32 n_5, .pointer (some ⟨b_6, 0, none⟩), nth g 5, nth g 6, nth g 7, nth g 8, nth g 9, nth g 10, .int .i64 x_13, nth g 11, nth g 12, nth g 13, nth g 14, nth g 15, nth g 16, nth g 17, nth g 18, nth g 19, nth g 20, nth g 21, nth g 22] ∧ I n x_13 w) n0 ⟨_, _, rfl, h0⟩ ?_
  rintro n s w ⟨x_13, g, rfl, hI⟩
  exact Eq.mpr (by kernel_rfl) (hs n x_13 g w hI (fun x_13 g w => (backQ (fun n s w => ∃ (x_13 : Int) (g : List Value), s = [nth g 0, nth g 1, nth g 2, nth g 3, nth g 4, .int .u32 n_5, .pointer (some ⟨b_6, 0, none⟩), nth g 5, nth g 6, nth g 7, nth g 8, nth g 9, nth g 10, .int .i64 x_13, nth g 11, nth g 12, nth g 13, nth g 14, nth g 15, nth g 16, nth g 17, nth g 18, nth g 19, nth g 20, nth g 21, nth g 22] ∧ I n x_13 w) n (ctxQ Tryz.prog (bodyC Tryz.f121) [true, true, true, false, true, false] (retQ Tryz.prog Tryz.f121 R))) .normal [nth g 0, nth g 1, nth g 2, nth g 3, nth g 4, .int .u32 n_5, .pointer (some ⟨b_6, 0, none⟩), nth g 5, nth g 6, nth g 7, nth g 8, nth g 9, nth g 10, .int .i64 x_13, nth g 11, nth g 12, nth g 13, nth g 14, nth g 15, nth g 16, nth g 17, nth g 18, nth g 19, nth g 20, nth g 21, nth g 22] w) (fun m x_13 g w hm hI => ⟨m, hm, x_13, g, rfl, hI⟩))
theorem calls (R : Ending → World → Prop) (seq_0 : Int) (body_1 : ByteArray) (w : World) (h : vc R seq_0 body_1 w) : Calls Tryz.prog 121 #[.int .u64 seq_0, .string body_1] w R :=
  calls_V Tryz.func121 (Eq.mpr (by kernel_rfl) (h (fun n_5 b_6 x_13 g w => atV Tryz.prog (bodyC Tryz.f121) [true, true, true, false, true, false] (retQ Tryz.prog Tryz.f121 R) [nth g 0, nth g 1, nth g 2, nth g 3, nth g 4, .int .u32 n_5, .pointer (some ⟨b_6, 0, none⟩), nth g 5, nth g 6, nth g 7, nth g 8, nth g 9, nth g 10, .int .i64 x_13, nth g 11, nth g 12, nth g 13, nth g 14, nth g 15, nth g 16, nth g 17, nth g 18, nth g 19, nth g 20, nth g 21, nth g 22] w) (fun n_5 b_6 x_13 g w h => at0 R n_5 b_6 x_13 g w h)))
end frame_sum
end Go.Proofs.YtcofknlcdgidpaaGreatDoor
/-! ## GframePut -/
namespace Go.Proofs.YtcofknlcdgidpaaGreatDoor
open Go Go.Proofs.YtcofknlcdgidpaaGreatDoor.VC
set_option linter.unusedVariables false
set_option maxRecDepth 100000
set_option maxHeartbeats 0

/-! ### postroom/frame.Put: function 83 -/
namespace frame_Put
def t0 (R : Ending → World → Prop)  (seq_0 : Int) (body_1 : ByteArray) (w : World) : Prop := boolV (decide (((body_1.size : Nat) : Int) > (2000 : Int))) (R (.returned (.tuple #[.string ⟨#[]⟩, .int .i64 7])) w) (Calls Tryz.prog 116 #[.int .u64 (IntKind.wrap .u64 ((body_1.size : Nat) : Int))] w (fun e1 w2 => ∃ s3 : ByteArray, e1 = .returned (.string s3) ∧ (Calls Tryz.prog 116 #[.int .u64 seq_0] w2 (fun e4 w5 => ∃ s6 : ByteArray, e4 = .returned (.string s6) ∧ (s3.size + s6.size ≤ 9223372036854775807 ∧ (Calls Tryz.prog 121 #[.int .u64 seq_0, .string body_1] w5 (fun e7 w8 => ∃ s9 : ByteArray, e7 = .returned (.string s9) ∧ ((s3 ++ s6).size + s9.size ≤ 9223372036854775807 ∧ (((s3 ++ s6) ++ s9).size + body_1.size ≤ 9223372036854775807 ∧ (R (.returned (.tuple #[.string (((s3 ++ s6) ++ s9) ++ body_1), .int .i64 0])) w8))))))))))
def vc (R : Ending → World → Prop) (seq_0 : Int) (body_1 : ByteArray) (w : World) : Prop := t0 R  seq_0 body_1 w
theorem calls (R : Ending → World → Prop) (seq_0 : Int) (body_1 : ByteArray) (w : World) (h : vc R seq_0 body_1 w) : Calls Tryz.prog 83 #[.int .u64 seq_0, .string body_1] w R :=
  calls_V Tryz.func83 (Eq.mpr (by kernel_rfl) (h))
end frame_Put
end Go.Proofs.YtcofknlcdgidpaaGreatDoor
/-! ## GframeSize -/
namespace Go.Proofs.YtcofknlcdgidpaaGreatDoor
open Go Go.Proofs.YtcofknlcdgidpaaGreatDoor.VC
set_option linter.unusedVariables false
set_option maxRecDepth 100000
set_option maxHeartbeats 0

/-! ### postroom/frame.Size: function 44 -/
namespace frame_Size
def t0 (R : Ending → World → Prop)  (seq_0 : Int) (body_1 : ByteArray) (w : World) : Prop := Calls Tryz.prog 83 #[.int .u64 seq_0, .string body_1] w (fun e1 w2 => ∃ s3 : ByteArray, ∃ x4 : Int, e1 = .returned (.tuple #[.string s3, .int .i64 x4]) ∧ (R (.returned (.int .i64 ((s3.size : Nat) : Int))) w2))
def vc (R : Ending → World → Prop) (seq_0 : Int) (body_1 : ByteArray) (w : World) : Prop := t0 R  seq_0 body_1 w
theorem calls (R : Ending → World → Prop) (seq_0 : Int) (body_1 : ByteArray) (w : World) (h : vc R seq_0 body_1 w) : Calls Tryz.prog 44 #[.int .u64 seq_0, .string body_1] w R :=
  calls_V Tryz.func44 (Eq.mpr (by kernel_rfl) (h))
end frame_Size
end Go.Proofs.YtcofknlcdgidpaaGreatDoor
/-! ## Crc -/
namespace Go.Proofs.YtcofknlcdgidpaaGreatDoor
open Go Go.RowKit Go.Proofs.YtcofknlcdgidpaaGreatDoor.VC
set_option linter.unusedVariables false
set_option maxRecDepth 100000

def crcList : List Nat := [0x00000000, 0x105EC76F, 0x20BD8EDE, 0x30E349B1, 0x417B1DBC, 0x5125DAD3, 0x61C69362, 0x7198540D, 0x82F63B78, 0x92A8FC17, 0xA24BB5A6, 0xB21572C9, 0xC38D26C4, 0xD3D3E1AB, 0xE330A81A, 0xF36E6F75]
/-- The table of sums lies in its place. -/
def Tab (w : World) : Prop := ∀ i, i < 16 → w.cell? ⟨1, i, none⟩ = some (.int .u32 ((crcList.getD i 0 : Nat) : Int))
theorem Tab.below {w w' : World} (h : Tab w) {B : Nat} (hb : Below B w w') (hB : 1 < B) : Tab w' := fun i hi => (hb.cell (p := ⟨_, i, none⟩) hB).trans (h i hi)
def crcNib (r : Int) : Int := Go.bits .xor .u32 (shrI .u32 r 4) ((crcList.getD (Go.bits .and .u32 r 15).toNat 0 : Nat) : Int)
def nibs : Nat → Int → Int
  | 0, r => r
  | k + 1, r => nibs k (crcNib r)
def crcByte (r : Int) (b : UInt8) : Int := crcNib (crcNib (Go.bits .xor .u32 r (IntKind.wrap .u32 ((b.toNat : Nat) : Int))))
def crcAdd (sum : Int) (bs : List UInt8) : Int := Go.bits .xor .u32 IntKind.u32.max (bs.foldl crcByte (Go.bits .xor .u32 IntKind.u32.max sum))
theorem and15 (r : Int) : 0 ≤ Go.bits .and .u32 r 15 ∧ Go.bits .and .u32 r 15 < 16 := by
  have h : (BitVec.ofInt 32 r &&& BitVec.ofInt 32 15).toNat < 16 := by
    rw [BitVec.toNat_and]
    have : (BitVec.ofInt 32 15).toNat = 15 := by decide
    rw [this]
    have := Nat.and_le_right (n := (BitVec.ofInt 32 r).toNat) (m := 15)
    omega
  show 0 ≤ IntKind.wrap .u32 (((BitVec.ofInt 32 r &&& BitVec.ofInt 32 15).toNat : Nat) : Int) ∧ IntKind.wrap .u32 (((BitVec.ofInt 32 r &&& BitVec.ofInt 32 15).toNat : Nat) : Int) < 16
  rw [wrap_u32]
  omega
theorem crc_add (sum : Int) (bs : List UInt8) (hlen : bs.length < 9223372036854775807) (w0 : World) (ht : Tab w0) (hb0 : 1 < w0.heap.size) :
    Calls Tryz.prog 214 #[.int .u32 sum, .string (S bs)] w0 (fun e w => e = .returned (.int .u32 (crcAdd sum bs)) ∧ Below w0.heap.size w0 w) := by
  apply crc_Add.calls
  intro L0 hL
  apply hL
  refine ⟨fun m r x w => ∃ i : Nat, x = (i : Int) ∧ i ≤ bs.length ∧ r = (bs.take i).foldl crcByte (Go.bits .xor .u32 IntKind.u32.max sum) ∧ m = bs.length - i ∧ Below w0.heap.size w0 w, _, ⟨0, rfl, by omega, by simp, rfl, Below.refl _ _⟩, ?_⟩
  rintro m r x g w ⟨i, rfl, hi, rfl, rfl, hbel⟩ Back hback L1 hL1
  unfold crc_Add.t1
  have hsz : (((S bs).size : Nat) : Int) = bs.length := rfl
  by_cases hlt : i < bs.length
  · refine boolT (by simp [hsz]; omega) ⟨⟨by omega, by rw [hsz]; omega⟩, ?_⟩
    have hb : byteAt (S bs) (i : Int).toNat = bs[i] := by rw [Int.toNat_natCast, byteAt_S, List.getD_eq_getElem?_getD, List.getElem?_eq_getElem hlt]; rfl
    rw [hb]
    apply hL1
    refine ⟨fun m r x w => ∃ k : Nat, k ≤ 2 ∧ x = (k : Int) ∧ m = 2 - k ∧ nibs (2 - k) r = crcByte ((bs.take i).foldl crcByte (Go.bits .xor .u32 IntKind.u32.max sum)) bs[i] ∧ Below w0.heap.size w0 w, _, ⟨0, by omega, rfl, rfl, rfl, hbel⟩, ?_⟩
    rintro m r x g w ⟨k, hk, rfl, rfl, hr, hbel⟩ Back1 hback1
    unfold crc_Add.t2
    by_cases hk2 : k < 2
    · have h15 := and15 r
      refine boolT (by simp; omega) ⟨⟨h15.1, h15.2⟩, ((crcList.getD (Go.bits .and .u32 r 15).toNat 0 : Nat) : Int), ?_, hback1 (2 - (k + 1)) _ _ _ _ (by omega) ⟨k + 1, by omega, ?_, rfl, ?_, hbel⟩⟩
      · rw [Nat.mul_one, addr_add0]
        exact (ht.below hbel hb0) _ (by omega)
      · rw [wrap_i64 (by omega) (by omega)]; omega
      · rw [← hr, show 2 - k = (2 - (k + 1)) + 1 from by omega]; rfl
    · obtain rfl : k = 2 := by omega
      refine boolF (by simp) (hback (bs.length - (i + 1)) _ _ _ _ (by omega) ⟨i + 1, ?_, by omega, ?_, rfl, hbel⟩)
      · rw [wrap_i64 (by omega) (by omega)]; omega
      · rw [List.take_add_one, List.getElem?_eq_getElem hlt, List.foldl_append]; exact hr
  · refine boolF (by simp [hsz]; omega) ⟨?_, hbel⟩
    rw [List.take_of_length_le (by omega)]; rfl

theorem crc_sum (bs : List UInt8) (hlen : bs.length < 9223372036854775807) (w0 : World) (ht : Tab w0) (hb0 : 1 < w0.heap.size) :
    Calls Tryz.prog 170 #[.string (S bs)] w0 (fun e w => e = .returned (.int .u32 (crcAdd 0 bs)) ∧ Below w0.heap.size w0 w) := by
  apply crc_Sum.calls
  refine (crc_add 0 bs hlen w0 ht hb0).mono ?_
  rintro e w ⟨rfl, hb⟩
  exact ⟨_, rfl, rfl, hb⟩

/-- A sum's bytes. -/
def sumByte (n : Int) (i : Nat) : UInt8 := UInt8.ofNat (IntKind.wrap .u8 (shrI .u32 n (IntKind.wrap .i64 (8 * (i : Int))))).toNat
def sumB (n : Int) : List UInt8 := [sumByte n 0, sumByte n 1, sumByte n 2, sumByte n 3]
theorem sumByte_val (n : Int) (i : Nat) : (((sumByte n i).toNat : Nat) : Int) = IntKind.wrap .u8 (shrI .u32 n (IntKind.wrap .i64 (8 * (i : Int)))) := by
  have h : ∀ z : Int, 0 ≤ IntKind.wrap .u8 z ∧ IntKind.wrap .u8 z < 256 := fun z => by rw [wrap_u8_int]; omega
  unfold sumByte
  have := h (shrI .u32 n (IntKind.wrap .i64 (8 * (i : Int))))
  rw [UInt8.toNat_ofNat', Nat.mod_eq_of_lt (by omega)]; omega
def sumCs (n : Int) (i : Nat) : List Value := [.int .u8 (if 0 < i then ((sumByte n 0).toNat : Nat) else 0 : Int), .int .u8 (if 1 < i then ((sumByte n 1).toNat : Nat) else 0 : Int), .int .u8 (if 2 < i then ((sumByte n 2).toNat : Nat) else 0 : Int), .int .u8 (if 3 < i then ((sumByte n 3).toNat : Nat) else 0 : Int)]
theorem frame_sum_ (N : Nat) (hN : N < 18446744073709551616) (bs : List UInt8) (hlen : bs.length < 9223372036854775000) (w0 : World) (ht : Tab w0) (hb0 : 1 < w0.heap.size) :
    Calls Tryz.prog 121 #[.int .u64 N, .string (S bs)] w0 (fun e w => e = .returned (.string (S (sumB (crcAdd 0 (numB N ++ bs))))) ∧ Below w0.heap.size w0 w) := by
  apply frame_sum.calls
  intro L0 hL
  refine (num_put N hN w0).mono ?_
  rintro e w ⟨rfl, hb⟩
  have h10 := numB_len10 hN
  refine ⟨_, rfl, by show (numB N).length + bs.length ≤ _; omega, ?_⟩
  rw [S_append]
  refine (crc_sum (numB N ++ bs) (by simp; omega) w (ht.below hb hb0) (Nat.lt_of_lt_of_le hb0 hb.size)).mono ?_
  rintro e w1 ⟨rfl, hb1⟩
  refine ⟨_, rfl, ?_⟩
  rintro b w2 rfl rfl
  have hb1' : Below w0.heap.size w0 w1 := hb.trans (hb1.mono hb.size)
  apply hL
  refine ⟨fun m x w => ∃ i : Nat, i ≤ 4 ∧ x = (i : Int) ∧ m = 4 - i ∧ Blk w w1.heap.size 255 (sumCs (crcAdd 0 (numB N ++ bs)) i) ∧ Below w0.heap.size w0 w, _, ⟨0, by omega, rfl, rfl, Blk.new w1 255 (sumCs _ 0), hb1'.alloc hb1'.size _⟩, ?_⟩
  rintro m x g w ⟨i, hi, rfl, rfl, hblk, hbel⟩ Back hback
  unfold frame_sum.t1
  have hw8 : IntKind.wrap .i64 (8 * (i : Int)) = ((8 * i : Nat) : Int) := by rw [wrap_i64 (by omega) (by omega)]; omega
  by_cases h4 : i < 4
  · refine boolT (by simp; omega) ?_
    rw [nonnegV_iff]
    refine ⟨by rw [hw8]; omega, ⟨by omega, by omega⟩, ?_, ?_⟩
    · rw [Nat.mul_one, addr_add0, Int.toNat_natCast]
      exact hblk.writable (by show i + 1 ≤ 4; omega)
    · rintro w' rfl
      refine hback (4 - (i + 1)) _ _ _ (by omega) ⟨i + 1, by omega, ?_, rfl, ?_, ?_⟩
      · rw [wrap_i64 (by omega) (by omega)]; omega
      · rw [Nat.mul_one, addr_add0, Int.toNat_natCast, ← sumByte_val]
        have := hblk.set i (.int .u8 (((sumByte (crcAdd 0 (numB N ++ bs)) i).toNat : Nat) : Int))
        rcases (by omega : i = 0 ∨ i = 1 ∨ i = 2 ∨ i = 3) with rfl | rfl | rfl | rfl <;> exact this
      · rw [Nat.mul_one, addr_add0]
        exact hbel.setCell (by simpa using hb1'.size) _
  · obtain rfl : i = 4 := by omega
    refine boolF (by simp) ⟨_, ?_, rfl, hbel⟩
    refine bytesAt_own (B := w1.heap.size) (e := 255) (c := 4) ?_
    exact hblk.own (Nat.le_refl _) (by decide) rfl

/-- A frame's bytes. -/
def frameB (N : Nat) (bs : List UInt8) : List UInt8 := numB bs.length ++ numB N ++ sumB (crcAdd 0 (numB N ++ bs)) ++ bs
theorem frame_put (N : Nat) (hN : N < 18446744073709551616) (bs : List UInt8) (hlen : bs.length < 9223372036854775000) (w0 : World) (ht : Tab w0) (hb0 : 1 < w0.heap.size) :
    Calls Tryz.prog 83 #[.int .u64 N, .string (S bs)] w0 (fun e w => e = .returned (if 2000 < bs.length then .tuple #[.string ⟨#[]⟩, .int .i64 7] else .tuple #[.string (S (frameB N bs)), .int .i64 0]) ∧ Below w0.heap.size w0 w) := by
  apply frame_Put.calls
  have hsz : ((((S bs).size : Nat)) : Int) = (bs.length : Int) := rfl
  show boolV _ _ _
  rw [hsz, wrap_u64, Nat.mod_eq_of_lt (by omega)]
  by_cases hl : 2000 < bs.length
  · refine boolT (by simp; omega) ⟨by rw [if_pos hl], Below.refl _ _⟩
  refine boolF (by simp; omega) ?_
  rw [if_neg hl]
  have h10 := numB_len10 hN
  have h11 := numB_len10 (n := bs.length) (by omega)
  refine (num_put _ (by omega) w0).mono ?_
  rintro e w ⟨rfl, hb⟩
  refine ⟨_, rfl, (num_put N hN w).mono ?_⟩
  rintro e w1 ⟨rfl, hb1⟩
  have hb1' : Below w0.heap.size w0 w1 := hb.trans (hb1.mono hb.size)
  refine ⟨_, rfl, by show (numB _).length + (numB _).length ≤ _; omega, (frame_sum_ N hN bs hlen w1 (ht.below hb1' hb0) (Nat.lt_of_lt_of_le hb0 hb1'.size)).mono ?_⟩
  rintro e w2 ⟨rfl, hb2⟩
  refine ⟨_, rfl, ?_, ?_, ?_, hb1'.trans (hb2.mono hb1'.size)⟩
  · rw [S_append, S_size, S_size]; simp [sumB]; omega
  · rw [S_append, S_append, S_size, S_size]; simp [sumB]; omega
  · rw [S_append, S_append, S_append]; rfl
def frameSize (N : Nat) (bs : List UInt8) : Nat := if 2000 < bs.length then 0 else (frameB N bs).length
theorem frame_size (N : Nat) (hN : N < 18446744073709551616) (bs : List UInt8) (hlen : bs.length < 9223372036854775000) (w0 : World) (ht : Tab w0) (hb0 : 1 < w0.heap.size) :
    Calls Tryz.prog 44 #[.int .u64 N, .string (S bs)] w0 (fun e w => e = .returned (.int .i64 (frameSize N bs)) ∧ Below w0.heap.size w0 w) := by
  apply frame_Size.calls
  refine (frame_put N hN bs hlen w0 ht hb0).mono ?_
  rintro e w ⟨rfl, hb⟩
  unfold frameSize
  by_cases hl : 2000 < bs.length
  · rw [if_pos hl, if_pos hl]; exact ⟨_, _, rfl, rfl, hb⟩
  · rw [if_neg hl, if_neg hl]; exact ⟨_, _, rfl, rfl, hb⟩
end Go.Proofs.YtcofknlcdgidpaaGreatDoor
/-! ## GmodelModelIngest -/
namespace Go.Proofs.YtcofknlcdgidpaaGreatDoor
open Go Go.Proofs.YtcofknlcdgidpaaGreatDoor.VC
set_option linter.unusedVariables false
set_option maxRecDepth 100000
set_option maxHeartbeats 0

/-! ### (*postroom/model.Model).Ingest: function 19 -/
namespace model_Model_Ingest
def t1 (R : Ending → World → Prop)  (Back0 : List Value → World → Prop)  (m_0 : Option Addr) (seq_10 : Int) (g : List Value) (w : World) : Prop := ∃ S1 : World → Prop, (∀ w2 : World, w2.heap = w.heap → w2.tape = w.tape → w2.os = w.os → w2.output = w.output → S1 w2 ∧ (someV m_0 (fun p3 => ∃ (a4 : Option Addr) (n5 c6 : Nat), (∀ w, S1 w → w.cell? (p3.add 11) = some (.slice a4 n5 c6)) ∧ (boolV (decide (((n5 : Nat) : Int) > (1 : Int))) (someV m_0 (fun p7 => ∃ x8 : Int, (∀ w, S1 w → w.cell? p7 = some (.int .i64 x8)) ∧ (Calls Tryz.prog 12 #[.pointer m_0] w2 (fun e9 w10 => ∃ x11 : Int, e9 = .returned (.int .i64 x11) ∧ (S1 w10 ∧ (boolV (decide (x11 > x8)) (Calls Tryz.prog 49 #[.pointer m_0] w10 (fun e12 w13 => e12 = .returned (.tuple #[]) ∧ (Back0  [nth g 0, nth g 1, nth g 2, nth g 3, nth g 4, nth g 5, nth g 6, nth g 7, nth g 8, nth g 9, nth g 10, nth g 11, nth g 12, nth g 13, nth g 14, nth g 15, nth g 16, nth g 17, nth g 18, nth g 19, nth g 20, nth g 21, nth g 22, nth g 23, nth g 24, nth g 25, nth g 26, nth g 27, nth g 28, nth g 29, nth g 30, nth g 31, nth g 32, nth g 33, nth g 34, nth g 35, nth g 36, nth g 37, nth g 38, nth g 39, nth g 40, nth g 41, nth g 42, nth g 43, nth g 44, nth g 45, nth g 46, nth g 47, nth g 48, nth g 49, nth g 50, nth g 51, nth g 52, nth g 53, nth g 54, nth g 55, nth g 56, nth g 57, nth g 58, nth g 59, nth g 60, nth g 61, nth g 62, nth g 63, nth g 64, nth g 65, nth g 66, nth g 67, nth g 68, nth g 69, nth g 70, nth g 71, nth g 72, nth g 73, nth g 74, nth g 75, nth g 76, nth g 77, nth g 78, nth g 79, nth g 80, nth g 81, nth g 82, nth g 83, nth g 84, nth g 85, nth g 86, nth g 87, nth g 88, nth g 89, nth g 90, nth g 91, nth g 92, nth g 93, nth g 94, nth g 95, nth g 96, nth g 97, nth g 98, nth g 99, .pointer m_0, .pointer (some p3), .pointer (some (p3.add 11)), .slice a4 n5 c6, .int .i64 ((n5 : Nat) : Int), .bool (decide (((n5 : Nat) : Int) > (1 : Int))), .bool true, .pointer m_0, .int .i64 x11, .pointer m_0, .pointer (some p7), .pointer (some p7), .pointer (some p7), .pointer (some p7), .int .i64 x8, .bool (decide (x11 > x8)), .bool (decide (x11 > x8)), .pointer m_0, .tuple #[], nth g 119] w13))) (R (.returned (.tuple #[.int .u64 seq_10, .int .i64 0])) w10))))))) (R (.returned (.tuple #[.int .u64 seq_10, .int .i64 0])) w2)))))
def W0 (R : Ending → World → Prop)  (m_0 : Option Addr) (seq_10 : Int) (w : World) : Prop := ∃ (I : Nat → World → Prop) (n : Nat), I n  w ∧ ∀ (n : Nat)  (g : List Value) (w : World), I n  w → ∀ (Back0 : List Value → World → Prop), (∀ (m : Nat)  (g : List Value) (w : World), m < n → I m  w → Back0  g w) → t1 R  Back0  m_0 seq_10 g w
def t0 (R : Ending → World → Prop) (L0 : (Option Addr) → Int → List Value → World → Prop) (m_0 : Option Addr) (e_1a : Option Addr) (e_1b : Nat) (e_1c : Nat) (e_1d : Option Addr) (e_1e : Nat) (e_1f : Nat) (sync_2 : Bool) (w : World) : Prop := ∀ (b1 : Nat) (w2 : World), b1 = w.heap.size → w2 = World.alloc w (.cells #[.slice e_1a e_1b e_1c, .slice e_1d e_1e e_1f] 53) → someV m_0 (fun p3 => ∃ t4 : Bool, w2.cell? (p3.add 17) = some (.bool t4) ∧ (boolV t4 (R (.returned (.tuple #[.int .u64 0, .int .i64 12])) w2) (∃ (a5 : Option Addr) (n6 c7 : Nat), ∃ (a8 : Option Addr) (n9 c10 : Nat), (w2.cell? ⟨b1, 0, none⟩ = some (.slice a5 n6 c7) ∧ w2.cell? ⟨b1, 1, none⟩ = some (.slice a8 n9 c10)) ∧ (Calls Tryz.prog 43 #[.agg #[.slice a5 n6 c7, .slice a8 n9 c10]] w2 (fun e11 w12 => ∃ s13 : ByteArray, ∃ x14 : Int, e11 = .returned (.tuple #[.string s13, .int .i64 x14]) ∧ (boolV (x14 != (0 : Int)) (R (.returned (.tuple #[.int .u64 0, .int .i64 x14])) w12) (someV m_0 (fun p15 => ∃ x16 : Int, w12.cell? ((p15.add 7).add 1) = some (.int .u64 x16) ∧ (Calls Tryz.prog 44 #[.int .u64 x16, .string s13] w12 (fun e17 w18 => ∃ x19 : Int, e17 = .returned (.int .i64 x19) ∧ (∀ (b20 : Nat) (w21 : World), b20 = w18.heap.size → w21 = World.alloc w18 (.cells #[.slice none 0 0, .slice none 0 0, .string ByteArray.empty, .int .i64 0] 118) → Writable w21 ⟨b20, 0, none⟩ 4 ∧ ∀ w22 : World, w22 = World.setCell (World.setCell (World.setCell (World.setCell w21 ⟨b20, 0, none⟩ (.slice none 0 0)) ⟨b20, 1, none⟩ (.slice none 0 0)) ⟨b20, 2, none⟩ (.string ByteArray.empty)) ⟨b20, 3, none⟩ (.int .i64 x19) → Calls Tryz.prog 45 #[.string s13] w22 (fun e23 w24 => ∃ (a25 : Option Addr) (n26 c27 : Nat), ∃ (a28 : Option Addr) (n29 c30 : Nat), ∃ x31 : Int, e23 = .returned (.tuple #[.agg #[.slice a25 n26 c27, .slice a28 n29 c30], .int .i64 x31]) ∧ (Writable w24 ⟨b20, 0, none⟩ 2 ∧ ∀ w32 : World, w32 = World.setCell (World.setCell w24 ⟨b20, 0, none⟩ (.slice a25 n26 c27)) ⟨b20, 1, none⟩ (.slice a28 n29 c30) → ∃ (a33 : Option Addr) (n34 c35 : Nat), ∃ (a36 : Option Addr) (n37 c38 : Nat), (w32.cell? ⟨b1, 0, none⟩ = some (.slice a33 n34 c35) ∧ w32.cell? ⟨b1, 1, none⟩ = some (.slice a36 n37 c38)) ∧ (Calls Tryz.prog 46 #[.agg #[.slice a33 n34 c35, .slice a36 n37 c38]] w32 (fun e39 w40 => ∃ s41 : ByteArray, ∃ x42 : Int, e39 = .returned (.tuple #[.string s41, .int .i64 x42]) ∧ (Writable w40 ⟨b20, 2, none⟩ 1 ∧ ∀ w43 : World, w43 = World.setCell w40 ⟨b20, 2, none⟩ (.string s41) → ∃ S44 : World → Prop, (∀ w45 : World, w45.heap = w43.heap → w45.tape = w43.tape → w45.os = w43.os → w45.output = w43.output → S44 w45 ∧ (Calls Tryz.prog 47 #[.pointer m_0] w45 (fun e46 w47 => ∃ x48 : Int, e46 = .returned (.int .u64 x48) ∧ (S44 w47 ∧ (boolV (decide (x48 < x16)) (∃ x49 : Int, (∀ w, S44 w → w.cell? ⟨b20, 3, none⟩ = some (.int .i64 x49)) ∧ (someV m_0 (fun p50 => ∃ x51 : Int, (∀ w, S44 w → w.cell? (p50.add 1) = some (.int .i64 x51)) ∧ (Calls Tryz.prog 47 #[.pointer m_0] w47 (fun e52 w53 => ∃ x54 : Int, e52 = .returned (.int .u64 x54) ∧ (S44 w53 ∧ (Calls Tryz.prog 37 #[.pointer m_0, .int .u64 x54] w53 (fun e55 w56 => ∃ x57 : Int, e55 = .returned (.int .i64 x57) ∧ (S44 w56 ∧ (boolV (decide ((IntKind.wrap .i64 (x57 + x49)) > x51)) (someV m_0 (fun p58 => ∃ (a59 : Option Addr) (n60 c61 : Nat), w56.cell? (p58.add 11) = some (.slice a59 n60 c61) ∧ (∀ (b62 : Nat) (w63 : World), b62 = w56.heap.size → w63 = World.alloc w56 (.cells #[.int .u64 x16] 24) → runV Tryz.prog (Builtin.append_ #[61, 61] 61 #[.slice a59 n60 c61, .slice (some ⟨b62, 0, none⟩) 1 1]) w63 (fun v64 w65 => ∃ (a66 : Option Addr) (n67 c68 : Nat), v64 = .slice a66 n67 c68 ∧ (someV m_0 (fun p69 => Writable w65 (p69.add 11) 1 ∧ ∀ w70 : World, w70 = World.setCell w65 (p69.add 11) (.slice a66 n67 c68) → someV m_0 (fun p71 => Writable w70 (p71.add 12) 1 ∧ ∀ w72 : World, w72 = World.setCell w70 (p71.add 12) (.int .u64 x16) → ∃ S73 : World → Prop, (∀ w74 : World, w74.heap = w72.heap → w74.tape = w72.tape → w74.os = w72.os → w74.output = w72.output → S73 w74 ∧ (someV m_0 (fun p75 => ∃ r76 : Option Nat, (∀ w, S73 w → w.cell? (p75.add 10) = some (.map r76)) ∧ (∃ (a77 : Option Addr) (n78 c79 : Nat), ∃ (a80 : Option Addr) (n81 c82 : Nat), ∃ s83 : ByteArray, ∃ x84 : Int, (∀ w, S73 w → w.cell? ⟨b20, 0, none⟩ = some (.slice a77 n78 c79) ∧ w.cell? ⟨b20, 1, none⟩ = some (.slice a80 n81 c82) ∧ w.cell? ⟨b20, 2, none⟩ = some (.string s83) ∧ w.cell? ⟨b20, 3, none⟩ = some (.int .i64 x84)) ∧ (unitV Tryz.prog (Instr.mapUpdate 94 (.map r76) (.int .u64 x16) (.agg #[.slice a77 n78 c79, .slice a80 n81 c82, .string s83, .int .i64 x84])) w74 (fun w85 => someV m_0 (fun p86 => ∃ x87 : Int, ∃ x88 : Int, ∃ (a89 : Option Addr) (n90 c91 : Nat), (w85.cell? (p86.add 7) = some (.int .u64 x87) ∧ w85.cell? ((p86.add 7).add 1) = some (.int .u64 x88) ∧ w85.cell? ((p86.add 7).add 2) = some (.slice a89 n90 c91)) ∧ (Calls Tryz.prog 48 #[.agg #[.int .u64 x87, .int .u64 x88, .slice a89 n90 c91]] w85 (fun e92 w93 => ∃ x94 : Int, ∃ x95 : Int, ∃ (a96 : Option Addr) (n97 c98 : Nat), e92 = .returned (.agg #[.int .u64 x94, .int .u64 x95, .slice a96 n97 c98]) ∧ (someV m_0 (fun p99 => Writable w93 (p99.add 7) 3 ∧ ∀ w100 : World, w100 = World.setCell (World.setCell (World.setCell w93 (p99.add 7) (.int .u64 x94)) ((p99.add 7).add 1) (.int .u64 x95)) ((p99.add 7).add 2) (.slice a96 n97 c98) → boolV sync_2 (someV m_0 (fun p101 => ∃ x102 : Int, w100.cell? ((p101.add 7).add 1) = some (.int .u64 x102) ∧ (someV m_0 (fun p103 => Writable w100 (p103.add 12) 1 ∧ ∀ w104 : World, w104 = World.setCell w100 (p103.add 12) (.int .u64 x102) → L0 m_0 x16 [.agg #[.slice e_1a e_1b e_1c, .slice e_1d e_1e e_1f], .bool sync_2, undef, .pointer (some ⟨b1, 0, none⟩), undef, .int .u64 0, .int .i64 0, .string s13, .int .i64 x14, .pointer (some ⟨b20, 0, none⟩), .pointer m_0, .pointer (some p3), .pointer (some (p3.add 17)), .bool t4, .tuple #[.string s13, .int .i64 x14], .agg #[.slice a5 n6 c7, .slice a8 n9 c10], .tuple #[.string s13, .int .i64 x14], .string s13, .int .i64 x14, .int .i64 x14, .bool (x14 != (0 : Int)), undef, .pointer m_0, .pointer (some p15), .pointer (some (p15.add 7)), .pointer (some ((p15.add 7).add 1)), .int .u64 x16, .int .u64 x16, .string s13, .int .i64 x19, .agg #[.slice none 0 0, .slice none 0 0, .string ByteArray.empty, .int .i64 x19], .tuple #[.agg #[.slice a25 n26 c27, .slice a28 n29 c30], .int .i64 x31], .string s13, .tuple #[.agg #[.slice a25 n26 c27, .slice a28 n29 c30], .int .i64 x31], .agg #[.slice a25 n26 c27, .slice a28 n29 c30], .int .i64 x31, .pointer (some ⟨b20, 0, none⟩), .tuple #[.string s41, .int .i64 x42], .agg #[.slice a33 n34 c35, .slice a36 n37 c38], .tuple #[.string s41, .int .i64 x42], .string s41, .int .i64 x42, .pointer (some ⟨b20, 2, none⟩), .pointer m_0, .int .u64 x48, .int .u64 x16, .bool (decide (x48 < x16)), .bool true, .pointer m_0, .pointer m_0, .int .u64 x54, .int .i64 x57, .pointer (some ⟨b20, 3, none⟩), .int .i64 x49, .int .i64 (IntKind.wrap .i64 (x57 + x49)), .pointer m_0, .pointer (some p50), .pointer (some p50), .pointer (some p50), .pointer (some (p50.add 1)), .int .i64 x51, .bool (decide ((IntKind.wrap .i64 (x57 + x49)) > x51)), .bool (decide ((IntKind.wrap .i64 (x57 + x49)) > x51)), .pointer m_0, .pointer m_0, .pointer (some p58), .pointer (some (p58.add 11)), .slice a59 n60 c61, .int .u64 x16, .slice (some ⟨b62, 0, none⟩) 1 1, .slice a66 n67 c68, .pointer (some p69), .pointer (some (p69.add 11)), .pointer m_0, .int .u64 x16, .pointer (some p71), .pointer (some (p71.add 12)), .pointer m_0, .pointer (some p75), .pointer (some (p75.add 10)), .map r76, .int .u64 x16, .agg #[.slice a77 n78 c79, .slice a80 n81 c82, .string s83, .int .i64 x84], .pointer m_0, .pointer m_0, .pointer (some p86), .pointer (some (p86.add 7)), .agg #[.int .u64 x87, .int .u64 x88, .slice a89 n90 c91], .agg #[.int .u64 x94, .int .u64 x95, .slice a96 n97 c98], .pointer (some p99), .pointer (some (p99.add 7)), .bool sync_2, .pointer m_0, .pointer m_0, .pointer (some p101), .pointer (some (p101.add 7)), .pointer (some ((p101.add 7).add 1)), .int .u64 x102, .pointer (some p103), .pointer (some (p103.add 12)), undef, undef, undef, undef, undef, undef, undef, undef, undef, undef, undef, undef, undef, undef, undef, undef, undef, undef, undef, undef] w104)))) (L0 m_0 x16 [.agg #[.slice e_1a e_1b e_1c, .slice e_1d e_1e e_1f], .bool sync_2, undef, .pointer (some ⟨b1, 0, none⟩), undef, .int .u64 0, .int .i64 0, .string s13, .int .i64 x14, .pointer (some ⟨b20, 0, none⟩), .pointer m_0, .pointer (some p3), .pointer (some (p3.add 17)), .bool t4, .tuple #[.string s13, .int .i64 x14], .agg #[.slice a5 n6 c7, .slice a8 n9 c10], .tuple #[.string s13, .int .i64 x14], .string s13, .int .i64 x14, .int .i64 x14, .bool (x14 != (0 : Int)), undef, .pointer m_0, .pointer (some p15), .pointer (some (p15.add 7)), .pointer (some ((p15.add 7).add 1)), .int .u64 x16, .int .u64 x16, .string s13, .int .i64 x19, .agg #[.slice none 0 0, .slice none 0 0, .string ByteArray.empty, .int .i64 x19], .tuple #[.agg #[.slice a25 n26 c27, .slice a28 n29 c30], .int .i64 x31], .string s13, .tuple #[.agg #[.slice a25 n26 c27, .slice a28 n29 c30], .int .i64 x31], .agg #[.slice a25 n26 c27, .slice a28 n29 c30], .int .i64 x31, .pointer (some ⟨b20, 0, none⟩), .tuple #[.string s41, .int .i64 x42], .agg #[.slice a33 n34 c35, .slice a36 n37 c38], .tuple #[.string s41, .int .i64 x42], .string s41, .int .i64 x42, .pointer (some ⟨b20, 2, none⟩), .pointer m_0, .int .u64 x48, .int .u64 x16, .bool (decide (x48 < x16)), .bool true, .pointer m_0, .pointer m_0, .int .u64 x54, .int .i64 x57, .pointer (some ⟨b20, 3, none⟩), .int .i64 x49, .int .i64 (IntKind.wrap .i64 (x57 + x49)), .pointer m_0, .pointer (some p50), .pointer (some p50), .pointer (some p50), .pointer (some (p50.add 1)), .int .i64 x51, .bool (decide ((IntKind.wrap .i64 (x57 + x49)) > x51)), .bool (decide ((IntKind.wrap .i64 (x57 + x49)) > x51)), .pointer m_0, .pointer m_0, .pointer (some p58), .pointer (some (p58.add 11)), .slice a59 n60 c61, .int .u64 x16, .slice (some ⟨b62, 0, none⟩) 1 1, .slice a66 n67 c68, .pointer (some p69), .pointer (some (p69.add 11)), .pointer m_0, .int .u64 x16, .pointer (some p71), .pointer (some (p71.add 12)), .pointer m_0, .pointer (some p75), .pointer (some (p75.add 10)), .map r76, .int .u64 x16, .agg #[.slice a77 n78 c79, .slice a80 n81 c82, .string s83, .int .i64 x84], .pointer m_0, .pointer m_0, .pointer (some p86), .pointer (some (p86.add 7)), .agg #[.int .u64 x87, .int .u64 x88, .slice a89 n90 c91], .agg #[.int .u64 x94, .int .u64 x95, .slice a96 n97 c98], .pointer (some p99), .pointer (some (p99.add 7)), .bool sync_2, undef, undef, undef, undef, undef, undef, undef, undef, undef, undef, undef, undef, undef, undef, undef, undef, undef, undef, undef, undef, undef, undef, undef, undef, undef, undef, undef, undef] w100))))))))))))))))))) (∃ S105 : World → Prop, (∀ w106 : World, w106.heap = w56.heap → w106.tape = w56.tape → w106.os = w56.os → w106.output = w56.output → S105 w106 ∧ (someV m_0 (fun p107 => ∃ r108 : Option Nat, (∀ w, S105 w → w.cell? (p107.add 10) = some (.map r108)) ∧ (∃ (a109 : Option Addr) (n110 c111 : Nat), ∃ (a112 : Option Addr) (n113 c114 : Nat), ∃ s115 : ByteArray, ∃ x116 : Int, (∀ w, S105 w → w.cell? ⟨b20, 0, none⟩ = some (.slice a109 n110 c111) ∧ w.cell? ⟨b20, 1, none⟩ = some (.slice a112 n113 c114) ∧ w.cell? ⟨b20, 2, none⟩ = some (.string s115) ∧ w.cell? ⟨b20, 3, none⟩ = some (.int .i64 x116)) ∧ (unitV Tryz.prog (Instr.mapUpdate 94 (.map r108) (.int .u64 x16) (.agg #[.slice a109 n110 c111, .slice a112 n113 c114, .string s115, .int .i64 x116])) w106 (fun w117 => someV m_0 (fun p118 => ∃ x119 : Int, ∃ x120 : Int, ∃ (a121 : Option Addr) (n122 c123 : Nat), (w117.cell? (p118.add 7) = some (.int .u64 x119) ∧ w117.cell? ((p118.add 7).add 1) = some (.int .u64 x120) ∧ w117.cell? ((p118.add 7).add 2) = some (.slice a121 n122 c123)) ∧ (Calls Tryz.prog 48 #[.agg #[.int .u64 x119, .int .u64 x120, .slice a121 n122 c123]] w117 (fun e124 w125 => ∃ x126 : Int, ∃ x127 : Int, ∃ (a128 : Option Addr) (n129 c130 : Nat), e124 = .returned (.agg #[.int .u64 x126, .int .u64 x127, .slice a128 n129 c130]) ∧ (someV m_0 (fun p131 => Writable w125 (p131.add 7) 3 ∧ ∀ w132 : World, w132 = World.setCell (World.setCell (World.setCell w125 (p131.add 7) (.int .u64 x126)) ((p131.add 7).add 1) (.int .u64 x127)) ((p131.add 7).add 2) (.slice a128 n129 c130) → boolV sync_2 (someV m_0 (fun p133 => ∃ x134 : Int, w132.cell? ((p133.add 7).add 1) = some (.int .u64 x134) ∧ (someV m_0 (fun p135 => Writable w132 (p135.add 12) 1 ∧ ∀ w136 : World, w136 = World.setCell w132 (p135.add 12) (.int .u64 x134) → L0 m_0 x16 [.agg #[.slice e_1a e_1b e_1c, .slice e_1d e_1e e_1f], .bool sync_2, undef, .pointer (some ⟨b1, 0, none⟩), undef, .int .u64 0, .int .i64 0, .string s13, .int .i64 x14, .pointer (some ⟨b20, 0, none⟩), .pointer m_0, .pointer (some p3), .pointer (some (p3.add 17)), .bool t4, .tuple #[.string s13, .int .i64 x14], .agg #[.slice a5 n6 c7, .slice a8 n9 c10], .tuple #[.string s13, .int .i64 x14], .string s13, .int .i64 x14, .int .i64 x14, .bool (x14 != (0 : Int)), undef, .pointer m_0, .pointer (some p15), .pointer (some (p15.add 7)), .pointer (some ((p15.add 7).add 1)), .int .u64 x16, .int .u64 x16, .string s13, .int .i64 x19, .agg #[.slice none 0 0, .slice none 0 0, .string ByteArray.empty, .int .i64 x19], .tuple #[.agg #[.slice a25 n26 c27, .slice a28 n29 c30], .int .i64 x31], .string s13, .tuple #[.agg #[.slice a25 n26 c27, .slice a28 n29 c30], .int .i64 x31], .agg #[.slice a25 n26 c27, .slice a28 n29 c30], .int .i64 x31, .pointer (some ⟨b20, 0, none⟩), .tuple #[.string s41, .int .i64 x42], .agg #[.slice a33 n34 c35, .slice a36 n37 c38], .tuple #[.string s41, .int .i64 x42], .string s41, .int .i64 x42, .pointer (some ⟨b20, 2, none⟩), .pointer m_0, .int .u64 x48, .int .u64 x16, .bool (decide (x48 < x16)), .bool true, .pointer m_0, .pointer m_0, .int .u64 x54, .int .i64 x57, .pointer (some ⟨b20, 3, none⟩), .int .i64 x49, .int .i64 (IntKind.wrap .i64 (x57 + x49)), .pointer m_0, .pointer (some p50), .pointer (some p50), .pointer (some p50), .pointer (some (p50.add 1)), .int .i64 x51, .bool (decide ((IntKind.wrap .i64 (x57 + x49)) > x51)), .bool (decide ((IntKind.wrap .i64 (x57 + x49)) > x51)), undef, undef, undef, undef, undef, undef, undef, undef, undef, undef, undef, undef, undef, undef, .pointer m_0, .pointer (some p107), .pointer (some (p107.add 10)), .map r108, .int .u64 x16, .agg #[.slice a109 n110 c111, .slice a112 n113 c114, .string s115, .int .i64 x116], .pointer m_0, .pointer m_0, .pointer (some p118), .pointer (some (p118.add 7)), .agg #[.int .u64 x119, .int .u64 x120, .slice a121 n122 c123], .agg #[.int .u64 x126, .int .u64 x127, .slice a128 n129 c130], .pointer (some p131), .pointer (some (p131.add 7)), .bool sync_2, .pointer m_0, .pointer m_0, .pointer (some p133), .pointer (some (p133.add 7)), .pointer (some ((p133.add 7).add 1)), .int .u64 x134, .pointer (some p135), .pointer (some (p135.add 12)), undef, undef, undef, undef, undef, undef, undef, undef, undef, undef, undef, undef, undef, undef, undef, undef, undef, undef, undef, undef] w136)))) (L0 m_0 x16 [.agg #[.slice e_1a e_1b e_1c, .slice e_1d e_1e e_1f], .bool sync_2, undef, .pointer (some ⟨b1, 0, none⟩), undef, .int .u64 0, .int .i64 0, .string s13, .int .i64 x14, .pointer (some ⟨b20, 0, none⟩), .pointer m_0, .pointer (some p3), .pointer (some (p3.add 17)), .bool t4, .tuple #[.string s13, .int .i64 x14], .agg #[.slice a5 n6 c7, .slice a8 n9 c10], .tuple #[.string s13, .int .i64 x14], .string s13, .int .i64 x14, .int .i64 x14, .bool (x14 != (0 : Int)), undef, .pointer m_0, .pointer (some p15), .pointer (some (p15.add 7)), .pointer (some ((p15.add 7).add 1)), .int .u64 x16, .int .u64 x16, .string s13, .int .i64 x19, .agg #[.slice none 0 0, .slice none 0 0, .string ByteArray.empty, .int .i64 x19], .tuple #[.agg #[.slice a25 n26 c27, .slice a28 n29 c30], .int .i64 x31], .string s13, .tuple #[.agg #[.slice a25 n26 c27, .slice a28 n29 c30], .int .i64 x31], .agg #[.slice a25 n26 c27, .slice a28 n29 c30], .int .i64 x31, .pointer (some ⟨b20, 0, none⟩), .tuple #[.string s41, .int .i64 x42], .agg #[.slice a33 n34 c35, .slice a36 n37 c38], .tuple #[.string s41, .int .i64 x42], .string s41, .int .i64 x42, .pointer (some ⟨b20, 2, none⟩), .pointer m_0, .int .u64 x48, .int .u64 x16, .bool (decide (x48 < x16)), .bool true, .pointer m_0, .pointer m_0, .int .u64 x54, .int .i64 x57, .pointer (some ⟨b20, 3, none⟩), .int .i64 x49, .int .i64 (IntKind.wrap .i64 (x57 + x49)), .pointer m_0, .pointer (some p50), .pointer (some p50), .pointer (some p50), .pointer (some (p50.add 1)), .int .i64 x51, .bool (decide ((IntKind.wrap .i64 (x57 + x49)) > x51)), .bool (decide ((IntKind.wrap .i64 (x57 + x49)) > x51)), undef, undef, undef, undef, undef, undef, undef, undef, undef, undef, undef, undef, undef, undef, .pointer m_0, .pointer (some p107), .pointer (some (p107.add 10)), .map r108, .int .u64 x16, .agg #[.slice a109 n110 c111, .slice a112 n113 c114, .string s115, .int .i64 x116], .pointer m_0, .pointer m_0, .pointer (some p118), .pointer (some (p118.add 7)), .agg #[.int .u64 x119, .int .u64 x120, .slice a121 n122 c123], .agg #[.int .u64 x126, .int .u64 x127, .slice a128 n129 c130], .pointer (some p131), .pointer (some (p131.add 7)), .bool sync_2, undef, undef, undef, undef, undef, undef, undef, undef, undef, undef, undef, undef, undef, undef, undef, undef, undef, undef, undef, undef, undef, undef, undef, undef, undef, undef, undef, undef] w132))))))))))))))))))))))) (∃ S137 : World → Prop, (∀ w138 : World, w138.heap = w47.heap → w138.tape = w47.tape → w138.os = w47.os → w138.output = w47.output → S137 w138 ∧ (someV m_0 (fun p139 => ∃ r140 : Option Nat, (∀ w, S137 w → w.cell? (p139.add 10) = some (.map r140)) ∧ (∃ (a141 : Option Addr) (n142 c143 : Nat), ∃ (a144 : Option Addr) (n145 c146 : Nat), ∃ s147 : ByteArray, ∃ x148 : Int, (∀ w, S137 w → w.cell? ⟨b20, 0, none⟩ = some (.slice a141 n142 c143) ∧ w.cell? ⟨b20, 1, none⟩ = some (.slice a144 n145 c146) ∧ w.cell? ⟨b20, 2, none⟩ = some (.string s147) ∧ w.cell? ⟨b20, 3, none⟩ = some (.int .i64 x148)) ∧ (unitV Tryz.prog (Instr.mapUpdate 94 (.map r140) (.int .u64 x16) (.agg #[.slice a141 n142 c143, .slice a144 n145 c146, .string s147, .int .i64 x148])) w138 (fun w149 => someV m_0 (fun p150 => ∃ x151 : Int, ∃ x152 : Int, ∃ (a153 : Option Addr) (n154 c155 : Nat), (w149.cell? (p150.add 7) = some (.int .u64 x151) ∧ w149.cell? ((p150.add 7).add 1) = some (.int .u64 x152) ∧ w149.cell? ((p150.add 7).add 2) = some (.slice a153 n154 c155)) ∧ (Calls Tryz.prog 48 #[.agg #[.int .u64 x151, .int .u64 x152, .slice a153 n154 c155]] w149 (fun e156 w157 => ∃ x158 : Int, ∃ x159 : Int, ∃ (a160 : Option Addr) (n161 c162 : Nat), e156 = .returned (.agg #[.int .u64 x158, .int .u64 x159, .slice a160 n161 c162]) ∧ (someV m_0 (fun p163 => Writable w157 (p163.add 7) 3 ∧ ∀ w164 : World, w164 = World.setCell (World.setCell (World.setCell w157 (p163.add 7) (.int .u64 x158)) ((p163.add 7).add 1) (.int .u64 x159)) ((p163.add 7).add 2) (.slice a160 n161 c162) → boolV sync_2 (someV m_0 (fun p165 => ∃ x166 : Int, w164.cell? ((p165.add 7).add 1) = some (.int .u64 x166) ∧ (someV m_0 (fun p167 => Writable w164 (p167.add 12) 1 ∧ ∀ w168 : World, w168 = World.setCell w164 (p167.add 12) (.int .u64 x166) → L0 m_0 x16 [.agg #[.slice e_1a e_1b e_1c, .slice e_1d e_1e e_1f], .bool sync_2, undef, .pointer (some ⟨b1, 0, none⟩), undef, .int .u64 0, .int .i64 0, .string s13, .int .i64 x14, .pointer (some ⟨b20, 0, none⟩), .pointer m_0, .pointer (some p3), .pointer (some (p3.add 17)), .bool t4, .tuple #[.string s13, .int .i64 x14], .agg #[.slice a5 n6 c7, .slice a8 n9 c10], .tuple #[.string s13, .int .i64 x14], .string s13, .int .i64 x14, .int .i64 x14, .bool (x14 != (0 : Int)), undef, .pointer m_0, .pointer (some p15), .pointer (some (p15.add 7)), .pointer (some ((p15.add 7).add 1)), .int .u64 x16, .int .u64 x16, .string s13, .int .i64 x19, .agg #[.slice none 0 0, .slice none 0 0, .string ByteArray.empty, .int .i64 x19], .tuple #[.agg #[.slice a25 n26 c27, .slice a28 n29 c30], .int .i64 x31], .string s13, .tuple #[.agg #[.slice a25 n26 c27, .slice a28 n29 c30], .int .i64 x31], .agg #[.slice a25 n26 c27, .slice a28 n29 c30], .int .i64 x31, .pointer (some ⟨b20, 0, none⟩), .tuple #[.string s41, .int .i64 x42], .agg #[.slice a33 n34 c35, .slice a36 n37 c38], .tuple #[.string s41, .int .i64 x42], .string s41, .int .i64 x42, .pointer (some ⟨b20, 2, none⟩), .pointer m_0, .int .u64 x48, .int .u64 x16, .bool (decide (x48 < x16)), .bool false, undef, undef, undef, undef, undef, undef, undef, undef, undef, undef, undef, undef, undef, undef, .bool false, undef, undef, undef, undef, undef, undef, undef, undef, undef, undef, undef, undef, undef, undef, .pointer m_0, .pointer (some p139), .pointer (some (p139.add 10)), .map r140, .int .u64 x16, .agg #[.slice a141 n142 c143, .slice a144 n145 c146, .string s147, .int .i64 x148], .pointer m_0, .pointer m_0, .pointer (some p150), .pointer (some (p150.add 7)), .agg #[.int .u64 x151, .int .u64 x152, .slice a153 n154 c155], .agg #[.int .u64 x158, .int .u64 x159, .slice a160 n161 c162], .pointer (some p163), .pointer (some (p163.add 7)), .bool sync_2, .pointer m_0, .pointer m_0, .pointer (some p165), .pointer (some (p165.add 7)), .pointer (some ((p165.add 7).add 1)), .int .u64 x166, .pointer (some p167), .pointer (some (p167.add 12)), undef, undef, undef, undef, undef, undef, undef, undef, undef, undef, undef, undef, undef, undef, undef, undef, undef, undef, undef, undef] w168)))) (L0 m_0 x16 [.agg #[.slice e_1a e_1b e_1c, .slice e_1d e_1e e_1f], .bool sync_2, undef, .pointer (some ⟨b1, 0, none⟩), undef, .int .u64 0, .int .i64 0, .string s13, .int .i64 x14, .pointer (some ⟨b20, 0, none⟩), .pointer m_0, .pointer (some p3), .pointer (some (p3.add 17)), .bool t4, .tuple #[.string s13, .int .i64 x14], .agg #[.slice a5 n6 c7, .slice a8 n9 c10], .tuple #[.string s13, .int .i64 x14], .string s13, .int .i64 x14, .int .i64 x14, .bool (x14 != (0 : Int)), undef, .pointer m_0, .pointer (some p15), .pointer (some (p15.add 7)), .pointer (some ((p15.add 7).add 1)), .int .u64 x16, .int .u64 x16, .string s13, .int .i64 x19, .agg #[.slice none 0 0, .slice none 0 0, .string ByteArray.empty, .int .i64 x19], .tuple #[.agg #[.slice a25 n26 c27, .slice a28 n29 c30], .int .i64 x31], .string s13, .tuple #[.agg #[.slice a25 n26 c27, .slice a28 n29 c30], .int .i64 x31], .agg #[.slice a25 n26 c27, .slice a28 n29 c30], .int .i64 x31, .pointer (some ⟨b20, 0, none⟩), .tuple #[.string s41, .int .i64 x42], .agg #[.slice a33 n34 c35, .slice a36 n37 c38], .tuple #[.string s41, .int .i64 x42], .string s41, .int .i64 x42, .pointer (some ⟨b20, 2, none⟩), .pointer m_0, .int .u64 x48, .int .u64 x16, .bool (decide (x48 < x16)), .bool false, undef, undef, undef, undef, undef, undef, undef, undef, undef, undef, undef, undef, undef, undef, .bool false, undef, undef, undef, undef, undef, undef, undef, undef, undef, undef, undef, undef, undef, undef, .pointer m_0, .pointer (some p139), .pointer (some (p139.add 10)), .map r140, .int .u64 x16, .agg #[.slice a141 n142 c143, .slice a144 n145 c146, .string s147, .int .i64 x148], .pointer m_0, .pointer m_0, .pointer (some p150), .pointer (some (p150.add 7)), .agg #[.int .u64 x151, .int .u64 x152, .slice a153 n154 c155], .agg #[.int .u64 x158, .int .u64 x159, .slice a160 n161 c162], .pointer (some p163), .pointer (some (p163.add 7)), .bool sync_2, undef, undef, undef, undef, undef, undef, undef, undef, undef, undef, undef, undef, undef, undef, undef, undef, undef, undef, undef, undef, undef, undef, undef, undef, undef, undef, undef, undef] w164))))))))))))))))))))))))))))))))))
def vc (R : Ending → World → Prop) (m_0 : Option Addr) (e_1a : Option Addr) (e_1b : Nat) (e_1c : Nat) (e_1d : Option Addr) (e_1e : Nat) (e_1f : Nat) (sync_2 : Bool) (w : World) : Prop := ∀ (L0 : (Option Addr) → Int → List Value → World → Prop), (∀ m_0 seq_10 g w, W0 R m_0 seq_10 w → L0 m_0 seq_10 g w) → t0 R L0 m_0 e_1a e_1b e_1c e_1d e_1e e_1f sync_2 w
theorem at0 (R : Ending → World → Prop) (m_0 : Option Addr) (seq_10 : Int) (g : List Value) (w : World) (h : W0 R  m_0 seq_10 w) : atV Tryz.prog (bodyC Tryz.f19) [true, true, true, true, true, true, true, true, true, true, true, true, false, false] (retQ Tryz.prog Tryz.f19 R) [.pointer m_0, nth g 0, nth g 1, nth g 2, nth g 3, nth g 4, nth g 5, nth g 6, nth g 7, nth g 8, .int .u64 seq_10, nth g 9, nth g 10, nth g 11, nth g 12, nth g 13, nth g 14, nth g 15, nth g 16, nth g 17, nth g 18, nth g 19, nth g 20, nth g 21, nth g 22, nth g 23, nth g 24, nth g 25, nth g 26, nth g 27, nth g 28, nth g 29, nth g 30, nth g 31, nth g 32, nth g 33, nth g 34, nth g 35, nth g 36, nth g 37, nth g 38, nth g 39, nth g 40, nth g 41, nth g 42, nth g 43, nth g 44, nth g 45, nth g 46, nth g 47, nth g 48, nth g 49, nth g 50, nth g 51, nth g 52, nth g 53, nth g 54, nth g 55, nth g 56, nth g 57, nth g 58, nth g 59, nth g 60, nth g 61, nth g 62, nth g 63, nth g 64, nth g 65, nth g 66, nth g 67, nth g 68, nth g 69, nth g 70, nth g 71, nth g 72, nth g 73, nth g 74, nth g 75, nth g 76, nth g 77, nth g 78, nth g 79, nth g 80, nth g 81, nth g 82, nth g 83, nth g 84, nth g 85, nth g 86, nth g 87, nth g 88, nth g 89, nth g 90, nth g 91, nth g 92, nth g 93, nth g 94, nth g 95, nth g 96, nth g 97, nth g 98, nth g 99, nth g 100, nth g 101, nth g 102, nth g 103, nth g 104, nth g 105, nth g 106, nth g 107, nth g 108, nth g 109, nth g 110, nth g 111, nth g 112, nth g 113, nth g 114, nth g 115, nth g 116, nth g 117, nth g 118, nth g 119] w := by
  obtain ⟨I, n0, h0, hs⟩ := h
  refine atV_loop (by kernel_rfl) (fun n s w => ∃ (g : List Value), s = [.pointer m_0, nth g 0, nth g 1, nth g 2, nth g 3, nth g 4, nth g 5, nth g 6, nth g 7, nth g 8, .int .u64 seq_10, nth g 9, nth g 10, nth g 11, nth g 12, nth g 13, nth g 14, nth g 15, nth g 16, nth g 17, nth g 18, nth g 19, nth g 20, nth g 21, nth g 22, nth g 23, nth g 24, nth g 25, nth g 26, nth g 27, nth g 28, nth g 29, nth g 30, nth g 31, nth g 32, nth g 33, nth g 34, nth g 35, nth g 36, nth g 37, nth g 38, nth g 39, nth g 40, nth g 41, nth g 42, nth g 43, nth g 44, nth g 45, nth g 46, nth g 47, nth g 48, nth g 49, nth g 50, nth g 51, nth g 52, nth g 53, nth g 54, nth g 55, nth g 56, nth g 57, nth g 58, nth g 59, nth g 60, nth g 61, nth g 62, nth g 63, nth g 64, nth g 65, nth g 66, nth g 67, nth g 68, nth g 69, nth g 70, nth g 71, nth g 72, nth g 73, nth g 74, nth g 75, nth g 76, nth g 77, nth g 78, nth g 79, nth g 80, nth g 81, nth g 82, nth g 83, nth g 84, nth g 85, nth g 86, nth g 87, nth g 88, nth g 89, nth g 90, nth g 91, nth g 92, nth g 93, nth g 94, nth g 95, nth g 96, nth g 97, nth g 98, nth g 99, nth g 100, nth g 101, nth g 102, nth g 103, nth g 104, nth g 105, nth g 106, nth g 107, nth g 108, nth g 109, nth g 110, nth g 111, nth g 112, nth g 113, nth g 114, nth g 115, nth g 116, nth g 117, nth g 118, nth g 119] ∧ I n  w) n0 ⟨_, rfl, h0⟩ ?_
  rintro n s w ⟨g, rfl, hI⟩
  exact Eq.mpr (by kernel_rfl) (hs n  g w hI (fun g w => (backQ (fun n s w => ∃ (g : List Value), s = [.pointer m_0, nth g 0, nth g 1, nth g 2, nth g 3, nth g 4, nth g 5, nth g 6, nth g 7, nth g 8, .int .u64 seq_10, nth g 9, nth g 10, nth g 11, nth g 12, nth g 13, nth g 14, nth g 15, nth g 16, nth g 17, nth g 18, nth g 19, nth g 20, nth g 21, nth g 22, nth g 23, nth g 24, nth g 25, nth g 26, nth g 27, nth g 28, nth g 29, nth g 30, nth g 31, nth g 32, nth g 33, nth g 34, nth g 35, nth g 36, nth g 37, nth g 38, nth g 39, nth g 40, nth g 41, nth g 42, nth g 43, nth g 44, nth g 45, nth g 46, nth g 47, nth g 48, nth g 49, nth g 50, nth g 51, nth g 52, nth g 53, nth g 54, nth g 55, nth g 56, nth g 57, nth g 58, nth g 59, nth g 60, nth g 61, nth g 62, nth g 63, nth g 64, nth g 65, nth g 66, nth g 67, nth g 68, nth g 69, nth g 70, nth g 71, nth g 72, nth g 73, nth g 74, nth g 75, nth g 76, nth g 77, nth g 78, nth g 79, nth g 80, nth g 81, nth g 82, nth g 83, nth g 84, nth g 85, nth g 86, nth g 87, nth g 88, nth g 89, nth g 90, nth g 91, nth g 92, nth g 93, nth g 94, nth g 95, nth g 96, nth g 97, nth g 98, nth g 99, nth g 100, nth g 101, nth g 102, nth g 103, nth g 104, nth g 105, nth g 106, nth g 107, nth g 108, nth g 109, nth g 110, nth g 111, nth g 112, nth g 113, nth g 114, nth g 115, nth g 116, nth g 117, nth g 118, nth g 119] ∧ I n  w) n (ctxQ Tryz.prog (bodyC Tryz.f19) [true, true, true, true, true, true, true, true, true, true, true, true, false, false] (retQ Tryz.prog Tryz.f19 R))) .normal [.pointer m_0, nth g 0, nth g 1, nth g 2, nth g 3, nth g 4, nth g 5, nth g 6, nth g 7, nth g 8, .int .u64 seq_10, nth g 9, nth g 10, nth g 11, nth g 12, nth g 13, nth g 14, nth g 15, nth g 16, nth g 17, nth g 18, nth g 19, nth g 20, nth g 21, nth g 22, nth g 23, nth g 24, nth g 25, nth g 26, nth g 27, nth g 28, nth g 29, nth g 30, nth g 31, nth g 32, nth g 33, nth g 34, nth g 35, nth g 36, nth g 37, nth g 38, nth g 39, nth g 40, nth g 41, nth g 42, nth g 43, nth g 44, nth g 45, nth g 46, nth g 47, nth g 48, nth g 49, nth g 50, nth g 51, nth g 52, nth g 53, nth g 54, nth g 55, nth g 56, nth g 57, nth g 58, nth g 59, nth g 60, nth g 61, nth g 62, nth g 63, nth g 64, nth g 65, nth g 66, nth g 67, nth g 68, nth g 69, nth g 70, nth g 71, nth g 72, nth g 73, nth g 74, nth g 75, nth g 76, nth g 77, nth g 78, nth g 79, nth g 80, nth g 81, nth g 82, nth g 83, nth g 84, nth g 85, nth g 86, nth g 87, nth g 88, nth g 89, nth g 90, nth g 91, nth g 92, nth g 93, nth g 94, nth g 95, nth g 96, nth g 97, nth g 98, nth g 99, nth g 100, nth g 101, nth g 102, nth g 103, nth g 104, nth g 105, nth g 106, nth g 107, nth g 108, nth g 109, nth g 110, nth g 111, nth g 112, nth g 113, nth g 114, nth g 115, nth g 116, nth g 117, nth g 118, nth g 119] w) (fun m  g w hm hI => ⟨m, hm, g, rfl, hI⟩))
theorem calls (R : Ending → World → Prop) (m_0 : Option Addr) (e_1a : Option Addr) (e_1b : Nat) (e_1c : Nat) (e_1d : Option Addr) (e_1e : Nat) (e_1f : Nat) (sync_2 : Bool) (w : World) (h : vc R m_0 e_1a e_1b e_1c e_1d e_1e e_1f sync_2 w) : Calls Tryz.prog 19 #[.pointer m_0, .agg #[.slice e_1a e_1b e_1c, .slice e_1d e_1e e_1f], .bool sync_2] w R :=
  calls_V Tryz.func19 (Eq.mpr (by kernel_rfl) (h (fun m_0 seq_10 g w => atV Tryz.prog (bodyC Tryz.f19) [true, true, true, true, true, true, true, true, true, true, true, true, false, false] (retQ Tryz.prog Tryz.f19 R) [.pointer m_0, nth g 0, nth g 1, nth g 2, nth g 3, nth g 4, nth g 5, nth g 6, nth g 7, nth g 8, .int .u64 seq_10, nth g 9, nth g 10, nth g 11, nth g 12, nth g 13, nth g 14, nth g 15, nth g 16, nth g 17, nth g 18, nth g 19, nth g 20, nth g 21, nth g 22, nth g 23, nth g 24, nth g 25, nth g 26, nth g 27, nth g 28, nth g 29, nth g 30, nth g 31, nth g 32, nth g 33, nth g 34, nth g 35, nth g 36, nth g 37, nth g 38, nth g 39, nth g 40, nth g 41, nth g 42, nth g 43, nth g 44, nth g 45, nth g 46, nth g 47, nth g 48, nth g 49, nth g 50, nth g 51, nth g 52, nth g 53, nth g 54, nth g 55, nth g 56, nth g 57, nth g 58, nth g 59, nth g 60, nth g 61, nth g 62, nth g 63, nth g 64, nth g 65, nth g 66, nth g 67, nth g 68, nth g 69, nth g 70, nth g 71, nth g 72, nth g 73, nth g 74, nth g 75, nth g 76, nth g 77, nth g 78, nth g 79, nth g 80, nth g 81, nth g 82, nth g 83, nth g 84, nth g 85, nth g 86, nth g 87, nth g 88, nth g 89, nth g 90, nth g 91, nth g 92, nth g 93, nth g 94, nth g 95, nth g 96, nth g 97, nth g 98, nth g 99, nth g 100, nth g 101, nth g 102, nth g 103, nth g 104, nth g 105, nth g 106, nth g 107, nth g 108, nth g 109, nth g 110, nth g 111, nth g 112, nth g 113, nth g 114, nth g 115, nth g 116, nth g 117, nth g 118, nth g 119] w) (fun m_0 seq_10 g w h => at0 R m_0 seq_10 g w h)))
end model_Model_Ingest
end Go.Proofs.YtcofknlcdgidpaaGreatDoor
