/- Part 5 of a proof by parts: contracts of functions that the statement reaches, by the text that each is of. Conditions: as each states them. -/
import Derived.MapKept
import Derived.Test.YtcofknlcdgidpaaGreatDoorProg
import Derived.KernelRfl
import Derived.DeepKeys5
import Derived.Test.YtcofknlcdgidpaaGreatDoorZE4
/-! ## Ingest -/
namespace Go.Proofs.YtcofknlcdgidpaaGreatDoor
open Go Go.RowKit Go.Proofs.YtcofknlcdgidpaaGreatDoor.VC
set_option linter.unusedVariables false
set_option maxRecDepth 100000

theorem findNow_none (k : Nat) : ∀ (l : List KE) (i : Nat), (∀ x ∈ l, x.seq ≠ k) → Instr.findNow (.int .u64) (.int .u64 (k : Int)) (l.map KE.ent) i = some none
  | [], _, _ => rfl
  | x :: r, i, h => by
    have hx : ((k : Int) == (x.seq : Int)) = false := by have := h x (by simp); simp; omega
    show (match Instr.sameNow (.int .u64) (.int .u64 (k : Int)) (.int .u64 (x.seq : Int)) with | some true => some (some (i, x.ent.val)) | some false => Instr.findNow (.int .u64) (.int .u64 (k : Int)) (r.map KE.ent) (i + 1) | none => none) = some none
    have : Instr.sameNow (.int .u64) (.int .u64 (k : Int)) (.int .u64 (x.seq : Int)) = some false := by simp only [Instr.sameNow, if_true, hx]
    rw [this]
    exact findNow_none k r (i + 1) (fun y hy => h y (by simp [hy]))
theorem run_mapUpdate_new {w : World} {r clk k : Nat} {l : List KE} (hb : w.heap[r]? = some (.map (l.map KE.ent).toArray clk)) (hno : ∀ x ∈ l, x.seq ≠ k) (v : Value) :
    (Instr.mapUpdate 94 (.map (some r)) (.int .u64 (k : Int)) v).run Tryz.prog w = .ok () (Go.ChangeMaps.setBlock w r (.map ((l.map KE.ent).toArray.push { key := .int .u64 (k : Int), val := v, born := clk }) (clk + 1))) := by
  have hm : Tryz.prog.underlying 94 = some (.map 24 118) := by kernel_rfl
  have hk : Tryz.prog.underlying 24 = some (.int .u64) := by kernel_rfl
  have hc : (Instr.checkKey false 10000 24 (.int .u64 (k : Int))).run Tryz.prog w = .ok () w := MapKept.run_checkKey hk (by simp [MapKept.IsKey]) false 9999
  have hf := findNow_none k l 0 hno
  simp [Instr.mapUpdate, run_underlying hm, MapKept.run_getObj_map hb, hc, MapKept.run_findKey hk hf, MapKept.run_setObj_map _ hb, Result.andThen, Go.ChangeMaps.setBlock]
theorem unitV_ok {P : Program} {f : Sem Unit} {w w' : World} {K : World → Prop} (h : f.run P w = .ok () w') (k : K w') : unitV P f w K := by
  unfold unitV; rw [h]; exact k
theorem setBlock_grown (w : World) (r : Nat) (o : Obj) : w.grownBy (Go.ChangeMaps.setBlock w r o) (some r) :=
  ⟨rfl, rfl, rfl, by simp [Go.ChangeMaps.setBlock], fun k _ hk => by simp only [Go.ChangeMaps.setBlock]; rw [Array.getElem?_setIfInBounds_ne (fun e => hk (by rw [e]))]⟩
theorem map_ne_blk {w : World} {r b : Nat} {es : Array MapEntry} {clk : Nat} {e : TypeId} {cs : List Value} (h : w.heap[r]? = some (.map es clk)) (hb : Blk w b e cs) : b ≠ r := by
  rintro rfl
  unfold Blk at hb
  rw [h] at hb; cases hb
theorem map_ne_own {w : World} {r B size n : Nat} {es : Array MapEntry} {clk : Nat} {e : TypeId} {v : Value} {xs : List Value} (h : w.heap[r]? = some (.map es clk)) (ho : w.ownsRow B e size v n xs) : v.ownBlock ≠ some r := by
  rcases ho.2 with ⟨rfl, _⟩ | ⟨g, cap, cur, rfl, _, hg, _⟩
  · simp [Value.ownBlock]
  · intro e
    simp only [Value.ownBlock, Option.some.injEq] at e
    subst e
    rw [h] at hg; cases hg
/-- Stores into the model's own block. -/
theorem MAt.put {B : Nat} {M M' : ML} {s s' : MS} {w w' : World} (h : MAt B M s w) (hg : w.grownBy w' (some M.mb)) (hmb : M'.mb = M.mb) (hab : M'.ab = M.ab) (hsb : M'.sb = M.sb) (hac : M'.aclk = M.aclk) (hsc : M'.sclk = M.sclk) (hall : s'.all = s.all) (hsnd : s'.snd = s.snd)
    (hblk : Blk w' M.mb 97 (s'.cells M')) (hdst : w'.ownsRow B 63 7 (.slice M'.la s'.l.length M'.lc) s'.l.length (destCs s'.l)) (hpl : ∀ x ∈ s'.l, x.d.above = [])
    (hbeg : w'.ownsRow B 24 1 (.slice M'.ba s'.begins.length M'.bc) s'.begins.length (u64Cs s'.begins)) : MAt B M' s' w' :=
  { hm := by rw [hmb]; exact h.hm, ha := by rw [hab]; exact h.ha, hs := by rw [hsb]; exact h.hs, ne := by rw [hab, hsb]; exact h.ne, blk := by rw [hmb]; exact hblk, dst := hdst, pl := hpl,
    all := by rw [hab, hall, hac]; exact (hg.block _ (Array.getElem?_eq_some_iff.1 h.all).1 (by simp; exact (map_ne_blk h.all h.blk).symm)).trans h.all,
    snd := by rw [hsb, hsnd, hsc]; exact (hg.block _ (Array.getElem?_eq_some_iff.1 h.snd).1 (by simp; exact (map_ne_blk h.snd h.blk).symm)).trans h.snd, beg := hbeg }
theorem own_mset {w : World} {B size n mb : Nat} {e : TypeId} {v : Value} {xs cs : List Value} (h : w.ownsRow B e size v n xs) (hb : Blk w mb 97 cs) (he : e ≠ 97) {w' : World} (hg : w.grownBy w' (some mb)) : w'.ownsRow B e size v n xs :=
  h.kept hg (.inr (own_ne h hb he))

/-- All blocks of cells stay, but those of models. -/
def Keeps (w w' : World) : Prop := ∀ b ty cs, Blk w b ty cs → 97 ≠ ty → Blk w' b ty cs
theorem Keeps.below {w w' : World} (h : Below w.heap.size w w') : Keeps w w' := fun b ty cs hb _ => hb.below h hb.lt
theorem Keeps.trans {a b c : World} (h : Keeps a b) (h' : Keeps b c) : Keeps a c := fun k ty cs hb hn => h' k ty cs (h k ty cs hb hn) hn
theorem Keeps.grown {w w' : World} {mb : Nat} {cs : List Value} (h : Blk w mb 97 cs) (hg : w.grownBy w' (some mb)) : Keeps w w' := fun b ty cs' hb hn => hb.grown hg (fun e => by
  cases e
  unfold Blk at h hb
  rw [hb] at h
  injection h with h
  injection h with _ h
  exact hn h.symm)
theorem Keeps.map {w : World} {r : Nat} {es : Array MapEntry} {clk : Nat} (h : w.heap[r]? = some (.map es clk)) (o : Obj) : Keeps w (Go.ChangeMaps.setBlock w r o) := fun b ty cs hb _ => hb.grown (setBlock_grown w r o) (by simp; exact map_ne_blk h hb)

/-! ### set, Join -/
theorem model_set {B : Nat} {M : ML} {s : MS} (w0 : World) (h : MAt B M s w0) (first next : Nat) (l : List DestL) (hl : ∀ x ∈ l, x.d.above = []) (a : Option Addr) (c : Nat) (hd : w0.ownsRow B 63 7 (.slice a l.length c) l.length (destCs l)) :
    Calls Tryz.prog 41 #[.pointer (some ⟨M.mb, 0, none⟩), .agg #[.int .u64 first, .int .u64 next, .slice a l.length c], .int .i64 0] w0 (fun e w => e = .returned (.int .i64 0) ∧ MAt B { M with la := a, lc := c } { s with first := first, next := next, l := l } w ∧ Below B w0 w ∧ Keeps w0 w) := by
  apply model_Model_set.calls
  unfold model_Model_set.vc model_Model_set.t0
  refine allocV (cs := [.int .u64 first, .int .u64 next, .slice a l.length c]) ?_
  intro w2 h1 hb2 hs2
  have h2 := h.below hb2
  refine boolT rfl ⟨_, _, _, _, _, ⟨h1.cell (j := 0) rfl, h1.cell (j := 1) rfl, h1.cell (j := 2) rfl⟩, someV_some rfl ⟨?_, ?_⟩⟩
  · rw [Addr_add]; exact h2.blk.writable (by simp [MS.cells])
  rintro w9 rfl
  simp only [Addr_add, Nat.zero_add]
  have hblk9 := ((h2.blk.set 7 (.int .u64 first)).set 8 (.int .u64 next)).set 9 (.slice a l.length c)
  have hg : w2.grownBy _ (some M.mb) := gset (gset (gset (grown_refl w2 _) 7 (.int .u64 first)) 8 (.int .u64 next)) 9 (.slice a l.length c)
  refine ⟨trivial, h2.put hg rfl rfl rfl rfl rfl rfl rfl hblk9 ?_ hl ?_, ?_, (Keeps.below hb2).trans (Keeps.grown h2.blk hg)⟩
  · exact own_mset (own_below hd hb2) h2.blk (by decide) hg
  · exact own_mset h2.beg h2.blk (by decide) hg
  · exact (hb2.mono h.size).grown hg h2.size (fun k e => by cases e; exact h.hm)
theorem model_join {B : Nat} {M : ML} {s : MS} (w0 : World) (h : MAt B M s w0) (name : Txt) (hn : name.length < 9223372036854775807) (hl : s.l.length ≤ 429496729) (hok : joinErr (ds s.l) name = 0) :
    Calls Tryz.prog 17 #[.pointer (some ⟨M.mb, 0, none⟩), .string (S name)] w0 (fun e w => e = .returned (.int .i64 0) ∧ (∃ a c, MAt B { M with la := a, lc := c } { s with l := s.l ++ [newDest name s.next], durable := s.next } w) ∧ Below B w0 w) := by
  apply model_Model_Join.calls
  unfold model_Model_Join.vc model_Model_Join.t0
  refine someV_some rfl ⟨_, _, _, _, _, ⟨h.blk.cell (j := 7) rfl, h.blk.cell (j := 8) rfl, h.blk.cell (j := 9) rfl⟩, (ledger_join s.first s.next s.l hl name hn M.la M.lc w0 (RowAt.of_own h.dst)).mono ?_⟩
  rintro e w8 ⟨hb8, hr⟩
  rw [if_pos hok] at hr
  obtain ⟨a', c', rfl, ho⟩ := hr
  have h8 := h.below hb8
  have hlen : (s.l ++ [newDest name s.next]).length = s.l.length + 1 := by simp
  refine ⟨_, _, _, _, _, _, rfl, ?_⟩
  have hset := model_set w8 h8 s.first s.next (s.l ++ [newDest name s.next]) (fun x hx => by
    rcases List.mem_append.1 hx with hx | hx
    · exact h.pl x hx
    · simp at hx; subst hx; rfl) a' c' (by rw [hlen]; exact own_mono ho h.size)
  rw [hlen] at hset
  refine hset.mono ?_
  rintro e w16 ⟨rfl, h16, hb16, _⟩
  refine ⟨_, rfl, boolT rfl (someV_some rfl ⟨_, h16.blk.cell (j := 8) rfl, someV_some rfl ⟨?_, ?_⟩⟩)⟩
  · rw [Addr_add]; exact h16.blk.writable (by simp [MS.cells])
  rintro w21 rfl
  simp only [Addr_add, Nat.zero_add]
  have hg : w16.grownBy _ (some M.mb) := gset (grown_refl w16 _) 12 (.int .u64 s.next)
  refine ⟨trivial, ⟨a', c', h16.put (M' := { M with la := a', lc := c' }) (s' := { s with l := s.l ++ [newDest name s.next], durable := s.next }) hg rfl rfl rfl rfl rfl rfl rfl (h16.blk.set 12 (.int .u64 s.next)) (own_mset h16.dst h16.blk (by decide) hg) h16.pl (own_mset h16.beg h16.blk (by decide) hg)⟩, ?_⟩
  exact ((hb8.mono h.size).trans hb16).grown hg h16.size (fun k e => by cases e; exact h.hm)

/-! ### Ingest -/
theorem MAt.insert {B : Nat} {M : ML} {s : MS} {w : World} (h : MAt B M s w) (ke : KE) (hk : ke.born = M.aclk) :
    MAt B { M with aclk := M.aclk + 1 } { s with all := s.all ++ [ke] } (Go.ChangeMaps.setBlock w M.ab (.map ((s.all.map KE.ent).toArray.push { key := .int .u64 ke.seq, val := ke.val, born := M.aclk }) (M.aclk + 1))) := by
  have hg := setBlock_grown w M.ab (.map ((s.all.map KE.ent).toArray.push { key := .int .u64 ke.seq, val := ke.val, born := M.aclk }) (M.aclk + 1))
  have hlt := (Array.getElem?_eq_some_iff.1 h.all).1
  refine { h with blk := h.blk.grown hg (by simp; exact map_ne_blk h.all h.blk), dst := h.dst.kept hg (.inr (map_ne_own h.all h.dst)), all := ?_, snd := ?_, beg := h.beg.kept hg (.inr (map_ne_own h.all h.beg)) }
  · rw [heap_setBlock_same hlt]
    congr 2
    apply Array.ext'
    simp [KE.ent, hk]
  · rw [heap_setBlock_ne h.ne]; exact h.snd
theorem Stamps.snoc {l : List KE} {clk : Nat} (h : Stamps l clk) (ke : KE) (hk : ke.born = clk) : Stamps (l ++ [ke]) (clk + 1) := by
  refine ⟨?_, ?_⟩
  · rw [List.map_append, List.nodup_append]
    refine ⟨h.1, by simp, ?_⟩
    intro a ha b hb
    simp only [List.mem_map] at ha
    obtain ⟨x, hx, rfl⟩ := ha
    simp at hb; subst hb
    have := h.2 x hx; omega
  · intro x hx
    rcases List.mem_append.1 hx with hx | hx
    · have := h.2 x hx; omega
    · simp at hx; subst hx; omega
/-- A model takes an entry, where its active segment is new. -/
theorem model_ingest0 {B : Nat} {M : ML} {s : MS} (w0 : World) (h : MAt B M s w0) (ht : Tab w0) (hb0 : 1 < w0.heap.size) (x : Ent) (hx : EntOK x) (hc : entCheck x = 0) (a : Option Addr) (n c : Nat) (b : Option Addr) (m d : Nat) (he : EntAt w0 x a n c b m d)
    (hcl : s.closed = false) (hbg : s.begins = [s.next]) (hst : Stamps s.all M.aclk) (hno : ∀ k ∈ s.all, k.seq ≠ s.next) (hnx : s.next < 4294967296) (hl : s.l.length ≤ 429496729) :
    Calls Tryz.prog 19 #[.pointer (some ⟨M.mb, 0, none⟩), .agg #[.slice a n c, .slice b m d], .bool true] w0 (fun e w => e = .returned (.tuple #[.int .u64 s.next, .int .i64 0]) ∧ Below B w0 w ∧ ∃ la lc ke, ke.seq = s.next ∧ ke.size = frameSize s.next (entB x) ∧ ke.ser = labB x.labels ∧ ke.born = M.aclk ∧
      MAt B { M with la := la, lc := lc, aclk := M.aclk + 1 } { s with next := s.next + 1, all := s.all ++ [ke], durable := s.next + 1 } w) := by
  apply model_Model_Ingest.calls
  intro L0 hL
  unfold model_Model_Ingest.t0
  have hl0 : labCheck x.labels = 0 := by
    unfold entCheck at hc; split at hc
    · assumption
    · exact hc
  have hs0 : smpCheck x.samples = 0 := by
    unfold entCheck at hc; rw [if_pos hl0] at hc; exact hc
  have hbl : (entB x).length ≤ 1700 := by
    have l1 := labB_len hl0
    have l2 := smpB_len hx.vals (smpCheck_len hs0).2
    simp [entB]; omega
  refine allocV (cs := [.slice a n c, .slice b m d]) ?_
  intro w2 h1 hb2 hs2
  have M2 := h.below hb2
  refine someV_some rfl ⟨_, M2.blk.cell (j := 17) rfl, boolF hcl ⟨_, _, _, _, _, _, ⟨h1.cell (j := 0) rfl, h1.cell (j := 1) rfl⟩, (entry_put x hx a n c b m d w2 (he.below hb2 (Nat.le_refl _))).mono ?_⟩⟩
  rintro e w12 ⟨hb12, rfl⟩
  rw [if_pos hc]
  have M12 := M2.below hb12
  have h112 := h1.below hb12 h1.lt
  have hb12' := hb2.trans (hb12.mono hb2.size)
  refine ⟨_, _, rfl, boolF rfl (someV_some rfl ⟨_, M12.blk.cell (j := 8) rfl, (frame_size s.next (by omega) (entB x) (by omega) w12 (ht.below hb12' hb0) (Nat.lt_of_lt_of_le hb0 hb12'.size)).mono ?_⟩)⟩
  rintro e w18 ⟨rfl, hb18⟩
  have M18 := M12.below hb18
  have h118 := h112.below hb18 h112.lt
  have hb18' := hb12'.trans (hb18.mono hb12'.size)
  refine ⟨_, rfl, var4V ?_⟩
  intro w22 hv hb22 hs22
  have M22 := M18.below hb22
  have h122 := h118.below hb22 h118.lt
  have hb22' := hb18'.trans (hb22.mono hb18'.size)
  refine (entry_take (entB x) (by omega) w22).mono ?_
  rintro e w24 ⟨hb24, hr⟩
  have M24 := M22.below hb24
  have h124 := h122.below hb24 h122.lt
  have hv24 := hv.below hb24 hv.lt
  have hb24' := hb22'.trans (hb24.mono hb22'.size)
  obtain ⟨a25, n26, c27, a28, n29, c30, x31, rfl⟩ : ∃ a25 n26 c27 a28 n29 c30 x31, e = .returned (.tuple #[.agg #[.slice a25 n26 c27, .slice a28 n29 c30], .int .i64 x31]) := by
    cases hE : entTake (entB x) with
    | none => rw [hE] at hr; simp only at hr; exact ⟨_, _, _, _, _, _, _, hr⟩
    | some y => rw [hE] at hr; simp only at hr; obtain ⟨a, c, b, d, rfl, _⟩ := hr; exact ⟨_, _, _, _, _, _, _, rfl⟩
  have k1 := h118.lt
  have kb : ∀ k, k < w0.heap.size → k ≠ w18.heap.size := fun k hk => by have := hb18'.size; omega
  refine ⟨_, _, _, _, _, _, _, rfl, hv24.writable (by simp), ?_⟩
  rintro w32 rfl
  have hg32 : w24.grownBy _ (some w18.heap.size) := gset (gset (grown_refl w24 _) 0 (.slice a25 n26 c27)) 1 (.slice a28 n29 c30)
  have hv32 := (hv24.set 0 (.slice a25 n26 c27)).set 1 (.slice a28 n29 c30)
  have hb32 := below_grown hb24' hg32 hb24'.size hb18'.size
  have h132 := h124.grown hg32 (by simp; omega)
  refine ⟨_, _, _, _, _, _, ⟨h132.cell (j := 0) rfl, h132.cell (j := 1) rfl⟩, (entry_series x hx a n c b m d _ (he.below hb32 (Nat.le_refl _))).mono ?_⟩
  rintro e w40 ⟨hb40, rfl⟩
  rw [if_pos hl0]
  have hb40' := hb32.trans (hb40.mono hb32.size)
  have hv40 := hv32.below hb40 hv32.lt
  refine ⟨_, _, rfl, hv40.writable (o := 2) (by simp), ?_⟩
  rintro w43 rfl
  have hv43 := hv40.set 2 (.string (S (labB x.labels)))
  have hb43 := hb40'.setCell (p := ⟨w18.heap.size, 2, none⟩) hb18'.size (.string (S (labB x.labels)))
  have M43 : MAt B M s (w40.setCell ⟨w18.heap.size, 2, none⟩ (.string (S (labB x.labels)))) := h.below hb43
  obtain ⟨ke, hke⟩ : ∃ ke : KE, ke = ⟨s.next, a25, n26, c27, a28, n29, c30, labB x.labels, frameSize s.next (entB x), M.aclk⟩ := ⟨_, rfl⟩
  refine ⟨fun W => Blk W w18.heap.size 118 [.slice ke.a ke.n ke.c, .slice ke.b ke.m ke.d, .string (S ke.ser), .int .i64 ke.size], ?_⟩
  intro w45 e1 e2 e3 e4
  have hsb := same_below (w := w40.setCell ⟨w18.heap.size, 2, none⟩ (.string (S (labB x.labels)))) (w' := w45) (w40.setCell ⟨w18.heap.size, 2, none⟩ (.string (S (labB x.labels)))).heap.size e1 e2 e3 e4
  have M45 := M43.below hsb
  have hb45 := hb43.trans (hsb.mono hb43.size)
  have hv45 : Blk w45 w18.heap.size 118 [.slice ke.a ke.n ke.c, .slice ke.b ke.m ke.d, .string (S ke.ser), .int .i64 ke.size] := by rw [hke]; exact hv43.same e1
  refine ⟨hv45, (model_active w45 M45 (by rw [hbg]; simp) s.next (by rw [hbg]; rfl)).mono ?_⟩
  rintro e w47 ⟨rfl, hb47⟩
  have M47 := M45.below hb47
  have hv47 := hv45.below hb47 hv45.lt
  have hb47' := hb45.trans (hb47.mono hb45.size)
  refine ⟨_, rfl, hv47, boolF (by simp) ⟨fun W => Blk W w18.heap.size 118 [.slice ke.a ke.n ke.c, .slice ke.b ke.m ke.d, .string (S ke.ser), .int .i64 ke.size] ∧ W.cell? ⟨M.mb, 10, none⟩ = some (.map (some M.ab)), ?_⟩⟩
  intro w138 e1 e2 e3 e4
  have hsb2 := same_below (w := w47) (w' := w138) w47.heap.size e1 e2 e3 e4
  have M138 := M47.below hsb2
  have hb138 := hb47'.trans (hsb2.mono hb47'.size)
  have hv138 := hv47.same e1
  refine ⟨⟨hv138, M138.blk.cell (j := 10) rfl⟩, someV_some rfl ⟨_, fun W hW => by rw [Addr_add, Nat.zero_add]; exact hW.2, _, _, _, _, _, _, _, _, fun W hW => ⟨hW.1.cell (j := 0) rfl, hW.1.cell (j := 1) rfl, hW.1.cell (j := 2) rfl, hW.1.cell (j := 3) rfl⟩, ?_⟩⟩
  have hkn : ke.seq = s.next := by rw [hke]
  have hkb : ke.born = M.aclk := by rw [hke]
  have hmu := run_mapUpdate_new M138.all (k := s.next) hno ke.val
  refine unitV_ok hmu ?_
  have M149 := M138.insert ke hkb
  rw [hkn] at M149
  have hg149 := setBlock_grown w138 M.ab (.map ((s.all.map KE.ent).toArray.push { key := .int .u64 s.next, val := ke.val, born := M.aclk }) (M.aclk + 1))
  have hbB : Below B w0 (Go.ChangeMaps.setBlock w138 M.ab (.map ((s.all.map KE.ent).toArray.push { key := .int .u64 s.next, val := ke.val, born := M.aclk }) (M.aclk + 1))) := below_grown (hb138.mono h.size) hg149 M138.size h.ha
  obtain ⟨W, hW⟩ : ∃ W, W = Go.ChangeMaps.setBlock w138 M.ab (.map ((s.all.map KE.ent).toArray.push { key := .int .u64 s.next, val := ke.val, born := M.aclk }) (M.aclk + 1)) := ⟨_, rfl⟩
  rw [← hW] at M149 hbB ⊢
  refine someV_some rfl ⟨_, _, _, _, _, ⟨M149.blk.cell (j := 7) rfl, M149.blk.cell (j := 8) rfl, M149.blk.cell (j := 9) rfl⟩, (ledger_add s.first s.next (by omega) s.l (by omega) M.la M.lc W (RowAt.of_own M149.dst)).mono ?_⟩
  rintro e w157 ⟨a', c', rfl, ho, hb157⟩
  have M157 := M149.below hb157
  refine ⟨_, _, _, _, _, rfl, someV_some rfl ⟨?_, ?_⟩⟩
  · rw [Addr_add]; exact M157.blk.writable (by simp [MS.cells])
  rintro w164 rfl
  simp only [Addr_add, Nat.zero_add]
  have hg164 : w157.grownBy _ (some M.mb) := gset (gset (gset (grown_refl w157 _) 7 (.int .u64 s.first)) 8 (.int .u64 ((s.next + 1 : Nat) : Int))) 9 (.slice a' s.l.length c')
  have hblk164 := ((M157.blk.set 7 (.int .u64 s.first)).set 8 (.int .u64 ((s.next + 1 : Nat) : Int))).set 9 (.slice a' s.l.length c')
  have M164 := M157.put (M' := { M with la := a', lc := c', aclk := M.aclk + 1 }) (s' := { s with next := s.next + 1, all := s.all ++ [ke] }) hg164 rfl rfl rfl rfl rfl rfl rfl hblk164 (own_mset (own_mono ho M149.size) M157.blk (by decide) hg164) M157.pl (own_mset M157.beg M157.blk (by decide) hg164)
  have hb164 := below_grown (hbB.trans (hb157.mono M149.size)) hg164 M157.size h.hm
  refine boolT rfl (someV_some rfl ⟨_, M164.blk.cell (j := 8) rfl, someV_some rfl ⟨?_, ?_⟩⟩)
  · exact M164.blk.writable (by simp [MS.cells])
  rintro w168 rfl
  have hg168 := gset (grown_refl _ (some M.mb)) 12 (.int .u64 ((s.next + 1 : Nat) : Int)) (w := w157.setCell ⟨M.mb, 7, none⟩ (.int .u64 s.first) |>.setCell ⟨M.mb, 8, none⟩ (.int .u64 ((s.next + 1 : Nat) : Int)) |>.setCell ⟨M.mb, 9, none⟩ (.slice a' s.l.length c'))
  have M168 := M164.put (M' := { M with la := a', lc := c', aclk := M.aclk + 1 }) (s' := { s with next := s.next + 1, all := s.all ++ [ke], durable := s.next + 1 }) hg168 rfl rfl rfl rfl rfl rfl rfl (M164.blk.set 12 (.int .u64 ((s.next + 1 : Nat) : Int))) (own_mset M164.dst M164.blk (by decide) hg168) M164.pl (own_mset M164.beg M164.blk (by decide) hg168)
  have hb168 := below_grown hb164 hg168 M164.size h.hm
  refine hL _ _ _ _ ⟨fun _ w => MAt B { M with la := a', lc := c', aclk := M.aclk + 1 } { s with next := s.next + 1, all := s.all ++ [ke], durable := s.next + 1 } w ∧ Below B w0 w, 0, ⟨M168, hb168⟩, ?_⟩
  rintro m g w ⟨MW, hbW⟩ Back hback
  unfold model_Model_Ingest.t1
  refine ⟨fun W => MAt B { M with la := a', lc := c', aclk := M.aclk + 1 } { s with next := s.next + 1, all := s.all ++ [ke], durable := s.next + 1 } W, ?_⟩
  intro w2' e1 e2 e3 e4
  have hsb3 := same_below (w := w) (w' := w2') w.heap.size e1 e2 e3 e4
  have MW2 := MW.below hsb3
  refine ⟨MW2, someV_some rfl ⟨_, _, _, fun W hW => hW.blk.cell (j := 11) rfl, boolF (by rw [hbg]; rfl) ⟨rfl, hbW.trans (hsb3.mono MW.size), a', c', ke, hkn, by rw [hke], by rw [hke], hkb, MW2⟩⟩⟩
end Go.Proofs.YtcofknlcdgidpaaGreatDoor
/-! ## GslicesIndexFuncuint64uint64 -/
namespace Go.Proofs.YtcofknlcdgidpaaGreatDoor
open Go Go.Proofs.YtcofknlcdgidpaaGreatDoor.VC
set_option linter.unusedVariables false
set_option maxRecDepth 100000
set_option maxHeartbeats 0

/-! ### slices.IndexFunc[[]uint64,uint64]: function 109 -/
namespace slices_IndexFunc_uint64_uint64
def t1 (R : Ending → World → Prop)  (Back0 : Int → List Value → World → Prop)  (s_0a : Option Addr) (s_0b : Nat) (s_0c : Nat) (f_1 : Value) (x_7 : Int) (x_8 : Int) (g : List Value) (w : World) : Prop := boolV (decide (x_8 < x_7)) (someV s_0a (fun p1 => (0 ≤ x_8 ∧ x_8 < (s_0b : Nat)) ∧ (∃ x2 : Int, w.cell? (p1.add (x_8.toNat * 1)) = some (.int .u64 x2) ∧ (funcV f_1 (fun g5 first6 captured7 => goodCall Tryz.prog g5 (Calls Tryz.prog g5 (first6.toList ++ ([.int .u64 x2] : List Value) ++ captured7.toList).toArray w (fun e3 w4 => ∃ t8 : Bool, e3 = .returned (.bool t8) ∧ (boolV t8 (R (.returned (.int .i64 x_8)) w4) (Back0 (IntKind.wrap .i64 (x_8 + 1)) [nth g 0, nth g 1, nth g 2, .int .i64 x_8, nth g 4, .bool (decide (x_8 < x_7)), .int .i64 x_8, f_1, .slice s_0a s_0b s_0c, .int .i64 x_8, .pointer (some (p1.add (x_8.toNat * 1))), .int .u64 x2, .bool t8, nth g 13, .int .i64 (IntKind.wrap .i64 (x_8 + 1))] w4))))))))) (R (.returned (.int .i64 (-1))) w)
def W0 (R : Ending → World → Prop)  (s_0a : Option Addr) (s_0b : Nat) (s_0c : Nat) (f_1 : Value) (x_7 : Int) (x_8 : Int) (w : World) : Prop := ∃ (I : Nat → Int → World → Prop) (n : Nat), I n x_8 w ∧ ∀ (n : Nat) (x_8 : Int) (g : List Value) (w : World), I n x_8 w → ∀ (Back0 : Int → List Value → World → Prop), (∀ (m : Nat) (x_8 : Int) (g : List Value) (w : World), m < n → I m x_8 w → Back0 x_8 g w) → t1 R  Back0  s_0a s_0b s_0c f_1 x_7 x_8 g w
def t0 (R : Ending → World → Prop) (L0 : (Option Addr) → Nat → Nat → Value → Int → Int → List Value → World → Prop) (s_0a : Option Addr) (s_0b : Nat) (s_0c : Nat) (f_1 : Value) (w : World) : Prop := L0 s_0a s_0b s_0c f_1 ((s_0b : Nat) : Int) 0 [undef, undef, .int .i64 0, undef, .slice s_0a s_0b s_0c, undef, undef, undef, undef, undef, undef, undef, undef, undef, undef] w
def vc (R : Ending → World → Prop) (s_0a : Option Addr) (s_0b : Nat) (s_0c : Nat) (f_1 : Value) (w : World) : Prop := ∀ (L0 : (Option Addr) → Nat → Nat → Value → Int → Int → List Value → World → Prop), (∀ s_0a s_0b s_0c f_1 x_7 x_8 g w, W0 R s_0a s_0b s_0c f_1 x_7 x_8 w → L0 s_0a s_0b s_0c f_1 x_7 x_8 g w) → t0 R L0 s_0a s_0b s_0c f_1 w
theorem at0 (R : Ending → World → Prop) (s_0a : Option Addr) (s_0b : Nat) (s_0c : Nat) (f_1 : Value) (x_7 : Int) (x_8 : Int) (g : List Value) (w : World) (h : W0 R  s_0a s_0b s_0c f_1 x_7 x_8 w) : atV Tryz.prog (bodyC Tryz.f109) [true, false, true, false] (retQ Tryz.prog Tryz.f109 R) [.slice s_0a s_0b s_0c, f_1, nth g 0, nth g 1, nth g 2, nth g 3, nth g 4, .int .i64 x_7, .int .i64 x_8, nth g 5, nth g 6, nth g 7, nth g 8, nth g 9, nth g 10, nth g 11, nth g 12, nth g 13, nth g 14] w := by
  obtain ⟨I, n0, h0, hs⟩ := h
  refine atV_loop (by kernel_rfl) (fun n s w => ∃ (x_8 : Int) (g : List Value), s = [.slice s_0a s_0b s_0c, f_1, nth g 0, nth g 1, nth g 2, nth g 3, nth g 4, .int .i64 x_7, .int .i64 x_8, nth g 5, nth g 6, nth g 7, nth g 8, nth g 9, nth g 10, nth g 11, nth g 12, nth g 13, nth g 14] ∧ I n x_8 w) n0 ⟨_, _, rfl, h0⟩ ?_
  rintro n s w ⟨x_8, g, rfl, hI⟩
  exact Eq.mpr (by kernel_rfl) (hs n x_8 g w hI (fun x_8 g w => (backQ (fun n s w => ∃ (x_8 : Int) (g : List Value), s = [.slice s_0a s_0b s_0c, f_1, nth g 0, nth g 1, nth g 2, nth g 3, nth g 4, .int .i64 x_7, .int .i64 x_8, nth g 5, nth g 6, nth g 7, nth g 8, nth g 9, nth g 10, nth g 11, nth g 12, nth g 13, nth g 14] ∧ I n x_8 w) n (ctxQ Tryz.prog (bodyC Tryz.f109) [true, false, true, false] (retQ Tryz.prog Tryz.f109 R))) .normal [.slice s_0a s_0b s_0c, f_1, nth g 0, nth g 1, nth g 2, nth g 3, nth g 4, .int .i64 x_7, .int .i64 x_8, nth g 5, nth g 6, nth g 7, nth g 8, nth g 9, nth g 10, nth g 11, nth g 12, nth g 13, nth g 14] w) (fun m x_8 g w hm hI => ⟨m, hm, x_8, g, rfl, hI⟩))
theorem calls (R : Ending → World → Prop) (s_0a : Option Addr) (s_0b : Nat) (s_0c : Nat) (f_1 : Value) (w : World) (h : vc R s_0a s_0b s_0c f_1 w) : Calls Tryz.prog 109 #[.slice s_0a s_0b s_0c, f_1] w R :=
  calls_V Tryz.func109 (Eq.mpr (by kernel_rfl) (h (fun s_0a s_0b s_0c f_1 x_7 x_8 g w => atV Tryz.prog (bodyC Tryz.f109) [true, false, true, false] (retQ Tryz.prog Tryz.f109 R) [.slice s_0a s_0b s_0c, f_1, nth g 0, nth g 1, nth g 2, nth g 3, nth g 4, .int .i64 x_7, .int .i64 x_8, nth g 5, nth g 6, nth g 7, nth g 8, nth g 9, nth g 10, nth g 11, nth g 12, nth g 13, nth g 14] w) (fun s_0a s_0b s_0c f_1 x_7 x_8 g w h => at0 R s_0a s_0b s_0c f_1 x_7 x_8 g w h)))
end slices_IndexFunc_uint64_uint64
end Go.Proofs.YtcofknlcdgidpaaGreatDoor
/-! ## GslicesDeleteFuncuint64uint64 -/
namespace Go.Proofs.YtcofknlcdgidpaaGreatDoor
open Go Go.Proofs.YtcofknlcdgidpaaGreatDoor.VC
set_option linter.unusedVariables false
set_option maxRecDepth 100000
set_option maxHeartbeats 0

/-! ### slices.DeleteFunc[[]uint64,uint64]: function 76 -/
namespace slices_DeleteFunc_uint64_uint64
def t1 (R : Ending → World → Prop)  (Back0 : Int → Int → List Value → World → Prop)  (s_0a : Option Addr) (s_0b : Nat) (s_0c : Nat) (del_1 : Value) (i_5 : Int) (j_6 : Int) (g : List Value) (w : World) : Prop := boolV (decide (j_6 < ((s_0b : Nat) : Int))) (someV s_0a (fun p1 => (0 ≤ j_6 ∧ j_6 < (s_0b : Nat)) ∧ (∃ x2 : Int, w.cell? (p1.add (j_6.toNat * 1)) = some (.int .u64 x2) ∧ (funcV del_1 (fun g5 first6 captured7 => goodCall Tryz.prog g5 (Calls Tryz.prog g5 (first6.toList ++ ([.int .u64 x2] : List Value) ++ captured7.toList).toArray w (fun e3 w4 => ∃ t8 : Bool, e3 = .returned (.bool t8) ∧ (boolV (!t8) (someV s_0a (fun p9 => (0 ≤ i_5 ∧ i_5 < (s_0b : Nat)) ∧ (Writable w4 (p9.add (i_5.toNat * 1)) 1 ∧ ∀ w10 : World, w10 = World.setCell w4 (p9.add (i_5.toNat * 1)) (.int .u64 x2) → Back0 (IntKind.wrap .i64 (i_5 + 1)) (IntKind.wrap .i64 (j_6 + 1)) [nth g 0, nth g 1, nth g 2, .int .u64 x2, nth g 4, nth g 5, nth g 6, nth g 7, nth g 8, nth g 9, nth g 10, nth g 11, .int .i64 j_6, .slice s_0a s_0b s_0c, .int .i64 ((s_0b : Nat) : Int), .bool (decide (j_6 < ((s_0b : Nat) : Int))), .int .i64 j_6, .int .i64 (IntKind.wrap .i64 (j_6 + 1)), .slice s_0a s_0b s_0c, .int .i64 j_6, .pointer (some (p1.add (j_6.toNat * 1))), .int .u64 x2, del_1, .int .u64 x2, .bool t8, .bool (!t8), .slice s_0a s_0b s_0c, .int .i64 i_5, .int .u64 x2, .pointer (some (p9.add (i_5.toNat * 1))), .int .i64 i_5, .int .i64 (IntKind.wrap .i64 (i_5 + 1)), nth g 32, nth g 33, nth g 34, nth g 35, nth g 36, nth g 37] w10))) (Back0 i_5 (IntKind.wrap .i64 (j_6 + 1)) [nth g 0, nth g 1, nth g 2, .int .u64 x2, nth g 4, nth g 5, nth g 6, nth g 7, nth g 8, nth g 9, nth g 10, nth g 11, .int .i64 j_6, .slice s_0a s_0b s_0c, .int .i64 ((s_0b : Nat) : Int), .bool (decide (j_6 < ((s_0b : Nat) : Int))), .int .i64 j_6, .int .i64 (IntKind.wrap .i64 (j_6 + 1)), .slice s_0a s_0b s_0c, .int .i64 j_6, .pointer (some (p1.add (j_6.toNat * 1))), .int .u64 x2, del_1, .int .u64 x2, .bool t8, .bool (!t8), nth g 26, nth g 27, nth g 28, nth g 29, nth g 30, nth g 31, nth g 32, nth g 33, nth g 34, nth g 35, nth g 36, nth g 37] w4))))))))) ((0 ≤ i_5 ∧ i_5 ≤ (s_0b : Nat)) ∧ ∀ a11, a11 = sliceAddr s_0a s_0c i_5.toNat 1 → runV Tryz.prog (Builtin.clear_ #[61] 0 #[.slice a11 (s_0b - i_5.toNat) (s_0c - i_5.toNat)]) w (fun v12 w13 => v12 = .tuple #[] ∧ ((0 ≤ i_5 ∧ i_5 ≤ (s_0c : Nat)) ∧ (R (.returned (.slice s_0a i_5.toNat s_0c)) w13))))
def W0 (R : Ending → World → Prop)  (s_0a : Option Addr) (s_0b : Nat) (s_0c : Nat) (del_1 : Value) (i_5 : Int) (j_6 : Int) (w : World) : Prop := ∃ (I : Nat → Int → Int → World → Prop) (n : Nat), I n i_5 j_6 w ∧ ∀ (n : Nat) (i_5 : Int) (j_6 : Int) (g : List Value) (w : World), I n i_5 j_6 w → ∀ (Back0 : Int → Int → List Value → World → Prop), (∀ (m : Nat) (i_5 : Int) (j_6 : Int) (g : List Value) (w : World), m < n → I m i_5 j_6 w → Back0 i_5 j_6 g w) → t1 R  Back0  s_0a s_0b s_0c del_1 i_5 j_6 g w
def t0 (R : Ending → World → Prop) (L0 : (Option Addr) → Nat → Nat → Value → Int → Int → List Value → World → Prop) (s_0a : Option Addr) (s_0b : Nat) (s_0c : Nat) (del_1 : Value) (w : World) : Prop := Calls Tryz.prog 109 #[.slice s_0a s_0b s_0c, del_1] w (fun e1 w2 => ∃ x3 : Int, e1 = .returned (.int .i64 x3) ∧ (boolV (x3 == ((-1) : Int)) (R (.returned (.slice s_0a s_0b s_0c)) w2) (L0 s_0a s_0b s_0c del_1 x3 (IntKind.wrap .i64 (x3 + 1)) [undef, undef, .slice none 0 0, undef, .slice s_0a s_0b s_0c, del_1, .int .i64 x3, .int .i64 x3, .bool (x3 == ((-1) : Int)), undef, .int .i64 x3, .int .i64 (IntKind.wrap .i64 (x3 + 1)), undef, undef, undef, undef, undef, undef, undef, undef, undef, undef, undef, undef, undef, undef, undef, undef, undef, undef, undef, undef, undef, undef, undef, undef, undef, undef] w2)))
def vc (R : Ending → World → Prop) (s_0a : Option Addr) (s_0b : Nat) (s_0c : Nat) (del_1 : Value) (w : World) : Prop := ∀ (L0 : (Option Addr) → Nat → Nat → Value → Int → Int → List Value → World → Prop), (∀ s_0a s_0b s_0c del_1 i_5 j_6 g w, W0 R s_0a s_0b s_0c del_1 i_5 j_6 w → L0 s_0a s_0b s_0c del_1 i_5 j_6 g w) → t0 R L0 s_0a s_0b s_0c del_1 w
theorem at0 (R : Ending → World → Prop) (s_0a : Option Addr) (s_0b : Nat) (s_0c : Nat) (del_1 : Value) (i_5 : Int) (j_6 : Int) (g : List Value) (w : World) (h : W0 R  s_0a s_0b s_0c del_1 i_5 j_6 w) : atV Tryz.prog (bodyC Tryz.f76) [true, true, true, false, true, false] (retQ Tryz.prog Tryz.f76 R) [.slice s_0a s_0b s_0c, del_1, nth g 0, nth g 1, nth g 2, .int .i64 i_5, .int .i64 j_6, nth g 3, nth g 4, nth g 5, nth g 6, nth g 7, nth g 8, nth g 9, nth g 10, nth g 11, nth g 12, nth g 13, nth g 14, nth g 15, nth g 16, nth g 17, nth g 18, nth g 19, nth g 20, nth g 21, nth g 22, nth g 23, nth g 24, nth g 25, nth g 26, nth g 27, nth g 28, nth g 29, nth g 30, nth g 31, nth g 32, nth g 33, nth g 34, nth g 35, nth g 36, nth g 37] w := by
  obtain ⟨I, n0, h0, hs⟩ := h
  refine atV_loop (by kernel_rfl) (fun n s w => ∃ (i_5 : Int) (j_6 : Int) (g : List Value), s = [.slice s_0a s_0b s_0c, del_1, nth g 0, nth g 1, nth g 2, .int .i64 i_5, .int .i64 j_6, nth g 3, nth g 4, nth g 5, nth g 6, nth g 7, nth g 8, nth g 9, nth g 10, nth g 11, nth g 12, nth g 13, nth g 14, nth g 15, nth g 16, nth g 17, nth g 18, nth g 19, nth g 20, nth g 21, nth g 22, nth g 23, nth g 24, nth g 25, nth g 26, nth g 27, nth g 28, nth g 29, nth g 30, nth g 31, nth g 32, nth g 33, nth g 34, nth g 35, nth g 36, nth g 37] ∧ I n i_5 j_6 w) n0 ⟨_, _, _, rfl, h0⟩ ?_
  rintro n s w ⟨i_5, j_6, g, rfl, hI⟩
  exact Eq.mpr (by kernel_rfl) (hs n i_5 j_6 g w hI (fun i_5 j_6 g w => (backQ (fun n s w => ∃ (i_5 : Int) (j_6 : Int) (g : List Value), s = [.slice s_0a s_0b s_0c, del_1, nth g 0, nth g 1, nth g 2, .int .i64 i_5, .int .i64 j_6, nth g 3, nth g 4, nth g 5, nth g 6, nth g 7, nth g 8, nth g 9, nth g 10, nth g 11, nth g 12, nth g 13, nth g 14, nth g 15, nth g 16, nth g 17, nth g 18, nth g 19, nth g 20, nth g 21, nth g 22, nth g 23, nth g 24, nth g 25, nth g 26, nth g 27, nth g 28, nth g 29, nth g 30, nth g 31, nth g 32, nth g 33, nth g 34, nth g 35, nth g 36, nth g 37] ∧ I n i_5 j_6 w) n (ctxQ Tryz.prog (bodyC Tryz.f76) [true, true, true, false, true, false] (retQ Tryz.prog Tryz.f76 R))) .normal [.slice s_0a s_0b s_0c, del_1, nth g 0, nth g 1, nth g 2, .int .i64 i_5, .int .i64 j_6, nth g 3, nth g 4, nth g 5, nth g 6, nth g 7, nth g 8, nth g 9, nth g 10, nth g 11, nth g 12, nth g 13, nth g 14, nth g 15, nth g 16, nth g 17, nth g 18, nth g 19, nth g 20, nth g 21, nth g 22, nth g 23, nth g 24, nth g 25, nth g 26, nth g 27, nth g 28, nth g 29, nth g 30, nth g 31, nth g 32, nth g 33, nth g 34, nth g 35, nth g 36, nth g 37] w) (fun m i_5 j_6 g w hm hI => ⟨m, hm, i_5, j_6, g, rfl, hI⟩))
theorem calls (R : Ending → World → Prop) (s_0a : Option Addr) (s_0b : Nat) (s_0c : Nat) (del_1 : Value) (w : World) (h : vc R s_0a s_0b s_0c del_1 w) : Calls Tryz.prog 76 #[.slice s_0a s_0b s_0c, del_1] w R :=
  calls_V Tryz.func76 (Eq.mpr (by kernel_rfl) (h (fun s_0a s_0b s_0c del_1 i_5 j_6 g w => atV Tryz.prog (bodyC Tryz.f76) [true, true, true, false, true, false] (retQ Tryz.prog Tryz.f76 R) [.slice s_0a s_0b s_0c, del_1, nth g 0, nth g 1, nth g 2, .int .i64 i_5, .int .i64 j_6, nth g 3, nth g 4, nth g 5, nth g 6, nth g 7, nth g 8, nth g 9, nth g 10, nth g 11, nth g 12, nth g 13, nth g 14, nth g 15, nth g 16, nth g 17, nth g 18, nth g 19, nth g 20, nth g 21, nth g 22, nth g 23, nth g 24, nth g 25, nth g 26, nth g 27, nth g 28, nth g 29, nth g 30, nth g 31, nth g 32, nth g 33, nth g 34, nth g 35, nth g 36, nth g 37] w) (fun s_0a s_0b s_0c del_1 i_5 j_6 g w h => at0 R s_0a s_0b s_0c del_1 i_5 j_6 g w h)))
end slices_DeleteFunc_uint64_uint64
end Go.Proofs.YtcofknlcdgidpaaGreatDoor
/-! ## GmodelModelwaiting -/
namespace Go.Proofs.YtcofknlcdgidpaaGreatDoor
open Go Go.Proofs.YtcofknlcdgidpaaGreatDoor.VC
set_option linter.unusedVariables false
set_option maxRecDepth 100000
set_option maxHeartbeats 0

/-! ### (*postroom/model.Model).waiting: function 40 -/
namespace model_Model_waiting
def t0 (R : Ending → World → Prop)  (m_0 : Option Addr) (p_1a : ByteArray) (p_1b : Int) (w : World) : Prop := ∀ (b1 : Nat) (w2 : World), b1 = w.heap.size → w2 = World.alloc w (.cells #[.pointer m_0] 30) → ∀ (b3 : Nat) (w4 : World), b3 = w2.heap.size → w4 = World.alloc w2 (.cells #[.string p_1a, .int .i64 p_1b] 86) → ∃ S5 : World → Prop, (∀ w6 : World, w6.heap = w4.heap → w6.tape = w4.tape → w6.os = w4.os → w6.output = w4.output → S5 w6 ∧ (∃ q7 : Option Addr, (∀ w, S5 w → w.cell? ⟨b1, 0, none⟩ = some (.pointer q7)) ∧ (someV q7 (fun p8 => ∃ x9 : Int, ∃ x10 : Int, ∃ (a11 : Option Addr) (n12 c13 : Nat), (∀ w, S5 w → w.cell? (p8.add 7) = some (.int .u64 x9) ∧ w.cell? ((p8.add 7).add 1) = some (.int .u64 x10) ∧ w.cell? ((p8.add 7).add 2) = some (.slice a11 n12 c13)) ∧ (∃ s14 : ByteArray, (∀ w, S5 w → w.cell? ⟨b3, 0, none⟩ = some (.string s14)) ∧ (Calls Tryz.prog 22 #[.agg #[.int .u64 x9, .int .u64 x10, .slice a11 n12 c13], .string s14] w6 (fun e15 w16 => ∃ (a17 : Option Addr) (n18 c19 : Nat), e15 = .returned (.slice a17 n18 c19) ∧ (S5 w16 ∧ (Calls Tryz.prog 76 #[.slice a17 n18 c19, .func (.func 77) #[] #[.pointer (some ⟨b1, 0, none⟩), .pointer (some ⟨b3, 0, none⟩)]] w16 (fun e20 w21 => ∃ (a22 : Option Addr) (n23 c24 : Nat), e20 = .returned (.slice a22 n23 c24) ∧ (S5 w21 ∧ (R (.returned (.slice a22 n23 c24)) w21))))))))))))
def vc (R : Ending → World → Prop) (m_0 : Option Addr) (p_1a : ByteArray) (p_1b : Int) (w : World) : Prop := t0 R  m_0 p_1a p_1b w
theorem calls (R : Ending → World → Prop) (m_0 : Option Addr) (p_1a : ByteArray) (p_1b : Int) (w : World) (h : vc R m_0 p_1a p_1b w) : Calls Tryz.prog 40 #[.pointer m_0, .agg #[.string p_1a, .int .i64 p_1b]] w R :=
  calls_V Tryz.func40 (Eq.mpr (by kernel_rfl) (h))
end model_Model_waiting
end Go.Proofs.YtcofknlcdgidpaaGreatDoor
/-! ## GmodelModelwaiting1 -/
namespace Go.Proofs.YtcofknlcdgidpaaGreatDoor
open Go Go.Proofs.YtcofknlcdgidpaaGreatDoor.VC
set_option linter.unusedVariables false
set_option maxRecDepth 100000
set_option maxHeartbeats 0

/-! ### (*postroom/model.Model).waiting$1: function 77 -/
namespace model_Model_waiting_1
def t0 (R : Ending → World → Prop)  (seq_0 : Int) (x_1 : Option Addr) (x_2 : Option Addr) (w : World) : Prop := ∃ S1 : World → Prop, (∀ w2 : World, w2.heap = w.heap → w2.tape = w.tape → w2.os = w.os → w2.output = w.output → S1 w2 ∧ (someV x_1 (fun p3 => ∃ q4 : Option Addr, (∀ w, S1 w → w.cell? p3 = some (.pointer q4)) ∧ (someV q4 (fun p5 => ∃ x6 : Int, (∀ w, S1 w → w.cell? (p5.add 12) = some (.int .u64 x6)) ∧ (boolV (decide (seq_0 ≥ x6)) (R (.returned (.bool true)) w2) (someV x_1 (fun p7 => ∃ q8 : Option Addr, (∀ w, S1 w → w.cell? p7 = some (.pointer q8)) ∧ (someV q8 (fun p9 => ∃ r10 : Option Nat, (∀ w, S1 w → w.cell? (p9.add 10) = some (.map r10)) ∧ (someV x_1 (fun p11 => ∃ q12 : Option Addr, (∀ w, S1 w → w.cell? p11 = some (.pointer q12)) ∧ (someV q12 (fun p13 => ∃ x14 : Int, (∀ w, S1 w → w.cell? (p13.add 13) = some (.int .i64 x14)) ∧ (someV x_2 (fun p15 => ∃ x16 : Int, (∀ w, S1 w → w.cell? (p15.add 1) = some (.int .i64 x16)) ∧ (runV Tryz.prog (Instr.lookup 94 (.map r10) (.int .u64 seq_0) false) w2 (fun v17 w18 => ∃ (a19 : Option Addr) (n20 c21 : Nat), ∃ (a22 : Option Addr) (n23 c24 : Nat), ∃ s25 : ByteArray, ∃ x26 : Int, v17 = .agg #[.slice a19 n20 c21, .slice a22 n23 c24, .string s25, .int .i64 x26] ∧ (S1 w18 ∧ (Calls Tryz.prog 78 #[.string s25, .int .i64 x14] w18 (fun e27 w28 => ∃ x29 : Int, e27 = .returned (.int .i64 x29) ∧ (S1 w28 ∧ (R (.returned (.bool (x29 != x16))) w28)))))))))))))))))))))))
def vc (R : Ending → World → Prop) (seq_0 : Int) (x_1 : Option Addr) (x_2 : Option Addr) (w : World) : Prop := t0 R  seq_0 x_1 x_2 w
theorem calls (R : Ending → World → Prop) (seq_0 : Int) (x_1 : Option Addr) (x_2 : Option Addr) (w : World) (h : vc R seq_0 x_1 x_2 w) : Calls Tryz.prog 77 #[.int .u64 seq_0, .pointer x_1, .pointer x_2] w R :=
  calls_V Tryz.func77 (Eq.mpr (by kernel_rfl) (h))
end model_Model_waiting_1
end Go.Proofs.YtcofknlcdgidpaaGreatDoor
/-! ## GmodelModelcheck -/
namespace Go.Proofs.YtcofknlcdgidpaaGreatDoor
open Go Go.Proofs.YtcofknlcdgidpaaGreatDoor.VC
set_option linter.unusedVariables false
set_option maxRecDepth 100000
set_option maxHeartbeats 0

/-! ### (*postroom/model.Model).check: function 72 -/
namespace model_Model_check
def t0 (R : Ending → World → Prop)  (m_0 : Option Addr) (p_1a : ByteArray) (p_1b : Int) (w : World) : Prop := ∀ (b1 : Nat) (w2 : World), b1 = w.heap.size → w2 = World.alloc w (.cells #[.string p_1a, .int .i64 p_1b] 86) → ∃ S3 : World → Prop, (∀ w4 : World, w4.heap = w2.heap → w4.tape = w2.tape → w4.os = w2.os → w4.output = w2.output → S3 w4 ∧ (someV m_0 (fun p5 => ∃ x6 : Int, ∃ x7 : Int, ∃ (a8 : Option Addr) (n9 c10 : Nat), (∀ w, S3 w → w.cell? (p5.add 7) = some (.int .u64 x6) ∧ w.cell? ((p5.add 7).add 1) = some (.int .u64 x7) ∧ w.cell? ((p5.add 7).add 2) = some (.slice a8 n9 c10)) ∧ (∃ s11 : ByteArray, (∀ w, S3 w → w.cell? ⟨b1, 0, none⟩ = some (.string s11)) ∧ ((Calls Tryz.prog 54 #[.agg #[.int .u64 x6, .int .u64 x7, .slice a8 n9 c10], .string s11] w4 (fun e12 w13 => ∃ s14 : ByteArray, ∃ x15 : Int, ∃ x16 : Int, ∃ (a17 : Option Addr) (n18 c19 : Nat), ∃ x20 : Int, ∃ x21 : Int, ∃ x22 : Int, ∃ t23 : Bool, e12 = .returned (.tuple #[.agg #[.string s14, .int .u64 x15, .int .u64 x16, .slice a17 n18 c19, .int .u64 x20, .int .u64 x21, .int .u64 x22], .bool t23]) ∧ (S3 w13 ∧ (∀ (b24 : Nat) (w25 : World), b24 = w13.heap.size → w25 = World.alloc w13 (.cells #[.string ByteArray.empty, .int .u64 0, .int .u64 0, .slice none 0 0, .int .u64 0, .int .u64 0, .int .u64 0] 63) → S3 w25 ∧ (Writable w25 ⟨b24, 0, none⟩ 7 ∧ ∀ w26 : World, w26 = World.setCell (World.setCell (World.setCell (World.setCell (World.setCell (World.setCell (World.setCell w25 ⟨b24, 0, none⟩ (.string s14)) ⟨b24, 1, none⟩ (.int .u64 x15)) ⟨b24, 2, none⟩ (.int .u64 x16)) ⟨b24, 3, none⟩ (.slice a17 n18 c19)) ⟨b24, 4, none⟩ (.int .u64 x20)) ⟨b24, 5, none⟩ (.int .u64 x21)) ⟨b24, 6, none⟩ (.int .u64 x22) → S3 w26 ∧ (boolV (!t23) (R (.returned (.int .i64 5)) w26) (∃ C27 : World → Prop, (∀ w' : World, w'.heap = w26.heap → w'.tape = w26.tape → w'.os = w26.os → w'.output = w26.output → C27 w') ∧ (∃ x29 : Int, (∀ w, C27 w → w.cell? ⟨b1, 1, none⟩ = some (.int .i64 x29)) ∧ (boolV (decide (x29 < (0 : Int))) (∀ w28 : World, C27 w28 → R (.returned (.int .i64 1)) w28) (∃ x30 : Int, (∀ w, C27 w → w.cell? ⟨b1, 1, none⟩ = some (.int .i64 x30)) ∧ (someV m_0 (fun p31 => ∃ x32 : Int, (∀ w, C27 w → w.cell? (p31.add 13) = some (.int .i64 x32)) ∧ (∀ w28 : World, C27 w28 → boolV (decide (x30 ≥ x32)) (R (.returned (.int .i64 1)) w28) (R (.returned (.int .i64 0)) w28)))))))))))))) ∧ (∀ (b33 : Nat) (w34 : World), b33 = w4.heap.size → w34 = World.alloc w4 (.cells #[.string ByteArray.empty, .int .u64 0, .int .u64 0, .slice none 0 0, .int .u64 0, .int .u64 0, .int .u64 0] 63) → S3 w34 ∧ (Calls Tryz.prog 54 #[.agg #[.int .u64 x6, .int .u64 x7, .slice a8 n9 c10], .string s11] w34 (fun e35 w36 => ∃ s37 : ByteArray, ∃ x38 : Int, ∃ x39 : Int, ∃ (a40 : Option Addr) (n41 c42 : Nat), ∃ x43 : Int, ∃ x44 : Int, ∃ x45 : Int, ∃ t46 : Bool, e35 = .returned (.tuple #[.agg #[.string s37, .int .u64 x38, .int .u64 x39, .slice a40 n41 c42, .int .u64 x43, .int .u64 x44, .int .u64 x45], .bool t46]) ∧ (S3 w36 ∧ (Writable w36 ⟨b33, 0, none⟩ 7 ∧ ∀ w47 : World, w47 = World.setCell (World.setCell (World.setCell (World.setCell (World.setCell (World.setCell (World.setCell w36 ⟨b33, 0, none⟩ (.string s37)) ⟨b33, 1, none⟩ (.int .u64 x38)) ⟨b33, 2, none⟩ (.int .u64 x39)) ⟨b33, 3, none⟩ (.slice a40 n41 c42)) ⟨b33, 4, none⟩ (.int .u64 x43)) ⟨b33, 5, none⟩ (.int .u64 x44)) ⟨b33, 6, none⟩ (.int .u64 x45) → S3 w47 ∧ (boolV (!t46) (R (.returned (.int .i64 5)) w47) (∃ C48 : World → Prop, (∀ w' : World, w'.heap = w47.heap → w'.tape = w47.tape → w'.os = w47.os → w'.output = w47.output → C48 w') ∧ (∃ x50 : Int, (∀ w, C48 w → w.cell? ⟨b1, 1, none⟩ = some (.int .i64 x50)) ∧ (boolV (decide (x50 < (0 : Int))) (∀ w49 : World, C48 w49 → R (.returned (.int .i64 1)) w49) (∃ x51 : Int, (∀ w, C48 w → w.cell? ⟨b1, 1, none⟩ = some (.int .i64 x51)) ∧ (someV m_0 (fun p52 => ∃ x53 : Int, (∀ w, C48 w → w.cell? (p52.add 13) = some (.int .i64 x53)) ∧ (∀ w49 : World, C48 w49 → boolV (decide (x51 ≥ x53)) (R (.returned (.int .i64 1)) w49) (R (.returned (.int .i64 0)) w49)))))))))))))))))))
def vc (R : Ending → World → Prop) (m_0 : Option Addr) (p_1a : ByteArray) (p_1b : Int) (w : World) : Prop := t0 R  m_0 p_1a p_1b w
theorem calls (R : Ending → World → Prop) (m_0 : Option Addr) (p_1a : ByteArray) (p_1b : Int) (w : World) (h : vc R m_0 p_1a p_1b w) : Calls Tryz.prog 72 #[.pointer m_0, .agg #[.string p_1a, .int .i64 p_1b]] w R :=
  calls_V Tryz.func72 (Eq.mpr (by kernel_rfl) (h))
end model_Model_check
end Go.Proofs.YtcofknlcdgidpaaGreatDoor
/-! ## GmodelModelat -/
namespace Go.Proofs.YtcofknlcdgidpaaGreatDoor
open Go Go.Proofs.YtcofknlcdgidpaaGreatDoor.VC
set_option linter.unusedVariables false
set_option maxRecDepth 100000
set_option maxHeartbeats 0

/-! ### (*postroom/model.Model).at: function 39 -/
namespace model_Model_at
def t0 (R : Ending → World → Prop)  (m_0 : Option Addr) (p_1a : ByteArray) (p_1b : Int) (w : World) : Prop := ∀ (b1 : Nat) (w2 : World), b1 = w.heap.size → w2 = World.alloc w (.cells #[.string p_1a, .int .i64 p_1b] 86) → ∀ (b3 : Nat) (w4 : World), b3 = w2.heap.size → w4 = World.alloc w2 (.cells #[.int .u64 0, .slice none 0 0, .int .u64 0, .int .i64 0, .int .u64 0] 105) → ∃ S5 : World → Prop, (∀ w6 : World, w6.heap = w4.heap → w6.tape = w4.tape → w6.os = w4.os → w6.output = w4.output → S5 w6 ∧ (someV m_0 (fun p7 => ∃ r8 : Option Nat, (∀ w, S5 w → w.cell? (p7.add 14) = some (.map r8)) ∧ (∃ s9 : ByteArray, ∃ x10 : Int, (∀ w, S5 w → w.cell? ⟨b1, 0, none⟩ = some (.string s9) ∧ w.cell? ⟨b1, 1, none⟩ = some (.int .i64 x10)) ∧ ((runV Tryz.prog (Instr.lookup 95 (.map r8) (.agg #[.string s9, .int .i64 x10]) true) w6 (fun v11 w12 => ∃ x13 : Int, ∃ (a14 : Option Addr) (n15 c16 : Nat), ∃ x17 : Int, ∃ x18 : Int, ∃ x19 : Int, ∃ t20 : Bool, v11 = .tuple #[.agg #[.int .u64 x13, .slice a14 n15 c16, .int .u64 x17, .int .i64 x18, .int .u64 x19], .bool t20] ∧ (S5 w12 ∧ (∀ (b21 : Nat) (w22 : World), b21 = w12.heap.size → w22 = World.alloc w12 (.cells #[.int .u64 0, .slice none 0 0, .int .u64 0, .int .i64 0, .int .u64 0] 105) → S5 w22 ∧ (Writable w22 ⟨b21, 0, none⟩ 5 ∧ ∀ w23 : World, w23 = World.setCell (World.setCell (World.setCell (World.setCell (World.setCell w22 ⟨b21, 0, none⟩ (.int .u64 x13)) ⟨b21, 1, none⟩ (.slice a14 n15 c16)) ⟨b21, 2, none⟩ (.int .u64 x17)) ⟨b21, 3, none⟩ (.int .i64 x18)) ⟨b21, 4, none⟩ (.int .u64 x19) → S5 w23 ∧ (boolV t20 (∃ x24 : Int, ∃ (a25 : Option Addr) (n26 c27 : Nat), ∃ x28 : Int, ∃ x29 : Int, ∃ x30 : Int, (w23.cell? ⟨b21, 0, none⟩ = some (.int .u64 x24) ∧ w23.cell? ⟨b21, 1, none⟩ = some (.slice a25 n26 c27) ∧ w23.cell? ⟨b21, 2, none⟩ = some (.int .u64 x28) ∧ w23.cell? ⟨b21, 3, none⟩ = some (.int .i64 x29) ∧ w23.cell? ⟨b21, 4, none⟩ = some (.int .u64 x30)) ∧ (Writable w23 ⟨b3, 0, none⟩ 5 ∧ ∀ w31 : World, w31 = World.setCell (World.setCell (World.setCell (World.setCell (World.setCell w23 ⟨b3, 0, none⟩ (.int .u64 x24)) ⟨b3, 1, none⟩ (.slice a25 n26 c27)) ⟨b3, 2, none⟩ (.int .u64 x28)) ⟨b3, 3, none⟩ (.int .i64 x29)) ⟨b3, 4, none⟩ (.int .u64 x30) → ∃ x32 : Int, ∃ (a33 : Option Addr) (n34 c35 : Nat), ∃ x36 : Int, ∃ x37 : Int, ∃ x38 : Int, (w31.cell? ⟨b3, 0, none⟩ = some (.int .u64 x32) ∧ w31.cell? ⟨b3, 1, none⟩ = some (.slice a33 n34 c35) ∧ w31.cell? ⟨b3, 2, none⟩ = some (.int .u64 x36) ∧ w31.cell? ⟨b3, 3, none⟩ = some (.int .i64 x37) ∧ w31.cell? ⟨b3, 4, none⟩ = some (.int .u64 x38)) ∧ (R (.returned (.agg #[.int .u64 x32, .slice a33 n34 c35, .int .u64 x36, .int .i64 x37, .int .u64 x38])) w31))) (someV m_0 (fun p39 => ∃ x40 : Int, w23.cell? (p39.add 15) = some (.int .u64 x40) ∧ (Writable w23 ⟨b3, 0, none⟩ 5 ∧ ∀ w41 : World, w41 = World.setCell (World.setCell (World.setCell (World.setCell (World.setCell w23 ⟨b3, 0, none⟩ (.int .u64 x40)) ⟨b3, 1, none⟩ (.slice none 0 0)) ⟨b3, 2, none⟩ (.int .u64 0)) ⟨b3, 3, none⟩ (.int .i64 0)) ⟨b3, 4, none⟩ (.int .u64 0) → ∃ x42 : Int, ∃ (a43 : Option Addr) (n44 c45 : Nat), ∃ x46 : Int, ∃ x47 : Int, ∃ x48 : Int, (w41.cell? ⟨b3, 0, none⟩ = some (.int .u64 x42) ∧ w41.cell? ⟨b3, 1, none⟩ = some (.slice a43 n44 c45) ∧ w41.cell? ⟨b3, 2, none⟩ = some (.int .u64 x46) ∧ w41.cell? ⟨b3, 3, none⟩ = some (.int .i64 x47) ∧ w41.cell? ⟨b3, 4, none⟩ = some (.int .u64 x48)) ∧ (R (.returned (.agg #[.int .u64 x42, .slice a43 n44 c45, .int .u64 x46, .int .i64 x47, .int .u64 x48])) w41)))))))))) ∧ (∀ (b49 : Nat) (w50 : World), b49 = w6.heap.size → w50 = World.alloc w6 (.cells #[.int .u64 0, .slice none 0 0, .int .u64 0, .int .i64 0, .int .u64 0] 105) → S5 w50 ∧ (runV Tryz.prog (Instr.lookup 95 (.map r8) (.agg #[.string s9, .int .i64 x10]) true) w50 (fun v51 w52 => ∃ x53 : Int, ∃ (a54 : Option Addr) (n55 c56 : Nat), ∃ x57 : Int, ∃ x58 : Int, ∃ x59 : Int, ∃ t60 : Bool, v51 = .tuple #[.agg #[.int .u64 x53, .slice a54 n55 c56, .int .u64 x57, .int .i64 x58, .int .u64 x59], .bool t60] ∧ (S5 w52 ∧ (Writable w52 ⟨b49, 0, none⟩ 5 ∧ ∀ w61 : World, w61 = World.setCell (World.setCell (World.setCell (World.setCell (World.setCell w52 ⟨b49, 0, none⟩ (.int .u64 x53)) ⟨b49, 1, none⟩ (.slice a54 n55 c56)) ⟨b49, 2, none⟩ (.int .u64 x57)) ⟨b49, 3, none⟩ (.int .i64 x58)) ⟨b49, 4, none⟩ (.int .u64 x59) → S5 w61 ∧ (boolV t60 (∃ x62 : Int, ∃ (a63 : Option Addr) (n64 c65 : Nat), ∃ x66 : Int, ∃ x67 : Int, ∃ x68 : Int, (w61.cell? ⟨b49, 0, none⟩ = some (.int .u64 x62) ∧ w61.cell? ⟨b49, 1, none⟩ = some (.slice a63 n64 c65) ∧ w61.cell? ⟨b49, 2, none⟩ = some (.int .u64 x66) ∧ w61.cell? ⟨b49, 3, none⟩ = some (.int .i64 x67) ∧ w61.cell? ⟨b49, 4, none⟩ = some (.int .u64 x68)) ∧ (Writable w61 ⟨b3, 0, none⟩ 5 ∧ ∀ w69 : World, w69 = World.setCell (World.setCell (World.setCell (World.setCell (World.setCell w61 ⟨b3, 0, none⟩ (.int .u64 x62)) ⟨b3, 1, none⟩ (.slice a63 n64 c65)) ⟨b3, 2, none⟩ (.int .u64 x66)) ⟨b3, 3, none⟩ (.int .i64 x67)) ⟨b3, 4, none⟩ (.int .u64 x68) → ∃ x70 : Int, ∃ (a71 : Option Addr) (n72 c73 : Nat), ∃ x74 : Int, ∃ x75 : Int, ∃ x76 : Int, (w69.cell? ⟨b3, 0, none⟩ = some (.int .u64 x70) ∧ w69.cell? ⟨b3, 1, none⟩ = some (.slice a71 n72 c73) ∧ w69.cell? ⟨b3, 2, none⟩ = some (.int .u64 x74) ∧ w69.cell? ⟨b3, 3, none⟩ = some (.int .i64 x75) ∧ w69.cell? ⟨b3, 4, none⟩ = some (.int .u64 x76)) ∧ (R (.returned (.agg #[.int .u64 x70, .slice a71 n72 c73, .int .u64 x74, .int .i64 x75, .int .u64 x76])) w69))) (someV m_0 (fun p77 => ∃ x78 : Int, w61.cell? (p77.add 15) = some (.int .u64 x78) ∧ (Writable w61 ⟨b3, 0, none⟩ 5 ∧ ∀ w79 : World, w79 = World.setCell (World.setCell (World.setCell (World.setCell (World.setCell w61 ⟨b3, 0, none⟩ (.int .u64 x78)) ⟨b3, 1, none⟩ (.slice none 0 0)) ⟨b3, 2, none⟩ (.int .u64 0)) ⟨b3, 3, none⟩ (.int .i64 0)) ⟨b3, 4, none⟩ (.int .u64 0) → ∃ x80 : Int, ∃ (a81 : Option Addr) (n82 c83 : Nat), ∃ x84 : Int, ∃ x85 : Int, ∃ x86 : Int, (w79.cell? ⟨b3, 0, none⟩ = some (.int .u64 x80) ∧ w79.cell? ⟨b3, 1, none⟩ = some (.slice a81 n82 c83) ∧ w79.cell? ⟨b3, 2, none⟩ = some (.int .u64 x84) ∧ w79.cell? ⟨b3, 3, none⟩ = some (.int .i64 x85) ∧ w79.cell? ⟨b3, 4, none⟩ = some (.int .u64 x86)) ∧ (R (.returned (.agg #[.int .u64 x80, .slice a81 n82 c83, .int .u64 x84, .int .i64 x85, .int .u64 x86])) w79)))))))))))))))
def vc (R : Ending → World → Prop) (m_0 : Option Addr) (p_1a : ByteArray) (p_1b : Int) (w : World) : Prop := t0 R  m_0 p_1a p_1b w
theorem calls (R : Ending → World → Prop) (m_0 : Option Addr) (p_1a : ByteArray) (p_1b : Int) (w : World) (h : vc R m_0 p_1a p_1b w) : Calls Tryz.prog 39 #[.pointer m_0, .agg #[.string p_1a, .int .i64 p_1b]] w R :=
  calls_V Tryz.func39 (Eq.mpr (by kernel_rfl) (h))
end model_Model_at
end Go.Proofs.YtcofknlcdgidpaaGreatDoor
/-! ## Wait -/
namespace Go.Proofs.YtcofknlcdgidpaaGreatDoor
open Go Go.RowKit Go.Proofs.YtcofknlcdgidpaaGreatDoor.VC
set_option linter.unusedVariables false
set_option maxRecDepth 100000

/-! ### Maps that are read -/
theorem findNow_find (k : Nat) : ∀ (l : List KE) (i : Nat) (x : KE), l.find? (fun x => x.seq == k) = some x → ∃ j, Instr.findNow (.int .u64) (.int .u64 (k : Int)) (l.map KE.ent) i = some (some (j, x.val))
  | [], _, _, h => by cases h
  | y :: r, i, x, h => by
    show ∃ j, (match Instr.sameNow (.int .u64) (.int .u64 (k : Int)) (.int .u64 (y.seq : Int)) with | some true => some (some (i, y.ent.val)) | some false => Instr.findNow (.int .u64) (.int .u64 (k : Int)) (r.map KE.ent) (i + 1) | none => none) = some (some (j, x.val))
    by_cases hk : y.seq = k
    · rw [List.find?_cons_of_pos (by simpa using hk)] at h
      cases h
      have : Instr.sameNow (.int .u64) (.int .u64 (k : Int)) (.int .u64 (y.seq : Int)) = some true := by simp [Instr.sameNow, hk]
      rw [this]
      exact ⟨i, rfl⟩
    · rw [List.find?_cons_of_neg (by simpa using hk)] at h
      have : Instr.sameNow (.int .u64) (.int .u64 (k : Int)) (.int .u64 (y.seq : Int)) = some false := by
        have : ((k : Int) == (y.seq : Int)) = false := by simp; omega
        simp only [Instr.sameNow, if_true, this]
      rw [this]
      exact findNow_find k r (i + 1) x h
theorem run_lookup_all {w : World} {r clk k : Nat} {l : List KE} (hb : w.heap[r]? = some (.map (l.map KE.ent).toArray clk)) {x : KE} (hx : l.find? (fun x => x.seq == k) = some x) :
    (Instr.lookup 94 (.map (some r)) (.int .u64 (k : Int)) false).run Tryz.prog w = .ok x.val w := by
  have hm : Tryz.prog.underlying 94 = some (.map 24 118) := by kernel_rfl
  have hk : Tryz.prog.underlying 24 = some (.int .u64) := by kernel_rfl
  have hc : ∀ e, (Instr.checkKey e 10000 24 (.int .u64 (k : Int))).run Tryz.prog w = .ok () w := fun e => MapKept.run_checkKey hk (by simp [MapKept.IsKey]) e 9999
  obtain ⟨j, hf⟩ := findNow_find k l 0 x hx
  simp [Instr.lookup, run_underlying hm, MapKept.run_getObj_map hb, hc, MapKept.run_findKey hk hf, Result.andThen]

/-! ### IndexFunc, DeleteFunc -/
theorem indexFunc_u64 (P : Nat → Bool) (g : Nat) (cap : Array Value) (l : List Nat) (hl : l.length < 9223372036854775807) (a : Option Addr) (c : Nat) (w0 : World) (hrow : RowAt w0 a (u64Cs l)) (hg : callable Tryz.prog g = true)
    (hf : ∀ p w, p ∈ l → Below w0.heap.size w0 w → Calls Tryz.prog g (#[.int .u64 (p : Nat)] ++ cap) w (fun e w' => e = .returned (.bool (P p)) ∧ Below w.heap.size w w')) :
    Calls Tryz.prog 109 #[.slice a l.length c, .func (.func g) #[] cap] w0 (fun e w => e = .returned (.int .i64 (match l.findIdx? P with | some i => (i : Int) | none => -1)) ∧ Below w0.heap.size w0 w) := by
  apply slices_IndexFunc_uint64_uint64.calls
  intro L0 hL
  apply hL
  refine ⟨fun m x w => ∃ i : Nat, x = (i : Int) ∧ i ≤ l.length ∧ m = l.length - i ∧ (∀ j, j < i → ∀ p, l[j]? = some p → P p = false) ∧ Below w0.heap.size w0 w, _, ⟨0, rfl, by omega, rfl, by omega, Below.refl _ _⟩, ?_⟩
  rintro m x g' w ⟨i, rfl, hi, rfl, hno, hbel⟩ Back hback
  unfold slices_IndexFunc_uint64_uint64.t1
  by_cases hlt : i < l.length
  · have hli : l[i]? = some l[i] := List.getElem?_eq_getElem hlt
    obtain ⟨q, rfl, hr⟩ := rowU64 (hrow.below hbel (Nat.le_refl _)) hli
    refine boolT (by simp; omega) (someV_some rfl ⟨⟨by omega, by omega⟩, _, hr, ?_⟩)
    have := hf l[i] w (List.getElem_mem hlt) hbel
    refine funcV_call (args := [.int .u64 (l[i] : Nat)]) hg ?_
    refine Calls.mono (R := fun e w' => e = .returned (.bool (P l[i])) ∧ Below w.heap.size w w') ?_ ?_
    · have e : (#[Value.int .u64 (l[i] : Nat)] ++ cap) = ([Value.int .u64 (l[i] : Nat)] ++ cap.toList).toArray := by
        apply Array.ext'; simp
      rw [e] at this; exact this
    rintro e w1 ⟨rfl, hb1⟩
    refine ⟨_, rfl, ?_⟩
    have hb1' := hbel.trans (hb1.mono hbel.size)
    by_cases hp : P l[i] = true
    · refine boolT hp ⟨?_, hb1'⟩
      have : l.findIdx? P = some i := by
        rw [List.findIdx?_eq_some_iff_getElem]
        exact ⟨hlt, hp, fun j hj => by simpa using hno j hj _ (List.getElem?_eq_getElem (by omega))⟩
      rw [this]
    · refine boolF (by simpa using hp) (hback (l.length - (i + 1)) _ _ _ (by omega) ⟨i + 1, ?_, by omega, rfl, ?_, hb1'⟩)
      · rw [wrap_i64 (by omega) (by omega)]; omega
      · intro j hj p hjp
        by_cases hji : j = i
        · subst hji; rw [hli] at hjp; cases hjp; simpa using hp
        · exact hno j (by omega) p hjp
  · refine boolF (by simp; omega) ⟨?_, hbel⟩
    have : l.findIdx? P = none := by
      rw [List.findIdx?_eq_none_iff]
      intro x hx
      obtain ⟨j, hj, rfl⟩ := List.mem_iff_getElem.1 hx
      exact hno j (by omega) _ (List.getElem?_eq_getElem hj)
    rw [this]
/-- slices.DeleteFunc, where nothing goes. -/
theorem deleteFunc_none (P : Nat → Bool) (g : Nat) (cap : Array Value) (l : List Nat) (hl : l.length < 9223372036854775807) (a : Option Addr) (c : Nat) (w0 : World) (hrow : RowAt w0 a (u64Cs l)) (hg : callable Tryz.prog g = true)
    (hf : ∀ p w, p ∈ l → Below w0.heap.size w0 w → Calls Tryz.prog g (#[.int .u64 (p : Nat)] ++ cap) w (fun e w' => e = .returned (.bool (P p)) ∧ Below w.heap.size w w')) (hno : ∀ x ∈ l, P x = false) :
    Calls Tryz.prog 76 #[.slice a l.length c, .func (.func g) #[] cap] w0 (fun e w => e = .returned (.slice a l.length c) ∧ Below w0.heap.size w0 w) := by
  apply slices_DeleteFunc_uint64_uint64.calls
  intro L0 hL
  unfold slices_DeleteFunc_uint64_uint64.t0
  refine (indexFunc_u64 P g cap l hl a c w0 hrow hg hf).mono ?_
  rintro e w ⟨rfl, hb⟩
  have : l.findIdx? P = none := by
    rw [List.findIdx?_eq_none_iff]; exact hno
  rw [this]
  exact ⟨_, rfl, boolT rfl ⟨rfl, hb⟩⟩

/-! ### What waits for a place -/
theorem waiting_1 {B : Nat} {M : ML} {s : MS} (w : World) (h : MAt B M s w) (seq : Nat) (hsq : seq < s.durable) (x : KE) (hx : s.all.find? (fun x => x.seq == seq) = some x) (hser : x.ser.length < 9223372036854775807) (bm bp : Nat) (d : Value) (k : Int)
    (hm : Blk w bm 30 [.pointer (some ⟨M.mb, 0, none⟩)]) (hp : Blk w bp 86 [d, .int .i64 k]) :
    Calls Tryz.prog 77 #[.int .u64 seq, .pointer (some ⟨bm, 0, none⟩), .pointer (some ⟨bp, 0, none⟩)] w (fun e w' => e = .returned (.bool (shardOf x.ser s.shards != k)) ∧ Below w.heap.size w w') := by
  apply model_Model_waiting_1.calls
  unfold model_Model_waiting_1.vc model_Model_waiting_1.t0
  refine ⟨fun W => W.heap = w.heap, ?_⟩
  intro w2 e1 e2 e3 e4
  have hb2 := same_below (w := w) (w' := w2) w.heap.size e1 e2 e3 e4
  refine ⟨e1, someV_some rfl ⟨_, fun W hW => (hm.same hW).cell (j := 0) rfl, someV_some rfl ⟨_, fun W hW => (h.blk.same hW).cell (j := 12) rfl, boolF (by simp; omega) (someV_some rfl ⟨_, fun W hW => (hm.same hW).cell (j := 0) rfl, someV_some rfl ⟨_, fun W hW => (h.blk.same hW).cell (j := 10) rfl, someV_some rfl ⟨_, fun W hW => (hm.same hW).cell (j := 0) rfl, someV_some rfl ⟨_, fun W hW => (h.blk.same hW).cell (j := 13) rfl, someV_some rfl ⟨_, fun W hW => (hp.same hW).cell (j := 1) rfl, ?_⟩⟩⟩⟩⟩)⟩⟩⟩
  have hall : w2.heap[M.ab]? = some (.map (s.all.map KE.ent).toArray M.aclk) := by rw [e1]; exact h.all
  refine runV_ok (run_lookup_all hall hx) ⟨_, _, _, _, _, _, _, _, rfl, e1, ?_⟩
  refine (shard_of x.ser hser s.shards w2).mono ?_
  rintro e w28 ⟨rfl, rfl⟩
  exact ⟨_, rfl, e1, rfl, hb2⟩
/-- Where all that is pending for a destination is durable, and of the place's shard. -/
theorem model_waiting {B : Nat} {M : ML} {s : MS} (w0 : World) (h : MAt B M s w0) (hnx : s.next < 4294967296) (hl : s.l.length ≤ 429496729) (dest : Txt) (k : Int)
    (hall : ∀ q ∈ pendL s.l dest s.next, q < s.durable ∧ ∃ x, s.all.find? (fun x => x.seq == q) = some x ∧ x.ser.length < 9223372036854775807 ∧ shardOf x.ser s.shards = k) :
    Calls Tryz.prog 40 #[.pointer (some ⟨M.mb, 0, none⟩), .agg #[.string (S dest), .int .i64 k]] w0 (fun e w => Below w0.heap.size w0 w ∧ ∃ a c, e = .returned (.slice a (pendL s.l dest s.next).length c) ∧ w.ownsRow w0.heap.size 24 1 (.slice a (pendL s.l dest s.next).length c) (pendL s.l dest s.next).length (u64Cs (pendL s.l dest s.next))) := by
  apply model_Model_waiting.calls
  unfold model_Model_waiting.vc model_Model_waiting.t0
  refine allocV (cs := [.pointer (some ⟨M.mb, 0, none⟩)]) ?_
  intro w2 h1 hb2 hs2
  refine allocV (cs := [.string (S dest), .int .i64 k]) ?_
  intro w4 h3 hb4 hs4
  have hb4' := hb2.trans (hb4.mono hb2.size)
  have h14 := h1.below hb4 h1.lt
  have M4 := h.below hb4'
  refine ⟨fun W => Below w4.heap.size w4 W, ?_⟩
  intro w6 e1 e2 e3 e4
  have hb6 := same_below (w := w4) (w' := w6) w4.heap.size e1 e2 e3 e4
  have M6 := M4.below hb6
  have hb6' := hb4'.trans (hb6.mono hb4'.size)
  refine ⟨hb6, _, fun W hW => (h14.below hW h14.lt).cell (j := 0) rfl, someV_some rfl ⟨_, _, _, _, _, fun W hW => ⟨(M4.below hW).blk.cell (j := 7) rfl, (M4.below hW).blk.cell (j := 8) rfl, (M4.below hW).blk.cell (j := 9) rfl⟩, _, fun W hW => (h3.below hW h3.lt).cell (j := 0) rfl, ?_⟩⟩
  refine (ledger_pending s.first s.next hnx s.l hl dest M.la M.lc w6 (RowAt.of_own M6.dst) M6.abv).mono ?_
  rintro e w16 ⟨hb16, a, c, rfl, ho⟩
  have hb16' : Below w4.heap.size w4 w16 := hb6.trans (hb16.mono hb6.size)
  have M16 := M4.below hb16'
  have hlen : (pendL s.l dest s.next).length < 9223372036854775807 := by
    unfold pendL
    split
    · rename_i x _
      have := pendFrom_len x.d s.next (s.next - x.d.low) x.d.low
      unfold pendD; omega
    · simp
  refine ⟨_, _, _, rfl, hb16', ?_⟩
  refine (deleteFunc_none (fun _ => false) 77 #[.pointer (some ⟨w0.heap.size, 0, none⟩), .pointer (some ⟨w2.heap.size, 0, none⟩)] _ hlen a c w16 (RowAt.of_own ho) (by kernel_rfl) ?_ (fun _ _ => rfl)).mono ?_
  · intro q W hq hW
    obtain ⟨hqd, x, hx, hxs, hxk⟩ := hall q hq
    have hW' : Below w4.heap.size w4 W := hb16'.trans (hW.mono hb16'.size)
    refine (waiting_1 W (M16.below hW) q hqd x hx hxs w0.heap.size w2.heap.size _ k (h14.below hW' h14.lt) (h3.below hW' h3.lt)).mono ?_
    rintro e W' ⟨rfl, hW2⟩
    exact ⟨by rw [hxk]; simp, hW2⟩
  · rintro e W ⟨rfl, hW⟩
    have hW' : Below w4.heap.size w4 W := hb16'.trans (hW.mono hb16'.size)
    refine ⟨_, _, _, rfl, hW', hb4'.trans (hW'.mono hb4'.size), _, _, rfl, ?_⟩
    exact own_mono (own_below ho hW) hb6'.size
end Go.Proofs.YtcofknlcdgidpaaGreatDoor
/-! ## Snd -/
namespace Go.Proofs.YtcofknlcdgidpaaGreatDoor
open Go Go.RowKit Go.Proofs.YtcofknlcdgidpaaGreatDoor.VC
set_option linter.unusedVariables false
set_option maxRecDepth 100000

theorem var5V {w : World} {ty : TypeId} {z0 z1 z2 z3 z4 a b c d e : Value} {K : Nat → World → Prop} (h : ∀ w6, Blk w6 w.heap.size ty [a, b, c, d, e] → Below w.heap.size w w6 → w6.heap.size = w.heap.size + 1 → K w.heap.size w6) :
    ∀ (b4 : Nat) (w5 : World), b4 = w.heap.size → w5 = World.alloc w (.cells #[z0, z1, z2, z3, z4] ty) → Writable w5 ⟨b4, 0, none⟩ 5 ∧ ∀ w6 : World, w6 = World.setCell (World.setCell (World.setCell (World.setCell (World.setCell w5 ⟨b4, 0, none⟩ a) ⟨b4, 1, none⟩ b) ⟨b4, 2, none⟩ c) ⟨b4, 3, none⟩ d) ⟨b4, 4, none⟩ e → K b4 w6 := by
  rintro b4 w5 rfl rfl
  have hblk := Blk.new w ty [z0, z1, z2, z3, z4]
  have hb := (Below.refl w.heap.size w).alloc (Nat.le_refl _) (.cells #[z0, z1, z2, z3, z4] ty)
  refine ⟨hblk.writable (Nat.le_refl 5), ?_⟩
  rintro w6 rfl
  have hl := Nat.le_refl w.heap.size
  exact h _ (((((hblk.set 0 a).set 1 b).set 2 c).set 3 d).set 4 e)
    (((((hb.setCell (p := ⟨w.heap.size, 0, none⟩) hl a).setCell (p := ⟨w.heap.size, 1, none⟩) hl b).setCell (p := ⟨w.heap.size, 2, none⟩) hl c).setCell (p := ⟨w.heap.size, 3, none⟩) hl d).setCell (p := ⟨w.heap.size, 4, none⟩) hl e) (by simp [World.setCell])
theorem st5V {w : World} {ty : TypeId} {blk : Nat} {z0 z1 z2 z3 z4 a b c d e : Value} (hb : Blk w blk ty [z0, z1, z2, z3, z4]) {K : World → Prop} (h : ∀ w6, Blk w6 blk ty [a, b, c, d, e] → w.grownBy w6 (some blk) → w6.heap.size = w.heap.size → K w6) :
    Writable w ⟨blk, 0, none⟩ 5 ∧ ∀ w6 : World, w6 = World.setCell (World.setCell (World.setCell (World.setCell (World.setCell w ⟨blk, 0, none⟩ a) ⟨blk, 1, none⟩ b) ⟨blk, 2, none⟩ c) ⟨blk, 3, none⟩ d) ⟨blk, 4, none⟩ e → K w6 := by
  refine ⟨hb.writable (Nat.le_refl 5), ?_⟩
  rintro w6 rfl
  exact h _ (((((hb.set 0 a).set 1 b).set 2 c).set 3 d).set 4 e) (gset (gset (gset (gset (gset (grown_refl w _) 0 a) 1 b) 2 c) 3 d) 4 e) (by simp [World.setCell])
theorem st4V {w : World} {ty : TypeId} {blk : Nat} {z0 z1 z2 z3 a b c d : Value} (hb : Blk w blk ty [z0, z1, z2, z3]) {K : World → Prop} (h : ∀ w6, Blk w6 blk ty [a, b, c, d] → w.grownBy w6 (some blk) → w6.heap.size = w.heap.size → K w6) :
    Writable w ⟨blk, 0, none⟩ 4 ∧ ∀ w6 : World, w6 = World.setCell (World.setCell (World.setCell (World.setCell w ⟨blk, 0, none⟩ a) ⟨blk, 1, none⟩ b) ⟨blk, 2, none⟩ c) ⟨blk, 3, none⟩ d → K w6 := by
  refine ⟨hb.writable (Nat.le_refl 4), ?_⟩
  rintro w6 rfl
  exact h _ ((((hb.set 0 a).set 1 b).set 2 c).set 3 d) (gset (gset (gset (gset (grown_refl w _) 0 a) 1 b) 2 c) 3 d) (by simp [World.setCell])

/-! ### Keys that are places -/
theorem placeKey : WideMaps.KeyLaw Tryz.prog 86 := deep_law_gate (P := Tryz.prog) (by kernel_rfl) (by decide) (by decide) (by kernel_rfl) (by kernel_rfl)
abbrev keyV (dest : Txt) (k : Int) : Value := .agg #[.string (S dest), .int .i64 k]
def KeyOK (dest : Txt) (k : Int) : Prop := ∃ lit, keyOf Tryz.prog 86 (keyV dest k) = some lit
theorem keyV_inj {d d' : Txt} {k k' : Int} (h : keyV d k = keyV d' k') : d = d' ∧ k = k' := by
  simp only [keyV, Value.agg.injEq, Array.mk.injEq, List.cons.injEq, Value.string.injEq, Value.int.injEq, and_true, true_and] at h
  exact ⟨S_inj h.1, h.2⟩
def hasKey (y : SE) (dest : Txt) (k : Int) : Prop := y.dest = dest ∧ y.shard = k
theorem senders_map : Tryz.prog.underlying 95 = some (.map 86 105) := by kernel_rfl
theorem find_snd (w : World) (l : List SE) (hl : ∀ y ∈ l, KeyOK y.dest y.shard) (dest : Txt) (k : Int) (hk : KeyOK dest k) :
    ((Instr.findKey 86 (keyV dest k) (l.map SE.ent)).run Tryz.prog w = .ok none w ∧ ∀ y ∈ l, ¬ hasKey y dest k) ∨
    ∃ j y, (Instr.findKey 86 (keyV dest k) (l.map SE.ent)).run Tryz.prog w = .ok (some (j, y.val)) w ∧ l[j]? = some y ∧ hasKey y dest k := by
  obtain ⟨lit, hlit⟩ := hk
  rcases placeKey.find w hlit (l.map SE.ent) (by
    intro e he
    obtain ⟨y, hy, rfl⟩ := List.mem_map.1 he
    exact hl y hy) with ⟨h1, h2⟩ | ⟨j, e, h1, h2, h3⟩
  · refine .inl ⟨h1, fun y hy hk => h2 y.ent (List.mem_map_of_mem hy) ?_⟩
    rw [SE.ent, hk.1, hk.2]
  · rw [List.getElem?_map] at h2
    obtain ⟨y, hy, rfl⟩ := Option.map_eq_some_iff.1 h2
    refine .inr ⟨j, y, h1, hy, keyV_inj (d := y.dest) (k := y.shard) h3⟩
theorem run_lookup_snd {w : World} {r clk : Nat} {l : List SE} (hb : w.heap[r]? = some (.map (l.map SE.ent).toArray clk)) (hl : ∀ y ∈ l, KeyOK y.dest y.shard) (dest : Txt) (k : Int) (hk : KeyOK dest k) :
    ((∀ y ∈ l, ¬ hasKey y dest k) ∧ (Instr.lookup 95 (.map (some r)) (keyV dest k) true).run Tryz.prog w = .ok (.tuple #[.agg #[.int .u64 0, .slice none 0 0, .int .u64 0, .int .i64 0, .int .u64 0], .bool false]) w) ∨
    ∃ (j : Nat) (y : SE), l[j]? = some y ∧ hasKey y dest k ∧ (Instr.lookup 95 (.map (some r)) (keyV dest k) true).run Tryz.prog w = .ok (.tuple #[y.val, .bool true]) w := by
  obtain ⟨lit, hlit⟩ := hk
  have hz : (zeroValue 105).run Tryz.prog w = .ok (.agg #[.int .u64 0, .slice none 0 0, .int .u64 0, .int .i64 0, .int .u64 0]) w := by kernel_rfl
  rcases find_snd w l hl dest k ⟨lit, hlit⟩ with ⟨h1, h2⟩ | ⟨j, y, h1, h2, h3⟩
  · refine .inl ⟨h2, ?_⟩
    simp [Instr.lookup, run_underlying senders_map, MapKept.run_getObj_map hb, placeKey.check w _ hlit, h1, hz, Result.andThen]
  · refine .inr ⟨j, y, h2, h3, ?_⟩
    simp [Instr.lookup, run_underlying senders_map, MapKept.run_getObj_map hb, placeKey.check w _ hlit, h1, Result.andThen]
/-- What the map of senders is, when one is laid in it. -/
theorem run_mapUpdate_snd {w : World} {r clk : Nat} {l : List SE} (hb : w.heap[r]? = some (.map (l.map SE.ent).toArray clk)) (hl : ∀ y ∈ l, KeyOK y.dest y.shard) (x : SE) (hk : KeyOK x.dest x.shard) (hx : x.born = clk) :
    ((∀ y ∈ l, ¬ hasKey y x.dest x.shard) ∧ (Instr.mapUpdate 95 (.map (some r)) (keyV x.dest x.shard) x.val).run Tryz.prog w = .ok () (Go.ChangeMaps.setBlock w r (.map ((l ++ [x]).map SE.ent).toArray (clk + 1)))) ∨
    ∃ (j : Nat) (y : SE), l[j]? = some y ∧ hasKey y x.dest x.shard ∧ (Instr.mapUpdate 95 (.map (some r)) (keyV x.dest x.shard) x.val).run Tryz.prog w = .ok () (Go.ChangeMaps.setBlock w r (.map ((l.set j { x with born := y.born }).map SE.ent).toArray clk)) := by
  obtain ⟨lit, hlit⟩ := hk
  rcases find_snd w l hl x.dest x.shard ⟨lit, hlit⟩ with ⟨h1, h2⟩ | ⟨j, y, h1, h2, h3⟩
  · refine .inl ⟨h2, ?_⟩
    have e : ((l ++ [x]).map SE.ent).toArray = (l.map SE.ent).toArray.push { key := keyV x.dest x.shard, val := x.val, born := clk } := by
      apply Array.ext'; simp [SE.ent, hx]
    rw [e]
    simp [Instr.mapUpdate, run_underlying senders_map, MapKept.run_getObj_map hb, placeKey.check w _ hlit, h1, MapKept.run_setObj_map _ hb, Result.andThen, Go.ChangeMaps.setBlock]
  · refine .inr ⟨j, y, h2, h3, ?_⟩
    have hj : (Option.map ((fun (x : MapEntry) => x.key) ∘ SE.ent) l[j]?).getD (keyV x.dest x.shard) = keyV x.dest x.shard := by
      rw [h2]; simp [SE.ent, h3.1, h3.2]
    have e : ((l.set j { x with born := y.born }).map SE.ent).toArray = (l.map SE.ent).toArray.modify j (fun e => { e with key := keyV x.dest x.shard, val := x.val }) := by
      apply Array.ext'
      rw [Array.toList_modify]
      apply List.ext_getElem?
      intro i
      rw [List.getElem?_modify]
      simp only [List.getElem?_map, List.getElem?_set]
      by_cases hij : j = i
      · subst hij
        obtain ⟨hlt, hy⟩ := List.getElem?_eq_some_iff.1 h2
        simp [hlt, SE.ent, SE.val, hy]
      · simp [hij]
    rw [e]
    simp [Instr.mapUpdate, run_underlying senders_map, MapKept.run_getObj_map hb, placeKey.check w _ hlit, h1, hj, placeKey.stays w hlit, MapKept.run_setObj_map _ hb, Result.andThen, Go.ChangeMaps.setBlock]

/-! ### check, at -/
theorem model_check {B : Nat} {M : ML} {s : MS} (w0 : World) (h : MAt B M s w0) (hl : s.l.length ≤ 429496729) (dest : Txt) (k : Int) (x : DestL) (hx : s.l.find? (fun x => x.d.name == dest) = some x) (h0 : 0 ≤ k) (h1 : k < s.shards) :
    Calls Tryz.prog 72 #[.pointer (some ⟨M.mb, 0, none⟩), keyV dest k] w0 (fun e w => e = .returned (.int .i64 0) ∧ Below w0.heap.size w0 w) := by
  apply model_Model_check.calls
  unfold model_Model_check.vc model_Model_check.t0
  refine allocV (cs := [.string (S dest), .int .i64 k]) ?_
  intro w2 h1b hb2 hs2
  have M2 := h.below hb2
  refine ⟨fun W => Below w2.heap.size w2 W, ?_⟩
  intro w4 e1 e2 e3 e4
  have hb4 := same_below (w := w2) (w' := w4) w2.heap.size e1 e2 e3 e4
  have M4 := M2.below hb4
  refine ⟨hb4, someV_some rfl ⟨_, _, _, _, _, fun W hW => ⟨(M2.below hW).blk.cell (j := 7) rfl, (M2.below hW).blk.cell (j := 8) rfl, (M2.below hW).blk.cell (j := 9) rfl⟩, _, fun W hW => (h1b.below hW h1b.lt).cell (j := 0) rfl, ?_, ?_⟩⟩
  · refine (ledger_find s.first s.next s.l hl dest M.la M.lc w4 (RowAt.of_own M4.dst) M4.abv).mono ?_
    rintro e w13 ⟨hb13, hr⟩
    rw [hx] at hr
    obtain ⟨a', c', rfl, ho⟩ := hr
    have hb13' : Below w2.heap.size w2 w13 := hb4.trans (hb13.mono hb4.size)
    refine ⟨_, _, _, _, _, _, _, _, _, _, rfl, hb13', ?_⟩
    intro b24 w25 eb ew
    have hv := var7V (w := w13) (ty := 63) (z0 := .string ByteArray.empty) (z1 := .int .u64 0) (z2 := .int .u64 0) (z3 := .slice none 0 0) (z4 := .int .u64 0) (z5 := .int .u64 0) (z6 := .int .u64 0) (a := .string (S x.d.name)) (b := .int .u64 x.d.since) (c := .int .u64 x.d.low) (d := .slice a' x.d.above.length c') (e := .int .u64 x.d.acked) (f := .int .u64 x.d.evicted) (g := .int .u64 x.d.rejected) (K := fun b W => Below w13.heap.size w13 W) (fun w6 _ hb _ => hb) b24 w25 eb ew
    have hb25 : Below w13.heap.size w13 w25 := by rw [ew]; exact (Below.refl _ _).alloc (Nat.le_refl _) _
    refine ⟨hb13'.trans (hb25.mono hb13'.size), hv.1, ?_⟩
    intro w26 ew26
    have hb26 : Below w2.heap.size w2 w26 := hb13'.trans ((hv.2 w26 ew26).mono hb13'.size)
    refine ⟨hb26, boolF rfl ⟨fun W => Below w2.heap.size w2 W, fun W f1 f2 f3 f4 => hb26.trans (same_below _ f1 f2 f3 f4), _, fun W hW => (h1b.below hW h1b.lt).cell (j := 1) rfl, boolF (by simp; omega) ⟨_, fun W hW => (h1b.below hW h1b.lt).cell (j := 1) rfl, someV_some rfl ⟨_, fun W hW => (M2.below hW).blk.cell (j := 13) rfl, fun W hW => boolF (by simp; omega) ⟨rfl, hb2.trans (hW.mono hb2.size)⟩⟩⟩⟩⟩
  · intro b33 w34 eb ew
    have hblk : Blk w34 b33 63 zeroDest.cells := by rw [eb, ew]; exact Blk.new w4 _ _
    have hb34 : Below w4.heap.size w4 w34 := by rw [ew]; exact (Below.refl _ _).alloc (Nat.le_refl _) _
    have hb34' : Below w2.heap.size w2 w34 := hb4.trans (hb34.mono hb4.size)
    have M34 := M2.below hb34'
    refine ⟨hb34', (ledger_find s.first s.next s.l hl dest M.la M.lc w34 (RowAt.of_own M34.dst) M34.abv).mono ?_⟩
    rintro e w36 ⟨hb36, hr⟩
    rw [hx] at hr
    obtain ⟨a', c', rfl, ho⟩ := hr
    have hb36' : Below w2.heap.size w2 w36 := hb34'.trans (hb36.mono hb34'.size)
    refine ⟨_, _, _, _, _, _, _, _, _, _, rfl, hb36', st7V (hblk.below hb36 hblk.lt) ?_⟩
    intro w47 hv hg hs
    have hb47 : Below w2.heap.size w2 w47 := below_grown hb36' hg hb36'.size (by have := hb4.size; omega)
    refine ⟨hb47, boolF rfl ⟨fun W => Below w2.heap.size w2 W, fun W f1 f2 f3 f4 => hb47.trans (same_below _ f1 f2 f3 f4), _, fun W hW => (h1b.below hW h1b.lt).cell (j := 1) rfl, boolF (by simp; omega) ⟨_, fun W hW => (h1b.below hW h1b.lt).cell (j := 1) rfl, someV_some rfl ⟨_, fun W hW => (M2.below hW).blk.cell (j := 13) rfl, fun W hW => boolF (by simp; omega) ⟨rfl, hb2.trans (hW.mono hb2.size)⟩⟩⟩⟩⟩
def newSnd (top : Nat) : Value := .agg #[.int .u64 top, .slice none 0 0, .int .u64 0, .int .i64 0, .int .u64 0]
def atR (w0 : World) (s : MS) (dest : Txt) (k : Int) (e : Ending) (w : World) : Prop := Below w0.heap.size w0 w ∧ (((∀ y ∈ s.snd, ¬ hasKey y dest k) ∧ e = .returned (newSnd s.top)) ∨ ∃ (j : Nat) (y : SE), s.snd[j]? = some y ∧ hasKey y dest k ∧ e = .returned y.val)
theorem model_at {B : Nat} {M : ML} {s : MS} (w0 : World) (h : MAt B M s w0) (hks : ∀ y ∈ s.snd, KeyOK y.dest y.shard) (dest : Txt) (k : Int) (hk : KeyOK dest k) :
    Calls Tryz.prog 39 #[.pointer (some ⟨M.mb, 0, none⟩), keyV dest k] w0 (atR w0 s dest k) := by
  apply model_Model_at.calls
  unfold model_Model_at.vc model_Model_at.t0
  refine allocV (cs := [.string (S dest), .int .i64 k]) ?_
  intro w2 h1b hb2 hs2
  refine allocV (cs := [.int .u64 0, .slice none 0 0, .int .u64 0, .int .i64 0, .int .u64 0]) ?_
  intro w4 h3b hb4 hs4
  have hb4' := hb2.trans (hb4.mono hb2.size)
  have h14 := h1b.below hb4 h1b.lt
  have M4 := h.below hb4'
  refine ⟨fun W => Below w4.heap.size w4 W, ?_⟩
  intro w6 e1 e2 e3 e4
  have hb6 := same_below (w := w4) (w' := w6) w4.heap.size e1 e2 e3 e4
  have M6 := M4.below hb6
  refine ⟨hb6, someV_some rfl ⟨_, fun W hW => (M4.below hW).blk.cell (j := 14) rfl, _, _, fun W hW => ⟨(h14.below hW h14.lt).cell (j := 0) rfl, (h14.below hW h14.lt).cell (j := 1) rfl⟩, ?_, ?_⟩⟩
  · rcases run_lookup_snd M6.snd hks dest k hk with ⟨hno, hrun⟩ | ⟨j, y, hj, hy, hrun⟩
    · refine runV_ok hrun ⟨_, _, _, _, _, _, _, _, rfl, hb6, ?_⟩
      intro b21 w22 eb ew
      have hb22 : Below w6.heap.size w6 w22 := by rw [ew]; exact (Below.refl _ _).alloc (Nat.le_refl _) _
      have hv0 : Blk w22 b21 105 [.int .u64 0, .slice none 0 0, .int .u64 0, .int .i64 0, .int .u64 0] := by rw [eb, ew]; exact Blk.new w6 _ _
      have hb22' : Below w4.heap.size w4 w22 := hb6.trans (hb22.mono hb6.size)
      refine ⟨hb22', st5V hv0 ?_⟩
      intro w23 hv hg hs
      have hb23 : Below w4.heap.size w4 w23 := below_grown hb22' hg hb22'.size (by have := hb6.size; omega)
      refine ⟨hb23, boolF rfl (someV_some rfl ⟨_, (M4.below hb23).blk.cell (j := 15) rfl, st5V (h3b.below hb23 h3b.lt) ?_⟩)⟩
      intro w41 hv41 hg41 hs41
      refine ⟨_, _, _, _, _, _, _, ⟨hv41.cell (j := 0) rfl, hv41.cell (j := 1) rfl, hv41.cell (j := 2) rfl, hv41.cell (j := 3) rfl, hv41.cell (j := 4) rfl⟩, ?_, .inl ⟨hno, rfl⟩⟩
      have := hb2.size
      exact below_grown (hb4'.trans (hb23.mono hb4'.size)) hg41 (by have := hb23.size; have := hb4'.size; omega) (by omega)
    · refine runV_ok hrun ⟨_, _, _, _, _, _, _, _, rfl, hb6, ?_⟩
      intro b21 w22 eb ew
      have hb22 : Below w6.heap.size w6 w22 := by rw [ew]; exact (Below.refl _ _).alloc (Nat.le_refl _) _
      have hv0 : Blk w22 b21 105 [.int .u64 0, .slice none 0 0, .int .u64 0, .int .i64 0, .int .u64 0] := by rw [eb, ew]; exact Blk.new w6 _ _
      have hb22' : Below w4.heap.size w4 w22 := hb6.trans (hb22.mono hb6.size)
      refine ⟨hb22', st5V hv0 ?_⟩
      intro w23 hv hg hs
      have hb23 : Below w4.heap.size w4 w23 := below_grown hb22' hg hb22'.size (by have := hb6.size; omega)
      refine ⟨hb23, boolT rfl ⟨_, _, _, _, _, _, _, ⟨hv.cell (j := 0) rfl, hv.cell (j := 1) rfl, hv.cell (j := 2) rfl, hv.cell (j := 3) rfl, hv.cell (j := 4) rfl⟩, st5V (h3b.below hb23 h3b.lt) ?_⟩⟩
      intro w41 hv41 hg41 hs41
      refine ⟨_, _, _, _, _, _, _, ⟨hv41.cell (j := 0) rfl, hv41.cell (j := 1) rfl, hv41.cell (j := 2) rfl, hv41.cell (j := 3) rfl, hv41.cell (j := 4) rfl⟩, ?_, .inr ⟨j, y, hj, hy, rfl⟩⟩
      have := hb2.size
      exact below_grown (hb4'.trans (hb23.mono hb4'.size)) hg41 (by have := hb23.size; have := hb4'.size; omega) (by omega)
  · intro b21 w22 eb ew
    have hb22 : Below w6.heap.size w6 w22 := by rw [ew]; exact (Below.refl _ _).alloc (Nat.le_refl _) _
    have hv0 : Blk w22 b21 105 [.int .u64 0, .slice none 0 0, .int .u64 0, .int .i64 0, .int .u64 0] := by rw [eb, ew]; exact Blk.new w6 _ _
    have hb22' : Below w4.heap.size w4 w22 := hb6.trans (hb22.mono hb6.size)
    have M22 := M4.below hb22'
    refine ⟨hb22', ?_⟩
    rcases run_lookup_snd M22.snd hks dest k hk with ⟨hno, hrun⟩ | ⟨j, y, hj, hy, hrun⟩
    · refine runV_ok hrun ⟨_, _, _, _, _, _, _, _, rfl, hb22', st5V hv0 ?_⟩
      intro w23 hv hg hs
      have hb23 : Below w4.heap.size w4 w23 := below_grown hb22' hg hb22'.size (by have := hb6.size; omega)
      refine ⟨hb23, boolF rfl (someV_some rfl ⟨_, (M4.below hb23).blk.cell (j := 15) rfl, st5V (h3b.below hb23 h3b.lt) ?_⟩)⟩
      intro w41 hv41 hg41 hs41
      refine ⟨_, _, _, _, _, _, _, ⟨hv41.cell (j := 0) rfl, hv41.cell (j := 1) rfl, hv41.cell (j := 2) rfl, hv41.cell (j := 3) rfl, hv41.cell (j := 4) rfl⟩, ?_, .inl ⟨hno, rfl⟩⟩
      have := hb2.size
      exact below_grown (hb4'.trans (hb23.mono hb4'.size)) hg41 (by have := hb23.size; have := hb4'.size; omega) (by omega)
    · refine runV_ok hrun ⟨_, _, _, _, _, _, _, _, rfl, hb22', st5V hv0 ?_⟩
      intro w23 hv hg hs
      have hb23 : Below w4.heap.size w4 w23 := below_grown hb22' hg hb22'.size (by have := hb6.size; omega)
      refine ⟨hb23, boolT rfl ⟨_, _, _, _, _, _, _, ⟨hv.cell (j := 0) rfl, hv.cell (j := 1) rfl, hv.cell (j := 2) rfl, hv.cell (j := 3) rfl, hv.cell (j := 4) rfl⟩, st5V (h3b.below hb23 h3b.lt) ?_⟩⟩
      intro w41 hv41 hg41 hs41
      refine ⟨_, _, _, _, _, _, _, ⟨hv41.cell (j := 0) rfl, hv41.cell (j := 1) rfl, hv41.cell (j := 2) rfl, hv41.cell (j := 3) rfl, hv41.cell (j := 4) rfl⟩, ?_, .inr ⟨j, y, hj, hy, rfl⟩⟩
      have := hb2.size
      exact below_grown (hb4'.trans (hb23.mono hb4'.size)) hg41 (by have := hb23.size; have := hb4'.size; omega) (by omega)
end Go.Proofs.YtcofknlcdgidpaaGreatDoor
/-! ## GsenderReady -/
namespace Go.Proofs.YtcofknlcdgidpaaGreatDoor
open Go Go.Proofs.YtcofknlcdgidpaaGreatDoor.VC
set_option linter.unusedVariables false
set_option maxRecDepth 100000
set_option maxHeartbeats 0

/-! ### postroom/sender.Ready: function 38 -/
namespace sender_Ready
def t0 (R : Ending → World → Prop)  (s_0a : Int) (s_0b : Option Addr) (s_0c : Nat) (s_0d : Nat) (s_0e : Int) (s_0f : Int) (s_0g : Int) (now_1 : Int) (w : World) : Prop := ∀ (b1 : Nat) (w2 : World), b1 = w.heap.size → w2 = World.alloc w (.cells #[.int .u64 s_0a, .slice s_0b s_0c s_0d, .int .u64 s_0e, .int .i64 s_0f, .int .u64 s_0g] 105) → ∃ (a3 : Option Addr) (n4 c5 : Nat), w2.cell? ⟨b1, 1, none⟩ = some (.slice a3 n4 c5) ∧ (boolV (((n4 : Nat) : Int) == (0 : Int)) (∃ x6 : Int, w2.cell? ⟨b1, 4, none⟩ = some (.int .u64 x6) ∧ (R (.returned (.bool (decide (x6 ≤ now_1)))) w2)) (R (.returned (.bool false)) w2))
def vc (R : Ending → World → Prop) (s_0a : Int) (s_0b : Option Addr) (s_0c : Nat) (s_0d : Nat) (s_0e : Int) (s_0f : Int) (s_0g : Int) (now_1 : Int) (w : World) : Prop := t0 R  s_0a s_0b s_0c s_0d s_0e s_0f s_0g now_1 w
theorem calls (R : Ending → World → Prop) (s_0a : Int) (s_0b : Option Addr) (s_0c : Nat) (s_0d : Nat) (s_0e : Int) (s_0f : Int) (s_0g : Int) (now_1 : Int) (w : World) (h : vc R s_0a s_0b s_0c s_0d s_0e s_0f s_0g now_1 w) : Calls Tryz.prog 38 #[.agg #[.int .u64 s_0a, .slice s_0b s_0c s_0d, .int .u64 s_0e, .int .i64 s_0f, .int .u64 s_0g], .int .u64 now_1] w R :=
  calls_V Tryz.func38 (Eq.mpr (by kernel_rfl) (h))
end sender_Ready
end Go.Proofs.YtcofknlcdgidpaaGreatDoor
/-! ## GsenderStart -/
namespace Go.Proofs.YtcofknlcdgidpaaGreatDoor
open Go Go.Proofs.YtcofknlcdgidpaaGreatDoor.VC
set_option linter.unusedVariables false
set_option maxRecDepth 100000
set_option maxHeartbeats 0

/-! ### postroom/sender.Start: function 73 -/
namespace sender_Start
def t0 (R : Ending → World → Prop)  (c_0a : Int) (c_0b : Int) (c_0c : Int) (c_0d : Int) (s_1a : Int) (s_1b : Option Addr) (s_1c : Nat) (s_1d : Nat) (s_1e : Int) (s_1f : Int) (s_1g : Int) (pending_2a : Option Addr) (pending_2b : Nat) (pending_2c : Nat) (now_3 : Int) (w : World) : Prop := ∀ (b1 : Nat) (w2 : World), b1 = w.heap.size → w2 = World.alloc w (.cells #[.int .i64 c_0a, .int .u64 c_0b, .int .u64 c_0c, .int .u64 c_0d] 26) → ∀ (b3 : Nat) (w4 : World), b3 = w2.heap.size → w4 = World.alloc w2 (.cells #[.int .u64 s_1a, .slice s_1b s_1c s_1d, .int .u64 s_1e, .int .i64 s_1f, .int .u64 s_1g] 105) → ∀ (b5 : Nat) (w6 : World), b5 = w4.heap.size → w6 = World.alloc w4 (.cells #[.int .u64 0, .slice none 0 0, .int .u64 0, .int .i64 0, .int .u64 0] 105) → ∃ x7 : Int, ∃ (a8 : Option Addr) (n9 c10 : Nat), ∃ x11 : Int, ∃ x12 : Int, ∃ x13 : Int, (w6.cell? ⟨b3, 0, none⟩ = some (.int .u64 x7) ∧ w6.cell? ⟨b3, 1, none⟩ = some (.slice a8 n9 c10) ∧ w6.cell? ⟨b3, 2, none⟩ = some (.int .u64 x11) ∧ w6.cell? ⟨b3, 3, none⟩ = some (.int .i64 x12) ∧ w6.cell? ⟨b3, 4, none⟩ = some (.int .u64 x13)) ∧ (Calls Tryz.prog 38 #[.agg #[.int .u64 x7, .slice a8 n9 c10, .int .u64 x11, .int .i64 x12, .int .u64 x13], .int .u64 now_3] w6 (fun e14 w15 => ∃ t16 : Bool, e14 = .returned (.bool t16) ∧ (boolV (!t16) (Writable w15 ⟨b5, 0, none⟩ 5 ∧ ∀ w17 : World, w17 = World.setCell (World.setCell (World.setCell (World.setCell (World.setCell w15 ⟨b5, 0, none⟩ (.int .u64 0)) ⟨b5, 1, none⟩ (.slice none 0 0)) ⟨b5, 2, none⟩ (.int .u64 0)) ⟨b5, 3, none⟩ (.int .i64 0)) ⟨b5, 4, none⟩ (.int .u64 0) → ∃ x18 : Int, ∃ (a19 : Option Addr) (n20 c21 : Nat), ∃ x22 : Int, ∃ x23 : Int, ∃ x24 : Int, (w17.cell? ⟨b5, 0, none⟩ = some (.int .u64 x18) ∧ w17.cell? ⟨b5, 1, none⟩ = some (.slice a19 n20 c21) ∧ w17.cell? ⟨b5, 2, none⟩ = some (.int .u64 x22) ∧ w17.cell? ⟨b5, 3, none⟩ = some (.int .i64 x23) ∧ w17.cell? ⟨b5, 4, none⟩ = some (.int .u64 x24)) ∧ (R (.returned (.tuple #[.agg #[.int .u64 x18, .slice a19 n20 c21, .int .u64 x22, .int .i64 x23, .int .u64 x24], .int .i64 13])) w17)) (boolV (((pending_2b : Nat) : Int) == (0 : Int)) (Writable w15 ⟨b5, 0, none⟩ 5 ∧ ∀ w25 : World, w25 = World.setCell (World.setCell (World.setCell (World.setCell (World.setCell w15 ⟨b5, 0, none⟩ (.int .u64 0)) ⟨b5, 1, none⟩ (.slice none 0 0)) ⟨b5, 2, none⟩ (.int .u64 0)) ⟨b5, 3, none⟩ (.int .i64 0)) ⟨b5, 4, none⟩ (.int .u64 0) → ∃ x26 : Int, ∃ (a27 : Option Addr) (n28 c29 : Nat), ∃ x30 : Int, ∃ x31 : Int, ∃ x32 : Int, (w25.cell? ⟨b5, 0, none⟩ = some (.int .u64 x26) ∧ w25.cell? ⟨b5, 1, none⟩ = some (.slice a27 n28 c29) ∧ w25.cell? ⟨b5, 2, none⟩ = some (.int .u64 x30) ∧ w25.cell? ⟨b5, 3, none⟩ = some (.int .i64 x31) ∧ w25.cell? ⟨b5, 4, none⟩ = some (.int .u64 x32)) ∧ (R (.returned (.tuple #[.agg #[.int .u64 x26, .slice a27 n28 c29, .int .u64 x30, .int .i64 x31, .int .u64 x32], .int .i64 13])) w25)) (∃ x33 : Int, w15.cell? ⟨b3, 0, none⟩ = some (.int .u64 x33) ∧ (Writable w15 ⟨b3, 0, none⟩ 1 ∧ ∀ w34 : World, w34 = World.setCell w15 ⟨b3, 0, none⟩ (.int .u64 (IntKind.wrap .u64 (x33 + 1))) → ∃ x35 : Int, w34.cell? ⟨b1, 0, none⟩ = some (.int .i64 x35) ∧ ((0 ≤ (min2I (max2I x35 0) ((pending_2b : Nat) : Int)) ∧ (min2I (max2I x35 0) ((pending_2b : Nat) : Int)) ≤ (pending_2c : Nat)) ∧ (Calls Tryz.prog 36 #[.slice pending_2a ((min2I (max2I x35 0) ((pending_2b : Nat) : Int)).toNat) pending_2c] w34 (fun e36 w37 => ∃ (a38 : Option Addr) (n39 c40 : Nat), e36 = .returned (.slice a38 n39 c40) ∧ (Writable w37 ⟨b3, 1, none⟩ 1 ∧ ∀ w41 : World, w41 = World.setCell w37 ⟨b3, 1, none⟩ (.slice a38 n39 c40) → Writable w41 ⟨b3, 2, none⟩ 1 ∧ ∀ w42 : World, w42 = World.setCell w41 ⟨b3, 2, none⟩ (.int .u64 now_3) → ∃ x43 : Int, ∃ (a44 : Option Addr) (n45 c46 : Nat), ∃ x47 : Int, ∃ x48 : Int, ∃ x49 : Int, (w42.cell? ⟨b3, 0, none⟩ = some (.int .u64 x43) ∧ w42.cell? ⟨b3, 1, none⟩ = some (.slice a44 n45 c46) ∧ w42.cell? ⟨b3, 2, none⟩ = some (.int .u64 x47) ∧ w42.cell? ⟨b3, 3, none⟩ = some (.int .i64 x48) ∧ w42.cell? ⟨b3, 4, none⟩ = some (.int .u64 x49)) ∧ (Writable w42 ⟨b5, 0, none⟩ 5 ∧ ∀ w50 : World, w50 = World.setCell (World.setCell (World.setCell (World.setCell (World.setCell w42 ⟨b5, 0, none⟩ (.int .u64 x43)) ⟨b5, 1, none⟩ (.slice a44 n45 c46)) ⟨b5, 2, none⟩ (.int .u64 x47)) ⟨b5, 3, none⟩ (.int .i64 x48)) ⟨b5, 4, none⟩ (.int .u64 x49) → ∃ x51 : Int, ∃ (a52 : Option Addr) (n53 c54 : Nat), ∃ x55 : Int, ∃ x56 : Int, ∃ x57 : Int, (w50.cell? ⟨b5, 0, none⟩ = some (.int .u64 x51) ∧ w50.cell? ⟨b5, 1, none⟩ = some (.slice a52 n53 c54) ∧ w50.cell? ⟨b5, 2, none⟩ = some (.int .u64 x55) ∧ w50.cell? ⟨b5, 3, none⟩ = some (.int .i64 x56) ∧ w50.cell? ⟨b5, 4, none⟩ = some (.int .u64 x57)) ∧ (R (.returned (.tuple #[.agg #[.int .u64 x51, .slice a52 n53 c54, .int .u64 x55, .int .i64 x56, .int .u64 x57], .int .i64 0])) w50))))))))))))
def vc (R : Ending → World → Prop) (c_0a : Int) (c_0b : Int) (c_0c : Int) (c_0d : Int) (s_1a : Int) (s_1b : Option Addr) (s_1c : Nat) (s_1d : Nat) (s_1e : Int) (s_1f : Int) (s_1g : Int) (pending_2a : Option Addr) (pending_2b : Nat) (pending_2c : Nat) (now_3 : Int) (w : World) : Prop := t0 R  c_0a c_0b c_0c c_0d s_1a s_1b s_1c s_1d s_1e s_1f s_1g pending_2a pending_2b pending_2c now_3 w
theorem calls (R : Ending → World → Prop) (c_0a : Int) (c_0b : Int) (c_0c : Int) (c_0d : Int) (s_1a : Int) (s_1b : Option Addr) (s_1c : Nat) (s_1d : Nat) (s_1e : Int) (s_1f : Int) (s_1g : Int) (pending_2a : Option Addr) (pending_2b : Nat) (pending_2c : Nat) (now_3 : Int) (w : World) (h : vc R c_0a c_0b c_0c c_0d s_1a s_1b s_1c s_1d s_1e s_1f s_1g pending_2a pending_2b pending_2c now_3 w) : Calls Tryz.prog 73 #[.agg #[.int .i64 c_0a, .int .u64 c_0b, .int .u64 c_0c, .int .u64 c_0d], .agg #[.int .u64 s_1a, .slice s_1b s_1c s_1d, .int .u64 s_1e, .int .i64 s_1f, .int .u64 s_1g], .slice pending_2a pending_2b pending_2c, .int .u64 now_3] w R :=
  calls_V Tryz.func73 (Eq.mpr (by kernel_rfl) (h))
end sender_Start
end Go.Proofs.YtcofknlcdgidpaaGreatDoor
/-! ## GsenderReply -/
namespace Go.Proofs.YtcofknlcdgidpaaGreatDoor
open Go Go.Proofs.YtcofknlcdgidpaaGreatDoor.VC
set_option linter.unusedVariables false
set_option maxRecDepth 100000
set_option maxHeartbeats 0

/-! ### postroom/sender.Reply: function 74 -/
namespace sender_Reply
def t0 (R : Ending → World → Prop)  (c_0a : Int) (c_0b : Int) (c_0c : Int) (c_0d : Int) (s_1a : Int) (s_1b : Option Addr) (s_1c : Nat) (s_1d : Nat) (s_1e : Int) (s_1f : Int) (s_1g : Int) (id_2 : Int) (kind_3 : Int) (now_4 : Int) (jitter_5 : Int) (w : World) : Prop := ∀ (b1 : Nat) (w2 : World), b1 = w.heap.size → w2 = World.alloc w (.cells #[.int .i64 c_0a, .int .u64 c_0b, .int .u64 c_0c, .int .u64 c_0d] 26) → ∀ (b3 : Nat) (w4 : World), b3 = w2.heap.size → w4 = World.alloc w2 (.cells #[.int .u64 s_1a, .slice s_1b s_1c s_1d, .int .u64 s_1e, .int .i64 s_1f, .int .u64 s_1g] 105) → ∀ (b5 : Nat) (w6 : World), b5 = w4.heap.size → w6 = World.alloc w4 (.cells #[.int .u64 0, .slice none 0 0, .int .u64 0, .int .i64 0, .int .u64 0] 105) → boolV (decide (kind_3 < (1 : Int))) (Writable w6 ⟨b5, 0, none⟩ 5 ∧ ∀ w7 : World, w7 = World.setCell (World.setCell (World.setCell (World.setCell (World.setCell w6 ⟨b5, 0, none⟩ (.int .u64 0)) ⟨b5, 1, none⟩ (.slice none 0 0)) ⟨b5, 2, none⟩ (.int .u64 0)) ⟨b5, 3, none⟩ (.int .i64 0)) ⟨b5, 4, none⟩ (.int .u64 0) → ∃ x8 : Int, ∃ (a9 : Option Addr) (n10 c11 : Nat), ∃ x12 : Int, ∃ x13 : Int, ∃ x14 : Int, (w7.cell? ⟨b5, 0, none⟩ = some (.int .u64 x8) ∧ w7.cell? ⟨b5, 1, none⟩ = some (.slice a9 n10 c11) ∧ w7.cell? ⟨b5, 2, none⟩ = some (.int .u64 x12) ∧ w7.cell? ⟨b5, 3, none⟩ = some (.int .i64 x13) ∧ w7.cell? ⟨b5, 4, none⟩ = some (.int .u64 x14)) ∧ (R (.returned (.tuple #[.agg #[.int .u64 x8, .slice a9 n10 c11, .int .u64 x12, .int .i64 x13, .int .u64 x14], .slice none 0 0, .int .i64 1])) w7)) (boolV (decide (kind_3 > (3 : Int))) (Writable w6 ⟨b5, 0, none⟩ 5 ∧ ∀ w15 : World, w15 = World.setCell (World.setCell (World.setCell (World.setCell (World.setCell w6 ⟨b5, 0, none⟩ (.int .u64 0)) ⟨b5, 1, none⟩ (.slice none 0 0)) ⟨b5, 2, none⟩ (.int .u64 0)) ⟨b5, 3, none⟩ (.int .i64 0)) ⟨b5, 4, none⟩ (.int .u64 0) → ∃ x16 : Int, ∃ (a17 : Option Addr) (n18 c19 : Nat), ∃ x20 : Int, ∃ x21 : Int, ∃ x22 : Int, (w15.cell? ⟨b5, 0, none⟩ = some (.int .u64 x16) ∧ w15.cell? ⟨b5, 1, none⟩ = some (.slice a17 n18 c19) ∧ w15.cell? ⟨b5, 2, none⟩ = some (.int .u64 x20) ∧ w15.cell? ⟨b5, 3, none⟩ = some (.int .i64 x21) ∧ w15.cell? ⟨b5, 4, none⟩ = some (.int .u64 x22)) ∧ (R (.returned (.tuple #[.agg #[.int .u64 x16, .slice a17 n18 c19, .int .u64 x20, .int .i64 x21, .int .u64 x22], .slice none 0 0, .int .i64 1])) w15)) (∃ (a23 : Option Addr) (n24 c25 : Nat), w6.cell? ⟨b3, 1, none⟩ = some (.slice a23 n24 c25) ∧ (boolV (((n24 : Nat) : Int) == (0 : Int)) (Writable w6 ⟨b5, 0, none⟩ 5 ∧ ∀ w26 : World, w26 = World.setCell (World.setCell (World.setCell (World.setCell (World.setCell w6 ⟨b5, 0, none⟩ (.int .u64 0)) ⟨b5, 1, none⟩ (.slice none 0 0)) ⟨b5, 2, none⟩ (.int .u64 0)) ⟨b5, 3, none⟩ (.int .i64 0)) ⟨b5, 4, none⟩ (.int .u64 0) → ∃ x27 : Int, ∃ (a28 : Option Addr) (n29 c30 : Nat), ∃ x31 : Int, ∃ x32 : Int, ∃ x33 : Int, (w26.cell? ⟨b5, 0, none⟩ = some (.int .u64 x27) ∧ w26.cell? ⟨b5, 1, none⟩ = some (.slice a28 n29 c30) ∧ w26.cell? ⟨b5, 2, none⟩ = some (.int .u64 x31) ∧ w26.cell? ⟨b5, 3, none⟩ = some (.int .i64 x32) ∧ w26.cell? ⟨b5, 4, none⟩ = some (.int .u64 x33)) ∧ (R (.returned (.tuple #[.agg #[.int .u64 x27, .slice a28 n29 c30, .int .u64 x31, .int .i64 x32, .int .u64 x33], .slice none 0 0, .int .i64 13])) w26)) (∃ x34 : Int, w6.cell? ⟨b3, 0, none⟩ = some (.int .u64 x34) ∧ (boolV (id_2 != x34) (Writable w6 ⟨b5, 0, none⟩ 5 ∧ ∀ w35 : World, w35 = World.setCell (World.setCell (World.setCell (World.setCell (World.setCell w6 ⟨b5, 0, none⟩ (.int .u64 0)) ⟨b5, 1, none⟩ (.slice none 0 0)) ⟨b5, 2, none⟩ (.int .u64 0)) ⟨b5, 3, none⟩ (.int .i64 0)) ⟨b5, 4, none⟩ (.int .u64 0) → ∃ x36 : Int, ∃ (a37 : Option Addr) (n38 c39 : Nat), ∃ x40 : Int, ∃ x41 : Int, ∃ x42 : Int, (w35.cell? ⟨b5, 0, none⟩ = some (.int .u64 x36) ∧ w35.cell? ⟨b5, 1, none⟩ = some (.slice a37 n38 c39) ∧ w35.cell? ⟨b5, 2, none⟩ = some (.int .u64 x40) ∧ w35.cell? ⟨b5, 3, none⟩ = some (.int .i64 x41) ∧ w35.cell? ⟨b5, 4, none⟩ = some (.int .u64 x42)) ∧ (R (.returned (.tuple #[.agg #[.int .u64 x36, .slice a37 n38 c39, .int .u64 x40, .int .i64 x41, .int .u64 x42], .slice none 0 0, .int .i64 13])) w35)) (boolV (kind_3 == (3 : Int)) (∃ x43 : Int, ∃ x44 : Int, ∃ x45 : Int, ∃ x46 : Int, (w6.cell? ⟨b1, 0, none⟩ = some (.int .i64 x43) ∧ w6.cell? ⟨b1, 1, none⟩ = some (.int .u64 x44) ∧ w6.cell? ⟨b1, 2, none⟩ = some (.int .u64 x45) ∧ w6.cell? ⟨b1, 3, none⟩ = some (.int .u64 x46)) ∧ (∃ x47 : Int, ∃ (a48 : Option Addr) (n49 c50 : Nat), ∃ x51 : Int, ∃ x52 : Int, ∃ x53 : Int, (w6.cell? ⟨b3, 0, none⟩ = some (.int .u64 x47) ∧ w6.cell? ⟨b3, 1, none⟩ = some (.slice a48 n49 c50) ∧ w6.cell? ⟨b3, 2, none⟩ = some (.int .u64 x51) ∧ w6.cell? ⟨b3, 3, none⟩ = some (.int .i64 x52) ∧ w6.cell? ⟨b3, 4, none⟩ = some (.int .u64 x53)) ∧ (Calls Tryz.prog 107 #[.agg #[.int .i64 x43, .int .u64 x44, .int .u64 x45, .int .u64 x46], .agg #[.int .u64 x47, .slice a48 n49 c50, .int .u64 x51, .int .i64 x52, .int .u64 x53], .int .u64 now_4, .int .u64 jitter_5] w6 (fun e54 w55 => ∃ x56 : Int, ∃ (a57 : Option Addr) (n58 c59 : Nat), ∃ x60 : Int, ∃ x61 : Int, ∃ x62 : Int, e54 = .returned (.agg #[.int .u64 x56, .slice a57 n58 c59, .int .u64 x60, .int .i64 x61, .int .u64 x62]) ∧ (Writable w55 ⟨b5, 0, none⟩ 5 ∧ ∀ w63 : World, w63 = World.setCell (World.setCell (World.setCell (World.setCell (World.setCell w55 ⟨b5, 0, none⟩ (.int .u64 x56)) ⟨b5, 1, none⟩ (.slice a57 n58 c59)) ⟨b5, 2, none⟩ (.int .u64 x60)) ⟨b5, 3, none⟩ (.int .i64 x61)) ⟨b5, 4, none⟩ (.int .u64 x62) → ∃ x64 : Int, ∃ (a65 : Option Addr) (n66 c67 : Nat), ∃ x68 : Int, ∃ x69 : Int, ∃ x70 : Int, (w63.cell? ⟨b5, 0, none⟩ = some (.int .u64 x64) ∧ w63.cell? ⟨b5, 1, none⟩ = some (.slice a65 n66 c67) ∧ w63.cell? ⟨b5, 2, none⟩ = some (.int .u64 x68) ∧ w63.cell? ⟨b5, 3, none⟩ = some (.int .i64 x69) ∧ w63.cell? ⟨b5, 4, none⟩ = some (.int .u64 x70)) ∧ (R (.returned (.tuple #[.agg #[.int .u64 x64, .slice a65 n66 c67, .int .u64 x68, .int .i64 x69, .int .u64 x70], .slice none 0 0, .int .i64 0])) w63)))))) (∃ (a71 : Option Addr) (n72 c73 : Nat), w6.cell? ⟨b3, 1, none⟩ = some (.slice a71 n72 c73) ∧ (Calls Tryz.prog 36 #[.slice a71 n72 c73] w6 (fun e74 w75 => ∃ (a76 : Option Addr) (n77 c78 : Nat), e74 = .returned (.slice a76 n77 c78) ∧ (Writable w75 ⟨b3, 1, none⟩ 1 ∧ ∀ w79 : World, w79 = World.setCell w75 ⟨b3, 1, none⟩ (.slice none 0 0) → Writable w79 ⟨b3, 3, none⟩ 1 ∧ ∀ w80 : World, w80 = World.setCell w79 ⟨b3, 3, none⟩ (.int .i64 0) → Writable w80 ⟨b3, 4, none⟩ 1 ∧ ∀ w81 : World, w81 = World.setCell w80 ⟨b3, 4, none⟩ (.int .u64 now_4) → ∃ x82 : Int, ∃ (a83 : Option Addr) (n84 c85 : Nat), ∃ x86 : Int, ∃ x87 : Int, ∃ x88 : Int, (w81.cell? ⟨b3, 0, none⟩ = some (.int .u64 x82) ∧ w81.cell? ⟨b3, 1, none⟩ = some (.slice a83 n84 c85) ∧ w81.cell? ⟨b3, 2, none⟩ = some (.int .u64 x86) ∧ w81.cell? ⟨b3, 3, none⟩ = some (.int .i64 x87) ∧ w81.cell? ⟨b3, 4, none⟩ = some (.int .u64 x88)) ∧ (Writable w81 ⟨b5, 0, none⟩ 5 ∧ ∀ w89 : World, w89 = World.setCell (World.setCell (World.setCell (World.setCell (World.setCell w81 ⟨b5, 0, none⟩ (.int .u64 x82)) ⟨b5, 1, none⟩ (.slice a83 n84 c85)) ⟨b5, 2, none⟩ (.int .u64 x86)) ⟨b5, 3, none⟩ (.int .i64 x87)) ⟨b5, 4, none⟩ (.int .u64 x88) → ∃ x90 : Int, ∃ (a91 : Option Addr) (n92 c93 : Nat), ∃ x94 : Int, ∃ x95 : Int, ∃ x96 : Int, (w89.cell? ⟨b5, 0, none⟩ = some (.int .u64 x90) ∧ w89.cell? ⟨b5, 1, none⟩ = some (.slice a91 n92 c93) ∧ w89.cell? ⟨b5, 2, none⟩ = some (.int .u64 x94) ∧ w89.cell? ⟨b5, 3, none⟩ = some (.int .i64 x95) ∧ w89.cell? ⟨b5, 4, none⟩ = some (.int .u64 x96)) ∧ (R (.returned (.tuple #[.agg #[.int .u64 x90, .slice a91 n92 c93, .int .u64 x94, .int .i64 x95, .int .u64 x96], .slice a76 n77 c78, .int .i64 0])) w89))))))))))))
def vc (R : Ending → World → Prop) (c_0a : Int) (c_0b : Int) (c_0c : Int) (c_0d : Int) (s_1a : Int) (s_1b : Option Addr) (s_1c : Nat) (s_1d : Nat) (s_1e : Int) (s_1f : Int) (s_1g : Int) (id_2 : Int) (kind_3 : Int) (now_4 : Int) (jitter_5 : Int) (w : World) : Prop := t0 R  c_0a c_0b c_0c c_0d s_1a s_1b s_1c s_1d s_1e s_1f s_1g id_2 kind_3 now_4 jitter_5 w
theorem calls (R : Ending → World → Prop) (c_0a : Int) (c_0b : Int) (c_0c : Int) (c_0d : Int) (s_1a : Int) (s_1b : Option Addr) (s_1c : Nat) (s_1d : Nat) (s_1e : Int) (s_1f : Int) (s_1g : Int) (id_2 : Int) (kind_3 : Int) (now_4 : Int) (jitter_5 : Int) (w : World) (h : vc R c_0a c_0b c_0c c_0d s_1a s_1b s_1c s_1d s_1e s_1f s_1g id_2 kind_3 now_4 jitter_5 w) : Calls Tryz.prog 74 #[.agg #[.int .i64 c_0a, .int .u64 c_0b, .int .u64 c_0c, .int .u64 c_0d], .agg #[.int .u64 s_1a, .slice s_1b s_1c s_1d, .int .u64 s_1e, .int .i64 s_1f, .int .u64 s_1g], .int .u64 id_2, .int .i64 kind_3, .int .u64 now_4, .int .u64 jitter_5] w R :=
  calls_V Tryz.func74 (Eq.mpr (by kernel_rfl) (h))
end sender_Reply
end Go.Proofs.YtcofknlcdgidpaaGreatDoor
/-! ## Sender -/
namespace Go.Proofs.YtcofknlcdgidpaaGreatDoor
open Go Go.RowKit Go.Proofs.YtcofknlcdgidpaaGreatDoor.VC
set_option linter.unusedVariables false
set_option maxRecDepth 100000

theorem sender_ready (id : Int) (a : Option Addr) (n c : Nat) (since tries til now : Int) (w0 : World) :
    Calls Tryz.prog 38 #[.agg #[.int .u64 id, .slice a n c, .int .u64 since, .int .i64 tries, .int .u64 til], .int .u64 now] w0 (fun e w => e = .returned (.bool (decide (n = 0) && decide (til ≤ now))) ∧ Below w0.heap.size w0 w) := by
  apply sender_Ready.calls
  unfold sender_Ready.vc sender_Ready.t0
  refine allocV (cs := [.int .u64 id, .slice a n c, .int .u64 since, .int .i64 tries, .int .u64 til]) ?_
  intro w2 h1 hb2 hs2
  refine ⟨_, _, _, h1.cell (j := 1) rfl, ?_⟩
  by_cases h0 : n = 0
  · refine boolT (by simp [h0]) ⟨_, h1.cell (j := 4) rfl, by simp [h0], hb2⟩
  · refine boolF (by simp; omega) ⟨by simp [h0], hb2⟩
theorem sender_start (b t1 t2 t3 : Int) (id : Nat) (hid : id < 4294967296) (a0 : Option Addr) (c0 : Nat) (since tries til now : Int) (hr : til ≤ now) (l : List Nat) (hl : l ≠ []) (hlen : l.length < 4294967296) (m : Nat) (hm : min2I (max2I b 0) ((l.length : Nat) : Int) = (m : Int)) (hml : m ≤ l.length) (a : Option Addr) (c : Nat) (hc : l.length ≤ c) (w0 : World) (hrow : RowAt w0 a (u64Cs l)) :
    Calls Tryz.prog 73 #[.agg #[.int .i64 b, .int .u64 t1, .int .u64 t2, .int .u64 t3], .agg #[.int .u64 id, .slice a0 0 c0, .int .u64 since, .int .i64 tries, .int .u64 til], .slice a l.length c, .int .u64 now] w0
      (fun e w => Below w0.heap.size w0 w ∧ ∃ a' c', e = .returned (.tuple #[.agg #[.int .u64 (id + 1 : Nat), .slice a' m c', .int .u64 now, .int .i64 tries, .int .u64 til], .int .i64 0]) ∧ w.ownsRow w0.heap.size 24 1 (.slice a' m c') m (u64Cs (l.take m))) := by
  apply sender_Start.calls
  unfold sender_Start.vc sender_Start.t0
  refine allocV (cs := [.int .i64 b, .int .u64 t1, .int .u64 t2, .int .u64 t3]) ?_
  intro w2 h1 hb2 hs2
  refine allocV (cs := [.int .u64 id, .slice a0 0 c0, .int .u64 since, .int .i64 tries, .int .u64 til]) ?_
  intro w4 h3 hb4 hs4
  refine allocV (cs := [.int .u64 0, .slice none 0 0, .int .u64 0, .int .i64 0, .int .u64 0]) ?_
  intro w6 h5 hb6 hs6
  have hb6' : Below w0.heap.size w0 w6 := (hb2.trans (hb4.mono hb2.size)).trans (hb6.mono (hb2.trans (hb4.mono hb2.size)).size)
  have h36 := h3.below hb6 h3.lt
  have h16 := (h1.below hb4 h1.lt).below hb6 (by have := h1.lt; have := hb4.size; omega)
  refine ⟨_, _, _, _, _, _, _, ⟨h36.cell (j := 0) rfl, h36.cell (j := 1) rfl, h36.cell (j := 2) rfl, h36.cell (j := 3) rfl, h36.cell (j := 4) rfl⟩, (sender_ready _ _ _ _ _ _ _ _ w6).mono ?_⟩
  rintro e w15 ⟨rfl, hb15⟩
  have hb15' := hb6'.trans (hb15.mono hb6'.size)
  have h115 := h16.below hb15 h16.lt
  have h315 := h36.below hb15 h36.lt
  have h515 := h5.below hb15 h5.lt
  have hl0 : l.length ≠ 0 := fun h => hl (List.length_eq_zero_iff.mp h)
  refine ⟨_, rfl, boolF (by simp [hr]) (boolF (by simp; exact hl) ⟨_, h315.cell (j := 0) rfl, h315.writable (o := 0) (by simp), ?_⟩)⟩
  rintro w34 rfl
  have hk1 : w0.heap.size ≠ w2.heap.size := by omega
  have hk2 : w2.heap.size ≠ w4.heap.size := by omega
  have hw : IntKind.wrap .u64 ((id : Int) + 1) = ((id + 1 : Nat) : Int) := by rw [show ((id : Int) + 1) = ((id + 1 : Nat) : Int) from by omega, wrap_u64, Nat.mod_eq_of_lt (by omega)]
  rw [hw]
  have h334 := h315.set 0 (.int .u64 (id + 1 : Nat))
  have h134 := h115.other (p := ⟨w2.heap.size, 0, none⟩) (by simp; omega) (.int .u64 (id + 1 : Nat))
  have h534 := h515.other (p := ⟨w2.heap.size, 0, none⟩) (by simp; omega) (.int .u64 (id + 1 : Nat))
  have hb34 := hb15'.setCell (p := ⟨w2.heap.size, 0, none⟩) (by simp; omega) (.int .u64 (id + 1 : Nat))
  refine ⟨_, h134.cell (j := 0) rfl, ?_⟩
  rw [hm]
  have hlt : (l.take m).length = m := by rw [List.length_take]; omega
  have hrow34 : RowAt (w15.setCell ⟨w2.heap.size, 0, none⟩ (.int .u64 (id + 1 : Nat))) a (u64Cs (l.take m)) := by
    have := (hrow.below hb34 (Nat.le_refl _)).take m
    rwa [show (u64Cs l).take m = u64Cs (l.take m) from by unfold u64Cs; rw [List.map_take]] at this
  have hcl := slices_clone_u64 (l.take m) (by omega) a c _ hrow34
  rw [hlt] at hcl
  refine ⟨⟨by omega, by omega⟩, ?_⟩
  rw [Int.toNat_natCast]
  refine hcl.mono ?_
  rintro e w37 ⟨a', c', rfl, ho, hb37⟩
  have hb37' := hb34.trans (hb37.mono hb34.size)
  have h337 := h334.below hb37 h334.lt
  have h537 := h534.below hb37 h534.lt
  refine ⟨_, _, _, rfl, h337.writable (o := 1) (by simp), ?_⟩
  rintro w41 rfl
  have h341 := h337.set 1 (.slice a' m c')
  have h541 := h537.other (p := ⟨w2.heap.size, 1, none⟩) (by simp; omega) (.slice a' m c')
  have hb41 := hb37'.setCell (p := ⟨w2.heap.size, 1, none⟩) (by simp; omega) (.slice a' m c')
  have ho41 := own_set ho h337 (by decide) 1 (.slice a' m c')
  refine ⟨h341.writable (o := 2) (by simp), ?_⟩
  rintro w42 rfl
  have h342 := h341.set 2 (.int .u64 now)
  have h542 := h541.other (p := ⟨w2.heap.size, 2, none⟩) (by simp; omega) (.int .u64 now)
  have hb42 := hb41.setCell (p := ⟨w2.heap.size, 2, none⟩) (by simp; omega) (.int .u64 now)
  have ho42 := own_set ho41 h341 (by decide) 2 (.int .u64 now)
  refine ⟨_, _, _, _, _, _, _, ⟨h342.cell (j := 0) rfl, h342.cell (j := 1) rfl, h342.cell (j := 2) rfl, h342.cell (j := 3) rfl, h342.cell (j := 4) rfl⟩, st5V h542 ?_⟩
  intro w50 hv hg hs
  refine ⟨_, _, _, _, _, _, _, ⟨hv.cell (j := 0) rfl, hv.cell (j := 1) rfl, hv.cell (j := 2) rfl, hv.cell (j := 3) rfl, hv.cell (j := 4) rfl⟩, below_grown hb42 hg hb42.size (by have := hb2.size; have := hb4.size; omega), a', c', rfl, ?_⟩
  exact own_mono (ho42.kept hg (.inr (own_ne ho42 h542 (by decide)))) hb34.size
/-- A reply that accepts, or refuses: what was out is told, and nothing is out. -/
theorem sender_reply (b t1 t2 t3 : Int) (id : Nat) (l : List Nat) (hl : l ≠ []) (hlen : l.length < 4294967296) (a : Option Addr) (c : Nat) (since tries til now jit kind : Int) (hk : kind = 1 ∨ kind = 2) (w0 : World) (hrow : RowAt w0 a (u64Cs l)) :
    Calls Tryz.prog 74 #[.agg #[.int .i64 b, .int .u64 t1, .int .u64 t2, .int .u64 t3], .agg #[.int .u64 id, .slice a l.length c, .int .u64 since, .int .i64 tries, .int .u64 til], .int .u64 id, .int .i64 kind, .int .u64 now, .int .u64 jit] w0
      (fun e w => Below w0.heap.size w0 w ∧ ∃ a' c', e = .returned (.tuple #[.agg #[.int .u64 id, .slice none 0 0, .int .u64 since, .int .i64 0, .int .u64 now], .slice a' l.length c', .int .i64 0]) ∧ w.ownsRow w0.heap.size 24 1 (.slice a' l.length c') l.length (u64Cs l)) := by
  apply sender_Reply.calls
  unfold sender_Reply.vc sender_Reply.t0
  refine allocV (cs := [.int .i64 b, .int .u64 t1, .int .u64 t2, .int .u64 t3]) ?_
  intro w2 h1 hb2 hs2
  refine allocV (cs := [.int .u64 id, .slice a l.length c, .int .u64 since, .int .i64 tries, .int .u64 til]) ?_
  intro w4 h3 hb4 hs4
  refine allocV (cs := [.int .u64 0, .slice none 0 0, .int .u64 0, .int .i64 0, .int .u64 0]) ?_
  intro w6 h5 hb6 hs6
  have hb6' : Below w0.heap.size w0 w6 := (hb2.trans (hb4.mono hb2.size)).trans (hb6.mono (hb2.trans (hb4.mono hb2.size)).size)
  have h36 := h3.below hb6 h3.lt
  have h16 := (h1.below hb4 h1.lt).below hb6 (by have := h1.lt; have := hb4.size; omega)
  have hl0 : l.length ≠ 0 := fun h => hl (List.length_eq_zero_iff.mp h)
  refine boolF (by rcases hk with rfl | rfl <;> rfl) (boolF (by rcases hk with rfl | rfl <;> rfl) ⟨_, _, _, h36.cell (j := 1) rfl, boolF (by simp; exact hl) ⟨_, h36.cell (j := 0) rfl, boolF (by simp) (boolF (by rcases hk with rfl | rfl <;> rfl) ⟨_, _, _, h36.cell (j := 1) rfl, (slices_clone_u64 l (by omega) a c w6 (hrow.below hb6' (Nat.le_refl _))).mono ?_⟩)⟩⟩)
  rintro e w37 ⟨a', c', rfl, ho, hb37⟩
  have hb37' := hb6'.trans (hb37.mono hb6'.size)
  have h337 := h36.below hb37 h36.lt
  have h537 := h5.below hb37 h5.lt
  have hk2 : w2.heap.size ≠ w4.heap.size := by omega
  have hq := hb2.size
  refine ⟨_, _, _, rfl, h337.writable (o := 1) (by simp), ?_⟩
  rintro w41 rfl
  have h341 := h337.set 1 (.slice none 0 0)
  have h541 := h537.other (p := ⟨w2.heap.size, 1, none⟩) (by simp; omega) (.slice none 0 0)
  have hb41 := hb37'.setCell (p := ⟨w2.heap.size, 1, none⟩) (by simp; omega) (.slice none 0 0)
  have ho41 := own_set ho h337 (by decide) 1 (.slice none 0 0)
  refine ⟨h341.writable (o := 3) (by simp), ?_⟩
  rintro w42 rfl
  have h342 := h341.set 3 (.int .i64 0)
  have h542 := h541.other (p := ⟨w2.heap.size, 3, none⟩) (by simp; omega) (.int .i64 0)
  have hb42 := hb41.setCell (p := ⟨w2.heap.size, 3, none⟩) (by simp; omega) (.int .i64 0)
  have ho42 := own_set ho41 h341 (by decide) 3 (.int .i64 0)
  refine ⟨h342.writable (o := 4) (by simp), ?_⟩
  rintro w43 rfl
  have h343 := h342.set 4 (.int .u64 now)
  have h543 := h542.other (p := ⟨w2.heap.size, 4, none⟩) (by simp; omega) (.int .u64 now)
  have hb43 := hb42.setCell (p := ⟨w2.heap.size, 4, none⟩) (by simp; omega) (.int .u64 now)
  have ho43 := own_set ho42 h342 (by decide) 4 (.int .u64 now)
  refine ⟨_, _, _, _, _, _, _, ⟨h343.cell (j := 0) rfl, h343.cell (j := 1) rfl, h343.cell (j := 2) rfl, h343.cell (j := 3) rfl, h343.cell (j := 4) rfl⟩, st5V h543 ?_⟩
  intro w50 hv hg hs
  refine ⟨_, _, _, _, _, _, _, ⟨hv.cell (j := 0) rfl, hv.cell (j := 1) rfl, hv.cell (j := 2) rfl, hv.cell (j := 3) rfl, hv.cell (j := 4) rfl⟩, below_grown hb43 hg hb43.size (by have := hb4.size; omega), a', c', rfl, ?_⟩
  exact own_mono (ho43.kept hg (.inr (own_ne ho43 h543 (by decide)))) hb6'.size
end Go.Proofs.YtcofknlcdgidpaaGreatDoor
/-! ## GmodelModelStart -/
namespace Go.Proofs.YtcofknlcdgidpaaGreatDoor
open Go Go.Proofs.YtcofknlcdgidpaaGreatDoor.VC
set_option linter.unusedVariables false
set_option maxRecDepth 100000
set_option maxHeartbeats 0

/-! ### (*postroom/model.Model).Start: function 30 -/
namespace model_Model_Start
def t0 (R : Ending → World → Prop)  (m_0 : Option Addr) (p_1a : ByteArray) (p_1b : Int) (w : World) : Prop := ∀ (b1 : Nat) (w2 : World), b1 = w.heap.size → w2 = World.alloc w (.cells #[.string p_1a, .int .i64 p_1b] 86) → ∀ (b3 : Nat) (w4 : World), b3 = w2.heap.size → w4 = World.alloc w2 (.cells #[.string ByteArray.empty, .int .i64 0, .int .u64 0, .slice none 0 0] 88) → ∃ s5 : ByteArray, ∃ x6 : Int, (w4.cell? ⟨b1, 0, none⟩ = some (.string s5) ∧ w4.cell? ⟨b1, 1, none⟩ = some (.int .i64 x6)) ∧ (Calls Tryz.prog 72 #[.pointer m_0, .agg #[.string s5, .int .i64 x6]] w4 (fun e7 w8 => ∃ x9 : Int, e7 = .returned (.int .i64 x9) ∧ (boolV (x9 != (0 : Int)) (Writable w8 ⟨b3, 0, none⟩ 4 ∧ ∀ w10 : World, w10 = World.setCell (World.setCell (World.setCell (World.setCell w8 ⟨b3, 0, none⟩ (.string ByteArray.empty)) ⟨b3, 1, none⟩ (.int .i64 0)) ⟨b3, 2, none⟩ (.int .u64 0)) ⟨b3, 3, none⟩ (.slice none 0 0) → ∃ s11 : ByteArray, ∃ x12 : Int, ∃ x13 : Int, ∃ (a14 : Option Addr) (n15 c16 : Nat), (w10.cell? ⟨b3, 0, none⟩ = some (.string s11) ∧ w10.cell? ⟨b3, 1, none⟩ = some (.int .i64 x12) ∧ w10.cell? ⟨b3, 2, none⟩ = some (.int .u64 x13) ∧ w10.cell? ⟨b3, 3, none⟩ = some (.slice a14 n15 c16)) ∧ (R (.returned (.tuple #[.agg #[.string s11, .int .i64 x12, .int .u64 x13, .slice a14 n15 c16], .int .i64 x9])) w10)) (∃ S17 : World → Prop, (∀ w18 : World, w18.heap = w8.heap → w18.tape = w8.tape → w18.os = w8.os → w18.output = w8.output → S17 w18 ∧ (someV m_0 (fun p19 => ∃ x20 : Int, ∃ x21 : Int, ∃ x22 : Int, ∃ x23 : Int, (∀ w, S17 w → w.cell? (p19.add 2) = some (.int .i64 x20) ∧ w.cell? ((p19.add 2).add 1) = some (.int .u64 x21) ∧ w.cell? ((p19.add 2).add 2) = some (.int .u64 x22) ∧ w.cell? ((p19.add 2).add 3) = some (.int .u64 x23)) ∧ (∃ s24 : ByteArray, ∃ x25 : Int, (∀ w, S17 w → w.cell? ⟨b1, 0, none⟩ = some (.string s24) ∧ w.cell? ⟨b1, 1, none⟩ = some (.int .i64 x25)) ∧ (∃ s26 : ByteArray, ∃ x27 : Int, (∀ w, S17 w → w.cell? ⟨b1, 0, none⟩ = some (.string s26) ∧ w.cell? ⟨b1, 1, none⟩ = some (.int .i64 x27)) ∧ (someV m_0 (fun p28 => ∃ x29 : Int, (∀ w, S17 w → w.cell? (p28.add 16) = some (.int .u64 x29)) ∧ ((Calls Tryz.prog 39 #[.pointer m_0, .agg #[.string s24, .int .i64 x25]] w18 (fun e30 w31 => ∃ x32 : Int, ∃ (a33 : Option Addr) (n34 c35 : Nat), ∃ x36 : Int, ∃ x37 : Int, ∃ x38 : Int, e30 = .returned (.agg #[.int .u64 x32, .slice a33 n34 c35, .int .u64 x36, .int .i64 x37, .int .u64 x38]) ∧ (S17 w31 ∧ ((Calls Tryz.prog 40 #[.pointer m_0, .agg #[.string s26, .int .i64 x27]] w31 (fun e39 w40 => ∃ (a41 : Option Addr) (n42 c43 : Nat), e39 = .returned (.slice a41 n42 c43) ∧ (S17 w40 ∧ ((Calls Tryz.prog 73 #[.agg #[.int .i64 x20, .int .u64 x21, .int .u64 x22, .int .u64 x23], .agg #[.int .u64 x32, .slice a33 n34 c35, .int .u64 x36, .int .i64 x37, .int .u64 x38], .slice a41 n42 c43, .int .u64 x29] w40 (fun e44 w45 => ∃ x46 : Int, ∃ (a47 : Option Addr) (n48 c49 : Nat), ∃ x50 : Int, ∃ x51 : Int, ∃ x52 : Int, ∃ x53 : Int, e44 = .returned (.tuple #[.agg #[.int .u64 x46, .slice a47 n48 c49, .int .u64 x50, .int .i64 x51, .int .u64 x52], .int .i64 x53]) ∧ (S17 w45 ∧ (∀ (b54 : Nat) (w55 : World), b54 = w45.heap.size → w55 = World.alloc w45 (.cells #[.int .u64 0, .slice none 0 0, .int .u64 0, .int .i64 0, .int .u64 0] 105) → S17 w55 ∧ (Writable w55 ⟨b54, 0, none⟩ 5 ∧ ∀ w56 : World, w56 = World.setCell (World.setCell (World.setCell (World.setCell (World.setCell w55 ⟨b54, 0, none⟩ (.int .u64 x46)) ⟨b54, 1, none⟩ (.slice a47 n48 c49)) ⟨b54, 2, none⟩ (.int .u64 x50)) ⟨b54, 3, none⟩ (.int .i64 x51)) ⟨b54, 4, none⟩ (.int .u64 x52) → S17 w56 ∧ (boolV (x53 != (0 : Int)) (Writable w56 ⟨b3, 0, none⟩ 4 ∧ ∀ w57 : World, w57 = World.setCell (World.setCell (World.setCell (World.setCell w56 ⟨b3, 0, none⟩ (.string ByteArray.empty)) ⟨b3, 1, none⟩ (.int .i64 0)) ⟨b3, 2, none⟩ (.int .u64 0)) ⟨b3, 3, none⟩ (.slice none 0 0) → ∃ s58 : ByteArray, ∃ x59 : Int, ∃ x60 : Int, ∃ (a61 : Option Addr) (n62 c63 : Nat), (w57.cell? ⟨b3, 0, none⟩ = some (.string s58) ∧ w57.cell? ⟨b3, 1, none⟩ = some (.int .i64 x59) ∧ w57.cell? ⟨b3, 2, none⟩ = some (.int .u64 x60) ∧ w57.cell? ⟨b3, 3, none⟩ = some (.slice a61 n62 c63)) ∧ (R (.returned (.tuple #[.agg #[.string s58, .int .i64 x59, .int .u64 x60, .slice a61 n62 c63], .int .i64 x53])) w57)) (∃ S64 : World → Prop, (∀ w65 : World, w65.heap = w56.heap → w65.tape = w56.tape → w65.os = w56.os → w65.output = w56.output → S64 w65 ∧ (someV m_0 (fun p66 => ∃ r67 : Option Nat, (∀ w, S64 w → w.cell? (p66.add 14) = some (.map r67)) ∧ (∃ s68 : ByteArray, ∃ x69 : Int, (∀ w, S64 w → w.cell? ⟨b1, 0, none⟩ = some (.string s68) ∧ w.cell? ⟨b1, 1, none⟩ = some (.int .i64 x69)) ∧ (∃ x70 : Int, ∃ (a71 : Option Addr) (n72 c73 : Nat), ∃ x74 : Int, ∃ x75 : Int, ∃ x76 : Int, (∀ w, S64 w → w.cell? ⟨b54, 0, none⟩ = some (.int .u64 x70) ∧ w.cell? ⟨b54, 1, none⟩ = some (.slice a71 n72 c73) ∧ w.cell? ⟨b54, 2, none⟩ = some (.int .u64 x74) ∧ w.cell? ⟨b54, 3, none⟩ = some (.int .i64 x75) ∧ w.cell? ⟨b54, 4, none⟩ = some (.int .u64 x76)) ∧ (unitV Tryz.prog (Instr.mapUpdate 95 (.map r67) (.agg #[.string s68, .int .i64 x69]) (.agg #[.int .u64 x70, .slice a71 n72 c73, .int .u64 x74, .int .i64 x75, .int .u64 x76])) w65 (fun w77 => ∃ S78 : World → Prop, (∀ w79 : World, w79.heap = w77.heap → w79.tape = w77.tape → w79.os = w77.os → w79.output = w77.output → S78 w79 ∧ (someV m_0 (fun p80 => ∃ x81 : Int, (∀ w, S78 w → w.cell? (p80.add 15) = some (.int .u64 x81)) ∧ (∃ x82 : Int, (∀ w, S78 w → w.cell? ⟨b54, 0, none⟩ = some (.int .u64 x82)) ∧ (someV m_0 (fun p83 => Writable w79 (p83.add 15) 1 ∧ ∀ w84 : World, w84 = World.setCell w79 (p83.add 15) (.int .u64 (max2I x81 x82)) → ∃ S85 : World → Prop, (∀ w86 : World, w86.heap = w84.heap → w86.tape = w84.tape → w86.os = w84.os → w86.output = w84.output → S85 w86 ∧ (∃ s87 : ByteArray, ∃ x88 : Int, (∀ w, S85 w → w.cell? ⟨b1, 0, none⟩ = some (.string s87) ∧ w.cell? ⟨b1, 1, none⟩ = some (.int .i64 x88)) ∧ (∃ x89 : Int, (∀ w, S85 w → w.cell? ⟨b54, 0, none⟩ = some (.int .u64 x89)) ∧ (∃ (a90 : Option Addr) (n91 c92 : Nat), (∀ w, S85 w → w.cell? ⟨b54, 1, none⟩ = some (.slice a90 n91 c92)) ∧ (Calls Tryz.prog 36 #[.slice a90 n91 c92] w86 (fun e93 w94 => ∃ (a95 : Option Addr) (n96 c97 : Nat), e93 = .returned (.slice a95 n96 c97) ∧ (S85 w94 ∧ (Writable w94 ⟨b3, 0, none⟩ 4 ∧ ∀ w98 : World, w98 = World.setCell (World.setCell (World.setCell (World.setCell w94 ⟨b3, 0, none⟩ (.string s87)) ⟨b3, 1, none⟩ (.int .i64 x88)) ⟨b3, 2, none⟩ (.int .u64 x89)) ⟨b3, 3, none⟩ (.slice a95 n96 c97) → ∃ S99 : World → Prop, S99 w98 ∧ (∃ s100 : ByteArray, ∃ x101 : Int, ∃ x102 : Int, ∃ (a103 : Option Addr) (n104 c105 : Nat), (w98.cell? ⟨b3, 0, none⟩ = some (.string s100) ∧ w98.cell? ⟨b3, 1, none⟩ = some (.int .i64 x101) ∧ w98.cell? ⟨b3, 2, none⟩ = some (.int .u64 x102) ∧ w98.cell? ⟨b3, 3, none⟩ = some (.slice a103 n104 c105)) ∧ (R (.returned (.tuple #[.agg #[.string s100, .int .i64 x101, .int .u64 x102, .slice a103 n104 c105], .int .i64 0])) w98)))))))))))))))))))))))))))))) ∧ (∀ (b106 : Nat) (w107 : World), b106 = w40.heap.size → w107 = World.alloc w40 (.cells #[.int .u64 0, .slice none 0 0, .int .u64 0, .int .i64 0, .int .u64 0] 105) → S17 w107 ∧ (Calls Tryz.prog 73 #[.agg #[.int .i64 x20, .int .u64 x21, .int .u64 x22, .int .u64 x23], .agg #[.int .u64 x32, .slice a33 n34 c35, .int .u64 x36, .int .i64 x37, .int .u64 x38], .slice a41 n42 c43, .int .u64 x29] w107 (fun e108 w109 => ∃ x110 : Int, ∃ (a111 : Option Addr) (n112 c113 : Nat), ∃ x114 : Int, ∃ x115 : Int, ∃ x116 : Int, ∃ x117 : Int, e108 = .returned (.tuple #[.agg #[.int .u64 x110, .slice a111 n112 c113, .int .u64 x114, .int .i64 x115, .int .u64 x116], .int .i64 x117]) ∧ (S17 w109 ∧ (Writable w109 ⟨b106, 0, none⟩ 5 ∧ ∀ w118 : World, w118 = World.setCell (World.setCell (World.setCell (World.setCell (World.setCell w109 ⟨b106, 0, none⟩ (.int .u64 x110)) ⟨b106, 1, none⟩ (.slice a111 n112 c113)) ⟨b106, 2, none⟩ (.int .u64 x114)) ⟨b106, 3, none⟩ (.int .i64 x115)) ⟨b106, 4, none⟩ (.int .u64 x116) → S17 w118 ∧ (boolV (x117 != (0 : Int)) (Writable w118 ⟨b3, 0, none⟩ 4 ∧ ∀ w119 : World, w119 = World.setCell (World.setCell (World.setCell (World.setCell w118 ⟨b3, 0, none⟩ (.string ByteArray.empty)) ⟨b3, 1, none⟩ (.int .i64 0)) ⟨b3, 2, none⟩ (.int .u64 0)) ⟨b3, 3, none⟩ (.slice none 0 0) → ∃ s120 : ByteArray, ∃ x121 : Int, ∃ x122 : Int, ∃ (a123 : Option Addr) (n124 c125 : Nat), (w119.cell? ⟨b3, 0, none⟩ = some (.string s120) ∧ w119.cell? ⟨b3, 1, none⟩ = some (.int .i64 x121) ∧ w119.cell? ⟨b3, 2, none⟩ = some (.int .u64 x122) ∧ w119.cell? ⟨b3, 3, none⟩ = some (.slice a123 n124 c125)) ∧ (R (.returned (.tuple #[.agg #[.string s120, .int .i64 x121, .int .u64 x122, .slice a123 n124 c125], .int .i64 x117])) w119)) (∃ S126 : World → Prop, (∀ w127 : World, w127.heap = w118.heap → w127.tape = w118.tape → w127.os = w118.os → w127.output = w118.output → S126 w127 ∧ (someV m_0 (fun p128 => ∃ r129 : Option Nat, (∀ w, S126 w → w.cell? (p128.add 14) = some (.map r129)) ∧ (∃ s130 : ByteArray, ∃ x131 : Int, (∀ w, S126 w → w.cell? ⟨b1, 0, none⟩ = some (.string s130) ∧ w.cell? ⟨b1, 1, none⟩ = some (.int .i64 x131)) ∧ (∃ x132 : Int, ∃ (a133 : Option Addr) (n134 c135 : Nat), ∃ x136 : Int, ∃ x137 : Int, ∃ x138 : Int, (∀ w, S126 w → w.cell? ⟨b106, 0, none⟩ = some (.int .u64 x132) ∧ w.cell? ⟨b106, 1, none⟩ = some (.slice a133 n134 c135) ∧ w.cell? ⟨b106, 2, none⟩ = some (.int .u64 x136) ∧ w.cell? ⟨b106, 3, none⟩ = some (.int .i64 x137) ∧ w.cell? ⟨b106, 4, none⟩ = some (.int .u64 x138)) ∧ (unitV Tryz.prog (Instr.mapUpdate 95 (.map r129) (.agg #[.string s130, .int .i64 x131]) (.agg #[.int .u64 x132, .slice a133 n134 c135, .int .u64 x136, .int .i64 x137, .int .u64 x138])) w127 (fun w139 => ∃ S140 : World → Prop, (∀ w141 : World, w141.heap = w139.heap → w141.tape = w139.tape → w141.os = w139.os → w141.output = w139.output → S140 w141 ∧ (someV m_0 (fun p142 => ∃ x143 : Int, (∀ w, S140 w → w.cell? (p142.add 15) = some (.int .u64 x143)) ∧ (∃ x144 : Int, (∀ w, S140 w → w.cell? ⟨b106, 0, none⟩ = some (.int .u64 x144)) ∧ (someV m_0 (fun p145 => Writable w141 (p145.add 15) 1 ∧ ∀ w146 : World, w146 = World.setCell w141 (p145.add 15) (.int .u64 (max2I x143 x144)) → ∃ S147 : World → Prop, (∀ w148 : World, w148.heap = w146.heap → w148.tape = w146.tape → w148.os = w146.os → w148.output = w146.output → S147 w148 ∧ (∃ s149 : ByteArray, ∃ x150 : Int, (∀ w, S147 w → w.cell? ⟨b1, 0, none⟩ = some (.string s149) ∧ w.cell? ⟨b1, 1, none⟩ = some (.int .i64 x150)) ∧ (∃ x151 : Int, (∀ w, S147 w → w.cell? ⟨b106, 0, none⟩ = some (.int .u64 x151)) ∧ (∃ (a152 : Option Addr) (n153 c154 : Nat), (∀ w, S147 w → w.cell? ⟨b106, 1, none⟩ = some (.slice a152 n153 c154)) ∧ (Calls Tryz.prog 36 #[.slice a152 n153 c154] w148 (fun e155 w156 => ∃ (a157 : Option Addr) (n158 c159 : Nat), e155 = .returned (.slice a157 n158 c159) ∧ (S147 w156 ∧ (Writable w156 ⟨b3, 0, none⟩ 4 ∧ ∀ w160 : World, w160 = World.setCell (World.setCell (World.setCell (World.setCell w156 ⟨b3, 0, none⟩ (.string s149)) ⟨b3, 1, none⟩ (.int .i64 x150)) ⟨b3, 2, none⟩ (.int .u64 x151)) ⟨b3, 3, none⟩ (.slice a157 n158 c159) → ∃ S161 : World → Prop, S161 w160 ∧ (∃ s162 : ByteArray, ∃ x163 : Int, ∃ x164 : Int, ∃ (a165 : Option Addr) (n166 c167 : Nat), (w160.cell? ⟨b3, 0, none⟩ = some (.string s162) ∧ w160.cell? ⟨b3, 1, none⟩ = some (.int .i64 x163) ∧ w160.cell? ⟨b3, 2, none⟩ = some (.int .u64 x164) ∧ w160.cell? ⟨b3, 3, none⟩ = some (.slice a165 n166 c167)) ∧ (R (.returned (.tuple #[.agg #[.string s162, .int .i64 x163, .int .u64 x164, .slice a165 n166 c167], .int .i64 0])) w160)))))))))))))))))))))))))))))))))) ∧ (∀ (b168 : Nat) (w169 : World), b168 = w31.heap.size → w169 = World.alloc w31 (.cells #[.int .u64 0, .slice none 0 0, .int .u64 0, .int .i64 0, .int .u64 0] 105) → S17 w169 ∧ (Calls Tryz.prog 40 #[.pointer m_0, .agg #[.string s26, .int .i64 x27]] w169 (fun e170 w171 => ∃ (a172 : Option Addr) (n173 c174 : Nat), e170 = .returned (.slice a172 n173 c174) ∧ (S17 w171 ∧ (Calls Tryz.prog 73 #[.agg #[.int .i64 x20, .int .u64 x21, .int .u64 x22, .int .u64 x23], .agg #[.int .u64 x32, .slice a33 n34 c35, .int .u64 x36, .int .i64 x37, .int .u64 x38], .slice a172 n173 c174, .int .u64 x29] w171 (fun e175 w176 => ∃ x177 : Int, ∃ (a178 : Option Addr) (n179 c180 : Nat), ∃ x181 : Int, ∃ x182 : Int, ∃ x183 : Int, ∃ x184 : Int, e175 = .returned (.tuple #[.agg #[.int .u64 x177, .slice a178 n179 c180, .int .u64 x181, .int .i64 x182, .int .u64 x183], .int .i64 x184]) ∧ (S17 w176 ∧ (Writable w176 ⟨b168, 0, none⟩ 5 ∧ ∀ w185 : World, w185 = World.setCell (World.setCell (World.setCell (World.setCell (World.setCell w176 ⟨b168, 0, none⟩ (.int .u64 x177)) ⟨b168, 1, none⟩ (.slice a178 n179 c180)) ⟨b168, 2, none⟩ (.int .u64 x181)) ⟨b168, 3, none⟩ (.int .i64 x182)) ⟨b168, 4, none⟩ (.int .u64 x183) → S17 w185 ∧ (boolV (x184 != (0 : Int)) (Writable w185 ⟨b3, 0, none⟩ 4 ∧ ∀ w186 : World, w186 = World.setCell (World.setCell (World.setCell (World.setCell w185 ⟨b3, 0, none⟩ (.string ByteArray.empty)) ⟨b3, 1, none⟩ (.int .i64 0)) ⟨b3, 2, none⟩ (.int .u64 0)) ⟨b3, 3, none⟩ (.slice none 0 0) → ∃ s187 : ByteArray, ∃ x188 : Int, ∃ x189 : Int, ∃ (a190 : Option Addr) (n191 c192 : Nat), (w186.cell? ⟨b3, 0, none⟩ = some (.string s187) ∧ w186.cell? ⟨b3, 1, none⟩ = some (.int .i64 x188) ∧ w186.cell? ⟨b3, 2, none⟩ = some (.int .u64 x189) ∧ w186.cell? ⟨b3, 3, none⟩ = some (.slice a190 n191 c192)) ∧ (R (.returned (.tuple #[.agg #[.string s187, .int .i64 x188, .int .u64 x189, .slice a190 n191 c192], .int .i64 x184])) w186)) (∃ S193 : World → Prop, (∀ w194 : World, w194.heap = w185.heap → w194.tape = w185.tape → w194.os = w185.os → w194.output = w185.output → S193 w194 ∧ (someV m_0 (fun p195 => ∃ r196 : Option Nat, (∀ w, S193 w → w.cell? (p195.add 14) = some (.map r196)) ∧ (∃ s197 : ByteArray, ∃ x198 : Int, (∀ w, S193 w → w.cell? ⟨b1, 0, none⟩ = some (.string s197) ∧ w.cell? ⟨b1, 1, none⟩ = some (.int .i64 x198)) ∧ (∃ x199 : Int, ∃ (a200 : Option Addr) (n201 c202 : Nat), ∃ x203 : Int, ∃ x204 : Int, ∃ x205 : Int, (∀ w, S193 w → w.cell? ⟨b168, 0, none⟩ = some (.int .u64 x199) ∧ w.cell? ⟨b168, 1, none⟩ = some (.slice a200 n201 c202) ∧ w.cell? ⟨b168, 2, none⟩ = some (.int .u64 x203) ∧ w.cell? ⟨b168, 3, none⟩ = some (.int .i64 x204) ∧ w.cell? ⟨b168, 4, none⟩ = some (.int .u64 x205)) ∧ (unitV Tryz.prog (Instr.mapUpdate 95 (.map r196) (.agg #[.string s197, .int .i64 x198]) (.agg #[.int .u64 x199, .slice a200 n201 c202, .int .u64 x203, .int .i64 x204, .int .u64 x205])) w194 (fun w206 => ∃ S207 : World → Prop, (∀ w208 : World, w208.heap = w206.heap → w208.tape = w206.tape → w208.os = w206.os → w208.output = w206.output → S207 w208 ∧ (someV m_0 (fun p209 => ∃ x210 : Int, (∀ w, S207 w → w.cell? (p209.add 15) = some (.int .u64 x210)) ∧ (∃ x211 : Int, (∀ w, S207 w → w.cell? ⟨b168, 0, none⟩ = some (.int .u64 x211)) ∧ (someV m_0 (fun p212 => Writable w208 (p212.add 15) 1 ∧ ∀ w213 : World, w213 = World.setCell w208 (p212.add 15) (.int .u64 (max2I x210 x211)) → ∃ S214 : World → Prop, (∀ w215 : World, w215.heap = w213.heap → w215.tape = w213.tape → w215.os = w213.os → w215.output = w213.output → S214 w215 ∧ (∃ s216 : ByteArray, ∃ x217 : Int, (∀ w, S214 w → w.cell? ⟨b1, 0, none⟩ = some (.string s216) ∧ w.cell? ⟨b1, 1, none⟩ = some (.int .i64 x217)) ∧ (∃ x218 : Int, (∀ w, S214 w → w.cell? ⟨b168, 0, none⟩ = some (.int .u64 x218)) ∧ (∃ (a219 : Option Addr) (n220 c221 : Nat), (∀ w, S214 w → w.cell? ⟨b168, 1, none⟩ = some (.slice a219 n220 c221)) ∧ (Calls Tryz.prog 36 #[.slice a219 n220 c221] w215 (fun e222 w223 => ∃ (a224 : Option Addr) (n225 c226 : Nat), e222 = .returned (.slice a224 n225 c226) ∧ (S214 w223 ∧ (Writable w223 ⟨b3, 0, none⟩ 4 ∧ ∀ w227 : World, w227 = World.setCell (World.setCell (World.setCell (World.setCell w223 ⟨b3, 0, none⟩ (.string s216)) ⟨b3, 1, none⟩ (.int .i64 x217)) ⟨b3, 2, none⟩ (.int .u64 x218)) ⟨b3, 3, none⟩ (.slice a224 n225 c226) → ∃ S228 : World → Prop, S228 w227 ∧ (∃ s229 : ByteArray, ∃ x230 : Int, ∃ x231 : Int, ∃ (a232 : Option Addr) (n233 c234 : Nat), (w227.cell? ⟨b3, 0, none⟩ = some (.string s229) ∧ w227.cell? ⟨b3, 1, none⟩ = some (.int .i64 x230) ∧ w227.cell? ⟨b3, 2, none⟩ = some (.int .u64 x231) ∧ w227.cell? ⟨b3, 3, none⟩ = some (.slice a232 n233 c234)) ∧ (R (.returned (.tuple #[.agg #[.string s229, .int .i64 x230, .int .u64 x231, .slice a232 n233 c234], .int .i64 0])) w227))))))))))))))))))))))))))))))))))))) ∧ (∀ (b235 : Nat) (w236 : World), b235 = w18.heap.size → w236 = World.alloc w18 (.cells #[.int .u64 0, .slice none 0 0, .int .u64 0, .int .i64 0, .int .u64 0] 105) → S17 w236 ∧ (Calls Tryz.prog 39 #[.pointer m_0, .agg #[.string s24, .int .i64 x25]] w236 (fun e237 w238 => ∃ x239 : Int, ∃ (a240 : Option Addr) (n241 c242 : Nat), ∃ x243 : Int, ∃ x244 : Int, ∃ x245 : Int, e237 = .returned (.agg #[.int .u64 x239, .slice a240 n241 c242, .int .u64 x243, .int .i64 x244, .int .u64 x245]) ∧ (S17 w238 ∧ (Calls Tryz.prog 40 #[.pointer m_0, .agg #[.string s26, .int .i64 x27]] w238 (fun e246 w247 => ∃ (a248 : Option Addr) (n249 c250 : Nat), e246 = .returned (.slice a248 n249 c250) ∧ (S17 w247 ∧ (Calls Tryz.prog 73 #[.agg #[.int .i64 x20, .int .u64 x21, .int .u64 x22, .int .u64 x23], .agg #[.int .u64 x239, .slice a240 n241 c242, .int .u64 x243, .int .i64 x244, .int .u64 x245], .slice a248 n249 c250, .int .u64 x29] w247 (fun e251 w252 => ∃ x253 : Int, ∃ (a254 : Option Addr) (n255 c256 : Nat), ∃ x257 : Int, ∃ x258 : Int, ∃ x259 : Int, ∃ x260 : Int, e251 = .returned (.tuple #[.agg #[.int .u64 x253, .slice a254 n255 c256, .int .u64 x257, .int .i64 x258, .int .u64 x259], .int .i64 x260]) ∧ (S17 w252 ∧ (Writable w252 ⟨b235, 0, none⟩ 5 ∧ ∀ w261 : World, w261 = World.setCell (World.setCell (World.setCell (World.setCell (World.setCell w252 ⟨b235, 0, none⟩ (.int .u64 x253)) ⟨b235, 1, none⟩ (.slice a254 n255 c256)) ⟨b235, 2, none⟩ (.int .u64 x257)) ⟨b235, 3, none⟩ (.int .i64 x258)) ⟨b235, 4, none⟩ (.int .u64 x259) → S17 w261 ∧ (boolV (x260 != (0 : Int)) (Writable w261 ⟨b3, 0, none⟩ 4 ∧ ∀ w262 : World, w262 = World.setCell (World.setCell (World.setCell (World.setCell w261 ⟨b3, 0, none⟩ (.string ByteArray.empty)) ⟨b3, 1, none⟩ (.int .i64 0)) ⟨b3, 2, none⟩ (.int .u64 0)) ⟨b3, 3, none⟩ (.slice none 0 0) → ∃ s263 : ByteArray, ∃ x264 : Int, ∃ x265 : Int, ∃ (a266 : Option Addr) (n267 c268 : Nat), (w262.cell? ⟨b3, 0, none⟩ = some (.string s263) ∧ w262.cell? ⟨b3, 1, none⟩ = some (.int .i64 x264) ∧ w262.cell? ⟨b3, 2, none⟩ = some (.int .u64 x265) ∧ w262.cell? ⟨b3, 3, none⟩ = some (.slice a266 n267 c268)) ∧ (R (.returned (.tuple #[.agg #[.string s263, .int .i64 x264, .int .u64 x265, .slice a266 n267 c268], .int .i64 x260])) w262)) (∃ S269 : World → Prop, (∀ w270 : World, w270.heap = w261.heap → w270.tape = w261.tape → w270.os = w261.os → w270.output = w261.output → S269 w270 ∧ (someV m_0 (fun p271 => ∃ r272 : Option Nat, (∀ w, S269 w → w.cell? (p271.add 14) = some (.map r272)) ∧ (∃ s273 : ByteArray, ∃ x274 : Int, (∀ w, S269 w → w.cell? ⟨b1, 0, none⟩ = some (.string s273) ∧ w.cell? ⟨b1, 1, none⟩ = some (.int .i64 x274)) ∧ (∃ x275 : Int, ∃ (a276 : Option Addr) (n277 c278 : Nat), ∃ x279 : Int, ∃ x280 : Int, ∃ x281 : Int, (∀ w, S269 w → w.cell? ⟨b235, 0, none⟩ = some (.int .u64 x275) ∧ w.cell? ⟨b235, 1, none⟩ = some (.slice a276 n277 c278) ∧ w.cell? ⟨b235, 2, none⟩ = some (.int .u64 x279) ∧ w.cell? ⟨b235, 3, none⟩ = some (.int .i64 x280) ∧ w.cell? ⟨b235, 4, none⟩ = some (.int .u64 x281)) ∧ (unitV Tryz.prog (Instr.mapUpdate 95 (.map r272) (.agg #[.string s273, .int .i64 x274]) (.agg #[.int .u64 x275, .slice a276 n277 c278, .int .u64 x279, .int .i64 x280, .int .u64 x281])) w270 (fun w282 => ∃ S283 : World → Prop, (∀ w284 : World, w284.heap = w282.heap → w284.tape = w282.tape → w284.os = w282.os → w284.output = w282.output → S283 w284 ∧ (someV m_0 (fun p285 => ∃ x286 : Int, (∀ w, S283 w → w.cell? (p285.add 15) = some (.int .u64 x286)) ∧ (∃ x287 : Int, (∀ w, S283 w → w.cell? ⟨b235, 0, none⟩ = some (.int .u64 x287)) ∧ (someV m_0 (fun p288 => Writable w284 (p288.add 15) 1 ∧ ∀ w289 : World, w289 = World.setCell w284 (p288.add 15) (.int .u64 (max2I x286 x287)) → ∃ S290 : World → Prop, (∀ w291 : World, w291.heap = w289.heap → w291.tape = w289.tape → w291.os = w289.os → w291.output = w289.output → S290 w291 ∧ (∃ s292 : ByteArray, ∃ x293 : Int, (∀ w, S290 w → w.cell? ⟨b1, 0, none⟩ = some (.string s292) ∧ w.cell? ⟨b1, 1, none⟩ = some (.int .i64 x293)) ∧ (∃ x294 : Int, (∀ w, S290 w → w.cell? ⟨b235, 0, none⟩ = some (.int .u64 x294)) ∧ (∃ (a295 : Option Addr) (n296 c297 : Nat), (∀ w, S290 w → w.cell? ⟨b235, 1, none⟩ = some (.slice a295 n296 c297)) ∧ (Calls Tryz.prog 36 #[.slice a295 n296 c297] w291 (fun e298 w299 => ∃ (a300 : Option Addr) (n301 c302 : Nat), e298 = .returned (.slice a300 n301 c302) ∧ (S290 w299 ∧ (Writable w299 ⟨b3, 0, none⟩ 4 ∧ ∀ w303 : World, w303 = World.setCell (World.setCell (World.setCell (World.setCell w299 ⟨b3, 0, none⟩ (.string s292)) ⟨b3, 1, none⟩ (.int .i64 x293)) ⟨b3, 2, none⟩ (.int .u64 x294)) ⟨b3, 3, none⟩ (.slice a300 n301 c302) → ∃ S304 : World → Prop, S304 w303 ∧ (∃ s305 : ByteArray, ∃ x306 : Int, ∃ x307 : Int, ∃ (a308 : Option Addr) (n309 c310 : Nat), (w303.cell? ⟨b3, 0, none⟩ = some (.string s305) ∧ w303.cell? ⟨b3, 1, none⟩ = some (.int .i64 x306) ∧ w303.cell? ⟨b3, 2, none⟩ = some (.int .u64 x307) ∧ w303.cell? ⟨b3, 3, none⟩ = some (.slice a308 n309 c310)) ∧ (R (.returned (.tuple #[.agg #[.string s305, .int .i64 x306, .int .u64 x307, .slice a308 n309 c310], .int .i64 0])) w303))))))))))))))))))))))))))))))))))))))))))))))))
def vc (R : Ending → World → Prop) (m_0 : Option Addr) (p_1a : ByteArray) (p_1b : Int) (w : World) : Prop := t0 R  m_0 p_1a p_1b w
theorem calls (R : Ending → World → Prop) (m_0 : Option Addr) (p_1a : ByteArray) (p_1b : Int) (w : World) (h : vc R m_0 p_1a p_1b w) : Calls Tryz.prog 30 #[.pointer m_0, .agg #[.string p_1a, .int .i64 p_1b]] w R :=
  calls_V Tryz.func30 (Eq.mpr (by kernel_rfl) (h))
end model_Model_Start
end Go.Proofs.YtcofknlcdgidpaaGreatDoor
/-! ## Start -/
namespace Go.Proofs.YtcofknlcdgidpaaGreatDoor
open Go Go.RowKit Go.Proofs.YtcofknlcdgidpaaGreatDoor.VC
set_option linter.unusedVariables false
set_option maxRecDepth 100000

theorem blk_ne {w : World} {b b' : Nat} {e e' : TypeId} {cs cs' : List Value} (h : Blk w b e cs) (h' : Blk w b' e' cs') (hne : e ≠ e') : b ≠ b' := by
  rintro rfl
  unfold Blk at h h'
  rw [h] at h'
  injection h' with h'
  injection h' with _ h'
  exact hne h'
/-- A store into a block that is none of the model's. -/
theorem MAt.other {B : Nat} {M : ML} {s : MS} {w w' : World} (h : MAt B M s w) {b : Nat} {ty : TypeId} {cs : List Value} (hb : Blk w b ty cs) (h1 : 97 ≠ ty) (h2 : 63 ≠ ty) (h3 : 24 ≠ ty) (hg : w.grownBy w' (some b)) : MAt B M s w' :=
  { h with blk := h.blk.grown hg (fun e => by cases e; exact blk_ne h.blk hb h1 rfl), dst := h.dst.kept hg (.inr (own_ne h.dst hb h2)), beg := h.beg.kept hg (.inr (own_ne h.beg hb h3)),
           all := (hg.block _ (Array.getElem?_eq_some_iff.1 h.all).1 (by simp; exact (map_ne_blk h.all hb).symm)).trans h.all,
           snd := (hg.block _ (Array.getElem?_eq_some_iff.1 h.snd).1 (by simp; exact (map_ne_blk h.snd hb).symm)).trans h.snd }
/-- Another map of senders. -/
theorem MAt.sput {B : Nat} {M : ML} {s : MS} {w : World} (h : MAt B M s w) (l : List SE) (clk : Nat) :
    MAt B { M with sclk := clk } { s with snd := l } (Go.ChangeMaps.setBlock w M.sb (.map (l.map SE.ent).toArray clk)) := by
  have hg := setBlock_grown w M.sb (.map (l.map SE.ent).toArray clk)
  have hlt := (Array.getElem?_eq_some_iff.1 h.snd).1
  exact { h with blk := h.blk.grown hg (by simp; exact map_ne_blk h.snd h.blk), dst := h.dst.kept hg (.inr (map_ne_own h.snd h.dst)), beg := h.beg.kept hg (.inr (map_ne_own h.snd h.beg)),
                 all := by rw [heap_setBlock_ne h.ne.symm]; exact h.all
                 snd := heap_setBlock_same hlt _ }
theorem sender_start' (b t1 t2 t3 : Int) (id : Nat) (hid : id < 4294967296) (a0 : Option Addr) (c0 : Nat) (since tries til now : Int) (hr : til ≤ now) (l : List Nat) (hl : l ≠ []) (hlen : l.length < 4294967296) (L : List Nat) (hL : L = l.take L.length) (hm : min2I (max2I b 0) ((l.length : Nat) : Int) = (L.length : Int)) (a : Option Addr) (c : Nat) (hc : l.length ≤ c) (w0 : World) (hrow : RowAt w0 a (u64Cs l)) :
    Calls Tryz.prog 73 #[.agg #[.int .i64 b, .int .u64 t1, .int .u64 t2, .int .u64 t3], .agg #[.int .u64 id, .slice a0 0 c0, .int .u64 since, .int .i64 tries, .int .u64 til], .slice a l.length c, .int .u64 now] w0
      (fun e w => Below w0.heap.size w0 w ∧ ∃ a' c', e = .returned (.tuple #[.agg #[.int .u64 (id + 1 : Nat), .slice a' L.length c', .int .u64 now, .int .i64 tries, .int .u64 til], .int .i64 0]) ∧ w.ownsRow w0.heap.size 24 1 (.slice a' L.length c') L.length (u64Cs L)) := by
  have hll : L.length ≤ l.length := by have := congrArg List.length hL; rw [List.length_take] at this; omega
  have := sender_start b t1 t2 t3 id hid a0 c0 since tries til now hr l hl hlen L.length hm hll a c hc w0 hrow
  rwa [← hL] at this

theorem model_start {B : Nat} {M : ML} {s : MS} (w0 : World) (h : MAt B M s w0) (hnx : s.next < 4294967296) (hl : s.l.length ≤ 429496729) (dest : Txt) (k : Int) (x : DestL) (hx : s.l.find? (fun x => x.d.name == dest) = some x) (h0 : 0 ≤ k) (h1 : k < s.shards)
    (hk : KeyOK dest k) (hks : ∀ y ∈ s.snd, KeyOK y.dest y.shard) (hno : ∀ y ∈ s.snd, ¬ hasKey y dest k) (htop : s.top < 4294967295) (hnow : 0 ≤ s.now)
    (hall : ∀ q ∈ pendL s.l dest s.next, q < s.durable ∧ ∃ x, s.all.find? (fun x => x.seq == q) = some x ∧ x.ser.length < 9223372036854775807 ∧ shardOf x.ser s.shards = k)
    (hne : pendL s.l dest s.next ≠ []) (hpl : (pendL s.l dest s.next).length < 4294967296) (L : List Nat) (hL : L = (pendL s.l dest s.next).take L.length) (hm : min2I (max2I s.c.batch 0) (((pendL s.l dest s.next).length : Nat) : Int) = (L.length : Int)) :
    Calls Tryz.prog 30 #[.pointer (some ⟨M.mb, 0, none⟩), keyV dest k] w0 (fun e w => ∃ a c ar cr, e = .returned (.tuple #[.agg #[.string (S dest), .int .i64 k, .int .u64 (s.top + 1 : Nat), .slice ar L.length cr], .int .i64 0]) ∧ Below B w0 w ∧
      MAt B { M with sclk := M.sclk + 1 } { s with snd := s.snd ++ [⟨dest, k, s.top + 1, a, L, c, s.now, 0, 0, M.sclk⟩], top := s.top + 1 } w ∧ w.ownsRow B 24 1 (.slice a L.length c) L.length (u64Cs L)) := by
  apply model_Model_Start.calls
  unfold model_Model_Start.vc model_Model_Start.t0
  refine allocV (cs := [.string (S dest), .int .i64 k]) ?_
  intro w2 h1b hb2 hs2
  refine allocV (cs := [.string ByteArray.empty, .int .i64 0, .int .u64 0, .slice none 0 0]) ?_
  intro w4 h3b hb4 hs4
  have hb4' := hb2.trans (hb4.mono hb2.size)
  have h14 := h1b.below hb4 h1b.lt
  have M4 := h.below hb4'
  refine ⟨_, _, ⟨h14.cell (j := 0) rfl, h14.cell (j := 1) rfl⟩, (model_check w4 M4 hl dest k x hx h0 h1).mono ?_⟩
  rintro e w8 ⟨rfl, hb8⟩
  have hb8' := hb4'.trans (hb8.mono hb4'.size)
  have h18 := h14.below hb8 h14.lt
  have h38 := h3b.below hb8 h3b.lt
  have M8 := h.below hb8'
  have hs8 : w4.heap.size ≤ w8.heap.size := hb8.size
  have hB : B ≤ w0.heap.size := h.size
  have hmb := h.blk.lt
  refine ⟨_, rfl, boolF rfl ⟨fun W => Below w8.heap.size w8 W, ?_⟩⟩
  intro w18 e1 e2 e3 e4
  have hb18 := same_below (w := w8) (w' := w18) w8.heap.size e1 e2 e3 e4
  have hb := hb18
  refine ⟨hb18, someV_some rfl ⟨_, _, _, _, fun W hW => ⟨(M8.below hW).blk.cell (j := 2) rfl, (M8.below hW).blk.cell (j := 3) rfl, (M8.below hW).blk.cell (j := 4) rfl, (M8.below hW).blk.cell (j := 5) rfl⟩, _, _, fun W hW => ⟨(h18.below hW h18.lt).cell (j := 0) rfl, (h18.below hW h18.lt).cell (j := 1) rfl⟩, _, _, fun W hW => ⟨(h18.below hW h18.lt).cell (j := 0) rfl, (h18.below hW h18.lt).cell (j := 1) rfl⟩, someV_some rfl ⟨_, fun W hW => (M8.below hW).blk.cell (j := 16) rfl, ?_, ?_⟩⟩⟩
  · refine (model_at w18 (M8.below hb) hks dest k hk).mono ?_
    rintro e u1 ⟨hv0, hat⟩
    have hat := (hat.resolve_right (fun ⟨j, y, hj, hy, _⟩ => hno y (List.mem_of_getElem? hj) hy)).2
    subst hat
    have hb : Below w8.heap.size w8 u1 := hb.trans (hv0.mono hb.size)
    refine ⟨_, _, _, _, _, _, _, rfl, hb, ?_⟩
    refine ⟨?_, ?_⟩
    · refine (model_waiting u1 (M8.below hb) hnx hl dest k hall).mono ?_
      rintro e u2 ⟨hv0, aw, cw, rfl, how⟩
      have hb : Below w8.heap.size w8 u2 := hb.trans (hv0.mono hb.size)
      refine ⟨_, _, _, rfl, hb, ?_⟩
      refine ⟨?_, ?_⟩
      · refine (sender_start' s.c.batch s.c.timeout s.c.base s.c.most s.top (by omega) none 0 0 0 0 s.now hnow (pendL s.l dest s.next) hne hpl L hL hm aw cw (own_le how) u2 (RowAt.of_own how)).mono ?_
        rintro e u3 ⟨hv0, al, cl, rfl, ho⟩
        have ho := own_mono ho hb.size
        have hb : Below w8.heap.size w8 u3 := hb.trans (hv0.mono hb.size)
        refine ⟨_, _, _, _, _, _, _, _, rfl, hb, ?_⟩
        intro b54 u4 eb ew
        have hv0 : Below u3.heap.size u3 u4 := by rw [ew]; exact (Below.refl _ _).alloc (Nat.le_refl _) _
        have hbge : w8.heap.size ≤ b54 := by rw [eb]; exact hb.size
        have hz : Blk u4 b54 105 [.int .u64 0, .slice none 0 0, .int .u64 0, .int .i64 0, .int .u64 0] := by rw [eb, ew]; exact Blk.new u3 _ _
        have ho := own_below ho hv0
        have hb : Below w8.heap.size w8 u4 := hb.trans (hv0.mono hb.size)
        clear eb ew
        refine ⟨hb, ?_⟩
        refine st5V hz ?_
        intro W hv hgW hsW
        have hbW : Below w8.heap.size w8 W := below_grown hb hgW hb.size hbge
        have hoW : W.ownsRow w8.heap.size 24 1 (.slice al L.length cl) L.length (u64Cs L) := ho.kept hgW (.inr (own_ne ho hz (by decide)))
        refine ⟨hbW, boolF rfl ⟨fun V => Below W.heap.size W V, ?_⟩⟩
        intro w65 e1 e2 e3 e4
        have hb65 := same_below (w := W) (w' := w65) W.heap.size e1 e2 e3 e4
        have hb65' : Below w8.heap.size w8 w65 := hbW.trans (hb65.mono hbW.size)
        have up : ∀ V, Below W.heap.size W V → Below w8.heap.size w8 V := fun V hV => hbW.trans (hV.mono hbW.size)
        obtain ⟨X, hX⟩ : ∃ X : SE, X = ⟨dest, k, s.top + 1, al, L, cl, s.now, 0, 0, M.sclk⟩ := ⟨_, rfl⟩
        have M65 := M8.below hb65'
        have h165 := h18.below hb65' h18.lt
        have h365 := h38.below hb65' h38.lt
        have hv65 := hv.below hb65 hv.lt
        have ho65 := own_below hoW hb65
        have hrun := (run_mapUpdate_snd M65.snd hks X (by rw [hX]; exact hk) (by rw [hX])).resolve_right (fun ⟨j, y, hj, hy, _⟩ => hno y (List.mem_of_getElem? hj) (by rw [hX] at hy; exact hy))
        refine ⟨hb65, someV_some rfl ⟨_, fun V hV => (M8.below (up V hV)).blk.cell (j := 14) rfl, _, _, fun V hV => ⟨(h18.below (up V hV) h18.lt).cell (j := 0) rfl, (h18.below (up V hV) h18.lt).cell (j := 1) rfl⟩, _, _, _, _, _, _, _, fun V hV => ⟨(hv.below hV hv.lt).cell (j := 0) rfl, (hv.below hV hv.lt).cell (j := 1) rfl, (hv.below hV hv.lt).cell (j := 2) rfl, (hv.below hV hv.lt).cell (j := 3) rfl, (hv.below hV hv.lt).cell (j := 4) rfl⟩, unitV_ok (w' := Go.ChangeMaps.setBlock w65 M.sb (.map ((s.snd ++ [X]).map SE.ent).toArray (M.sclk + 1))) (by have := hrun.2; rw [hX] at this ⊢; exact this) ?_⟩⟩
        have hg77 := setBlock_grown w65 M.sb (.map ((s.snd ++ [X]).map SE.ent).toArray (M.sclk + 1))
        have M77 := M65.sput (s.snd ++ [X]) (M.sclk + 1)
        have h177 := h165.grown hg77 (by simp; exact map_ne_blk M65.snd h165)
        have h377 := h365.grown hg77 (by simp; exact map_ne_blk M65.snd h365)
        have hv77 := hv65.grown hg77 (by simp; exact map_ne_blk M65.snd hv65)
        have ho77 := ho65.kept hg77 (.inr (map_ne_own M65.snd ho65))
        have hB77 := (hb8'.trans (hb65'.mono hb8'.size)).mono hB |>.grown hg77 (by have := hb8'.size; have := hb65'.size; omega) (fun i e => by cases e; exact h.hs)
        have hz77 : w8.heap.size ≤ (Go.ChangeMaps.setBlock w65 M.sb (.map ((s.snd ++ [X]).map SE.ent).toArray (M.sclk + 1))).heap.size := by have := hg77.size; have := hb65'.size; omega
        generalize Go.ChangeMaps.setBlock w65 M.sb (.map ((s.snd ++ [X]).map SE.ent).toArray (M.sclk + 1)) = w77 at hg77 M77 h177 h377 hv77 ho77 hB77 hz77 ⊢
        refine ⟨fun V => Below w77.heap.size w77 V, ?_⟩
        intro w79 e1 e2 e3 e4
        have hb79 := same_below (w := w77) (w' := w79) w77.heap.size e1 e2 e3 e4
        have M79 := M77.below hb79
        have h179 := h177.below hb79 h177.lt
        have h379 := h377.below hb79 h377.lt
        have hv79 := hv77.below hb79 hv77.lt
        have ho79 := own_below ho77 hb79
        refine ⟨hb79, someV_some rfl ⟨_, fun V hV => (M77.below hV).blk.cell (j := 15) rfl, _, fun V hV => (hv77.below hV hv77.lt).cell (j := 0) rfl, someV_some rfl ⟨?_, ?_⟩⟩⟩
        · rw [Addr_add]; exact M79.blk.writable (by simp [MS.cells])
        rintro w84 rfl
        have hmx : max2I ((s.top : Nat) : Int) ((s.top + 1 : Nat) : Int) = ((s.top + 1 : Nat) : Int) := by unfold max2I; rw [if_pos (by omega)]
        rw [show max2I (({ s with snd := s.snd ++ [X] } : MS).top : Int) ((s.top + 1 : Nat) : Int) = ((s.top + 1 : Nat) : Int) from hmx]
        simp only [Addr_add, Nat.zero_add]
        have hg84 : w79.grownBy _ (some M.mb) := gset (grown_refl w79 _) 15 (.int .u64 (s.top + 1 : Nat))
        have M84 : MAt B { M with sclk := M.sclk + 1 } { s with snd := s.snd ++ [X], top := s.top + 1 } _ := M79.put hg84 rfl rfl rfl rfl rfl rfl rfl (M79.blk.set 15 (.int .u64 (s.top + 1 : Nat))) (own_mset M79.dst M79.blk (by decide) hg84) M79.pl (own_mset M79.beg M79.blk (by decide) hg84)
        have h184 := h179.grown hg84 (by simp; omega)
        have h384 := h379.grown hg84 (by simp; omega)
        have hv84 := hv79.grown hg84 (by simp; have := hb8'.size; omega)
        have ho84 := own_mset ho79 M79.blk (by decide) hg84
        have hB84 := (hB77.trans (hb79.mono (by have := hb8'.size; omega))).grown hg84 (by have := hb8'.size; have := hb79.size; omega) (fun i e => by cases e; exact h.hm)
        have hz84 : w8.heap.size ≤ (w79.setCell ⟨M.mb, 15, none⟩ (.int .u64 (s.top + 1 : Nat))).heap.size := by have := hg84.size; have := hb79.size; omega
        generalize w79.setCell ⟨M.mb, 15, none⟩ (.int .u64 (s.top + 1 : Nat)) = w84 at hg84 M84 h184 h384 hv84 ho84 hB84 hz84 ⊢
        refine ⟨fun V => Below w84.heap.size w84 V, ?_⟩
        intro w86 e1 e2 e3 e4
        have hb86 := same_below (w := w84) (w' := w86) w84.heap.size e1 e2 e3 e4
        have ho86 := own_below ho84 hb86
        refine ⟨hb86, _, _, fun V hV => ⟨(h184.below hV h184.lt).cell (j := 0) rfl, (h184.below hV h184.lt).cell (j := 1) rfl⟩, _, fun V hV => (hv84.below hV hv84.lt).cell (j := 0) rfl, _, _, _, fun V hV => (hv84.below hV hv84.lt).cell (j := 1) rfl, (slices_clone_u64 L (by have := congrArg List.length hL; rw [List.length_take] at this; omega) al cl w86 (RowAt.of_own ho86)).mono ?_⟩
        rintro e w94 ⟨ar, cr, rfl, hor, hb94⟩
        have hb94' : Below w84.heap.size w84 w94 := hb86.trans (hb94.mono hb86.size)
        have h394 := h384.below hb94' h384.lt
        refine ⟨_, _, _, rfl, hb94', st4V h394 ?_⟩
        intro w98 hv98 hg98 hs98
        refine ⟨fun _ => True, trivial, _, _, _, _, _, _, ⟨hv98.cell (j := 0) rfl, hv98.cell (j := 1) rfl, hv98.cell (j := 2) rfl, hv98.cell (j := 3) rfl⟩, al, cl, ar, cr, rfl, ?_, ?_, ?_⟩
        · exact (hB84.trans (hb94'.mono (by have := hb8'.size; omega))).grown hg98 (by have := hb8'.size; have := hb94'.size; omega) (fun i e => by cases e; have := hb2.size; omega)
        · rw [← hX]
          exact (M84.below hb94').other h394 (by decide) (by decide) (by decide) hg98
        · exact own_mono ((own_below ho84 hb94').kept hg98 (.inr (own_ne (own_below ho84 hb94') h394 (by decide)))) (by have := hb8'.size; omega)
      · intro b54 u5 eb ew
        have hv0 : Below u2.heap.size u2 u5 := by rw [ew]; exact (Below.refl _ _).alloc (Nat.le_refl _) _
        have hbge : w8.heap.size ≤ b54 := by rw [eb]; exact hb.size
        have hz : Blk u5 b54 105 [.int .u64 0, .slice none 0 0, .int .u64 0, .int .i64 0, .int .u64 0] := by rw [eb, ew]; exact Blk.new u2 _ _
        have how := own_below how hv0
        have hb : Below w8.heap.size w8 u5 := hb.trans (hv0.mono hb.size)
        clear eb ew
        refine ⟨hb, ?_⟩
        refine (sender_start' s.c.batch s.c.timeout s.c.base s.c.most s.top (by omega) none 0 0 0 0 s.now hnow (pendL s.l dest s.next) hne hpl L hL hm aw cw (own_le how) u5 (RowAt.of_own how)).mono ?_
        rintro e u6 ⟨hv0, al, cl, rfl, ho⟩
        have ho := own_mono ho hb.size
        have hz := hz.below hv0 hz.lt
        have hb : Below w8.heap.size w8 u6 := hb.trans (hv0.mono hb.size)
        refine ⟨_, _, _, _, _, _, _, _, rfl, hb, ?_⟩
        refine st5V hz ?_
        intro W hv hgW hsW
        have hbW : Below w8.heap.size w8 W := below_grown hb hgW hb.size hbge
        have hoW : W.ownsRow w8.heap.size 24 1 (.slice al L.length cl) L.length (u64Cs L) := ho.kept hgW (.inr (own_ne ho hz (by decide)))
        refine ⟨hbW, boolF rfl ⟨fun V => Below W.heap.size W V, ?_⟩⟩
        intro w65 e1 e2 e3 e4
        have hb65 := same_below (w := W) (w' := w65) W.heap.size e1 e2 e3 e4
        have hb65' : Below w8.heap.size w8 w65 := hbW.trans (hb65.mono hbW.size)
        have up : ∀ V, Below W.heap.size W V → Below w8.heap.size w8 V := fun V hV => hbW.trans (hV.mono hbW.size)
        obtain ⟨X, hX⟩ : ∃ X : SE, X = ⟨dest, k, s.top + 1, al, L, cl, s.now, 0, 0, M.sclk⟩ := ⟨_, rfl⟩
        have M65 := M8.below hb65'
        have h165 := h18.below hb65' h18.lt
        have h365 := h38.below hb65' h38.lt
        have hv65 := hv.below hb65 hv.lt
        have ho65 := own_below hoW hb65
        have hrun := (run_mapUpdate_snd M65.snd hks X (by rw [hX]; exact hk) (by rw [hX])).resolve_right (fun ⟨j, y, hj, hy, _⟩ => hno y (List.mem_of_getElem? hj) (by rw [hX] at hy; exact hy))
        refine ⟨hb65, someV_some rfl ⟨_, fun V hV => (M8.below (up V hV)).blk.cell (j := 14) rfl, _, _, fun V hV => ⟨(h18.below (up V hV) h18.lt).cell (j := 0) rfl, (h18.below (up V hV) h18.lt).cell (j := 1) rfl⟩, _, _, _, _, _, _, _, fun V hV => ⟨(hv.below hV hv.lt).cell (j := 0) rfl, (hv.below hV hv.lt).cell (j := 1) rfl, (hv.below hV hv.lt).cell (j := 2) rfl, (hv.below hV hv.lt).cell (j := 3) rfl, (hv.below hV hv.lt).cell (j := 4) rfl⟩, unitV_ok (w' := Go.ChangeMaps.setBlock w65 M.sb (.map ((s.snd ++ [X]).map SE.ent).toArray (M.sclk + 1))) (by have := hrun.2; rw [hX] at this ⊢; exact this) ?_⟩⟩
        have hg77 := setBlock_grown w65 M.sb (.map ((s.snd ++ [X]).map SE.ent).toArray (M.sclk + 1))
        have M77 := M65.sput (s.snd ++ [X]) (M.sclk + 1)
        have h177 := h165.grown hg77 (by simp; exact map_ne_blk M65.snd h165)
        have h377 := h365.grown hg77 (by simp; exact map_ne_blk M65.snd h365)
        have hv77 := hv65.grown hg77 (by simp; exact map_ne_blk M65.snd hv65)
        have ho77 := ho65.kept hg77 (.inr (map_ne_own M65.snd ho65))
        have hB77 := (hb8'.trans (hb65'.mono hb8'.size)).mono hB |>.grown hg77 (by have := hb8'.size; have := hb65'.size; omega) (fun i e => by cases e; exact h.hs)
        have hz77 : w8.heap.size ≤ (Go.ChangeMaps.setBlock w65 M.sb (.map ((s.snd ++ [X]).map SE.ent).toArray (M.sclk + 1))).heap.size := by have := hg77.size; have := hb65'.size; omega
        generalize Go.ChangeMaps.setBlock w65 M.sb (.map ((s.snd ++ [X]).map SE.ent).toArray (M.sclk + 1)) = w77 at hg77 M77 h177 h377 hv77 ho77 hB77 hz77 ⊢
        refine ⟨fun V => Below w77.heap.size w77 V, ?_⟩
        intro w79 e1 e2 e3 e4
        have hb79 := same_below (w := w77) (w' := w79) w77.heap.size e1 e2 e3 e4
        have M79 := M77.below hb79
        have h179 := h177.below hb79 h177.lt
        have h379 := h377.below hb79 h377.lt
        have hv79 := hv77.below hb79 hv77.lt
        have ho79 := own_below ho77 hb79
        refine ⟨hb79, someV_some rfl ⟨_, fun V hV => (M77.below hV).blk.cell (j := 15) rfl, _, fun V hV => (hv77.below hV hv77.lt).cell (j := 0) rfl, someV_some rfl ⟨?_, ?_⟩⟩⟩
        · rw [Addr_add]; exact M79.blk.writable (by simp [MS.cells])
        rintro w84 rfl
        have hmx : max2I ((s.top : Nat) : Int) ((s.top + 1 : Nat) : Int) = ((s.top + 1 : Nat) : Int) := by unfold max2I; rw [if_pos (by omega)]
        rw [show max2I (({ s with snd := s.snd ++ [X] } : MS).top : Int) ((s.top + 1 : Nat) : Int) = ((s.top + 1 : Nat) : Int) from hmx]
        simp only [Addr_add, Nat.zero_add]
        have hg84 : w79.grownBy _ (some M.mb) := gset (grown_refl w79 _) 15 (.int .u64 (s.top + 1 : Nat))
        have M84 : MAt B { M with sclk := M.sclk + 1 } { s with snd := s.snd ++ [X], top := s.top + 1 } _ := M79.put hg84 rfl rfl rfl rfl rfl rfl rfl (M79.blk.set 15 (.int .u64 (s.top + 1 : Nat))) (own_mset M79.dst M79.blk (by decide) hg84) M79.pl (own_mset M79.beg M79.blk (by decide) hg84)
        have h184 := h179.grown hg84 (by simp; omega)
        have h384 := h379.grown hg84 (by simp; omega)
        have hv84 := hv79.grown hg84 (by simp; have := hb8'.size; omega)
        have ho84 := own_mset ho79 M79.blk (by decide) hg84
        have hB84 := (hB77.trans (hb79.mono (by have := hb8'.size; omega))).grown hg84 (by have := hb8'.size; have := hb79.size; omega) (fun i e => by cases e; exact h.hm)
        have hz84 : w8.heap.size ≤ (w79.setCell ⟨M.mb, 15, none⟩ (.int .u64 (s.top + 1 : Nat))).heap.size := by have := hg84.size; have := hb79.size; omega
        generalize w79.setCell ⟨M.mb, 15, none⟩ (.int .u64 (s.top + 1 : Nat)) = w84 at hg84 M84 h184 h384 hv84 ho84 hB84 hz84 ⊢
        refine ⟨fun V => Below w84.heap.size w84 V, ?_⟩
        intro w86 e1 e2 e3 e4
        have hb86 := same_below (w := w84) (w' := w86) w84.heap.size e1 e2 e3 e4
        have ho86 := own_below ho84 hb86
        refine ⟨hb86, _, _, fun V hV => ⟨(h184.below hV h184.lt).cell (j := 0) rfl, (h184.below hV h184.lt).cell (j := 1) rfl⟩, _, fun V hV => (hv84.below hV hv84.lt).cell (j := 0) rfl, _, _, _, fun V hV => (hv84.below hV hv84.lt).cell (j := 1) rfl, (slices_clone_u64 L (by have := congrArg List.length hL; rw [List.length_take] at this; omega) al cl w86 (RowAt.of_own ho86)).mono ?_⟩
        rintro e w94 ⟨ar, cr, rfl, hor, hb94⟩
        have hb94' : Below w84.heap.size w84 w94 := hb86.trans (hb94.mono hb86.size)
        have h394 := h384.below hb94' h384.lt
        refine ⟨_, _, _, rfl, hb94', st4V h394 ?_⟩
        intro w98 hv98 hg98 hs98
        refine ⟨fun _ => True, trivial, _, _, _, _, _, _, ⟨hv98.cell (j := 0) rfl, hv98.cell (j := 1) rfl, hv98.cell (j := 2) rfl, hv98.cell (j := 3) rfl⟩, al, cl, ar, cr, rfl, ?_, ?_, ?_⟩
        · exact (hB84.trans (hb94'.mono (by have := hb8'.size; omega))).grown hg98 (by have := hb8'.size; have := hb94'.size; omega) (fun i e => by cases e; have := hb2.size; omega)
        · rw [← hX]
          exact (M84.below hb94').other h394 (by decide) (by decide) (by decide) hg98
        · exact own_mono ((own_below ho84 hb94').kept hg98 (.inr (own_ne (own_below ho84 hb94') h394 (by decide)))) (by have := hb8'.size; omega)
    · intro b54 u7 eb ew
      have hv0 : Below u1.heap.size u1 u7 := by rw [ew]; exact (Below.refl _ _).alloc (Nat.le_refl _) _
      have hbge : w8.heap.size ≤ b54 := by rw [eb]; exact hb.size
      have hz : Blk u7 b54 105 [.int .u64 0, .slice none 0 0, .int .u64 0, .int .i64 0, .int .u64 0] := by rw [eb, ew]; exact Blk.new u1 _ _
      have hb : Below w8.heap.size w8 u7 := hb.trans (hv0.mono hb.size)
      clear eb ew
      refine ⟨hb, ?_⟩
      refine (model_waiting u7 (M8.below hb) hnx hl dest k hall).mono ?_
      rintro e u8 ⟨hv0, aw, cw, rfl, how⟩
      have hz := hz.below hv0 hz.lt
      have hb : Below w8.heap.size w8 u8 := hb.trans (hv0.mono hb.size)
      refine ⟨_, _, _, rfl, hb, ?_⟩
      refine (sender_start' s.c.batch s.c.timeout s.c.base s.c.most s.top (by omega) none 0 0 0 0 s.now hnow (pendL s.l dest s.next) hne hpl L hL hm aw cw (own_le how) u8 (RowAt.of_own how)).mono ?_
      rintro e u9 ⟨hv0, al, cl, rfl, ho⟩
      have ho := own_mono ho hb.size
      have hz := hz.below hv0 hz.lt
      have hb : Below w8.heap.size w8 u9 := hb.trans (hv0.mono hb.size)
      refine ⟨_, _, _, _, _, _, _, _, rfl, hb, ?_⟩
      refine st5V hz ?_
      intro W hv hgW hsW
      have hbW : Below w8.heap.size w8 W := below_grown hb hgW hb.size hbge
      have hoW : W.ownsRow w8.heap.size 24 1 (.slice al L.length cl) L.length (u64Cs L) := ho.kept hgW (.inr (own_ne ho hz (by decide)))
      refine ⟨hbW, boolF rfl ⟨fun V => Below W.heap.size W V, ?_⟩⟩
      intro w65 e1 e2 e3 e4
      have hb65 := same_below (w := W) (w' := w65) W.heap.size e1 e2 e3 e4
      have hb65' : Below w8.heap.size w8 w65 := hbW.trans (hb65.mono hbW.size)
      have up : ∀ V, Below W.heap.size W V → Below w8.heap.size w8 V := fun V hV => hbW.trans (hV.mono hbW.size)
      obtain ⟨X, hX⟩ : ∃ X : SE, X = ⟨dest, k, s.top + 1, al, L, cl, s.now, 0, 0, M.sclk⟩ := ⟨_, rfl⟩
      have M65 := M8.below hb65'
      have h165 := h18.below hb65' h18.lt
      have h365 := h38.below hb65' h38.lt
      have hv65 := hv.below hb65 hv.lt
      have ho65 := own_below hoW hb65
      have hrun := (run_mapUpdate_snd M65.snd hks X (by rw [hX]; exact hk) (by rw [hX])).resolve_right (fun ⟨j, y, hj, hy, _⟩ => hno y (List.mem_of_getElem? hj) (by rw [hX] at hy; exact hy))
      refine ⟨hb65, someV_some rfl ⟨_, fun V hV => (M8.below (up V hV)).blk.cell (j := 14) rfl, _, _, fun V hV => ⟨(h18.below (up V hV) h18.lt).cell (j := 0) rfl, (h18.below (up V hV) h18.lt).cell (j := 1) rfl⟩, _, _, _, _, _, _, _, fun V hV => ⟨(hv.below hV hv.lt).cell (j := 0) rfl, (hv.below hV hv.lt).cell (j := 1) rfl, (hv.below hV hv.lt).cell (j := 2) rfl, (hv.below hV hv.lt).cell (j := 3) rfl, (hv.below hV hv.lt).cell (j := 4) rfl⟩, unitV_ok (w' := Go.ChangeMaps.setBlock w65 M.sb (.map ((s.snd ++ [X]).map SE.ent).toArray (M.sclk + 1))) (by have := hrun.2; rw [hX] at this ⊢; exact this) ?_⟩⟩
      have hg77 := setBlock_grown w65 M.sb (.map ((s.snd ++ [X]).map SE.ent).toArray (M.sclk + 1))
      have M77 := M65.sput (s.snd ++ [X]) (M.sclk + 1)
      have h177 := h165.grown hg77 (by simp; exact map_ne_blk M65.snd h165)
      have h377 := h365.grown hg77 (by simp; exact map_ne_blk M65.snd h365)
      have hv77 := hv65.grown hg77 (by simp; exact map_ne_blk M65.snd hv65)
      have ho77 := ho65.kept hg77 (.inr (map_ne_own M65.snd ho65))
      have hB77 := (hb8'.trans (hb65'.mono hb8'.size)).mono hB |>.grown hg77 (by have := hb8'.size; have := hb65'.size; omega) (fun i e => by cases e; exact h.hs)
      have hz77 : w8.heap.size ≤ (Go.ChangeMaps.setBlock w65 M.sb (.map ((s.snd ++ [X]).map SE.ent).toArray (M.sclk + 1))).heap.size := by have := hg77.size; have := hb65'.size; omega
      generalize Go.ChangeMaps.setBlock w65 M.sb (.map ((s.snd ++ [X]).map SE.ent).toArray (M.sclk + 1)) = w77 at hg77 M77 h177 h377 hv77 ho77 hB77 hz77 ⊢
      refine ⟨fun V => Below w77.heap.size w77 V, ?_⟩
      intro w79 e1 e2 e3 e4
      have hb79 := same_below (w := w77) (w' := w79) w77.heap.size e1 e2 e3 e4
      have M79 := M77.below hb79
      have h179 := h177.below hb79 h177.lt
      have h379 := h377.below hb79 h377.lt
      have hv79 := hv77.below hb79 hv77.lt
      have ho79 := own_below ho77 hb79
      refine ⟨hb79, someV_some rfl ⟨_, fun V hV => (M77.below hV).blk.cell (j := 15) rfl, _, fun V hV => (hv77.below hV hv77.lt).cell (j := 0) rfl, someV_some rfl ⟨?_, ?_⟩⟩⟩
      · rw [Addr_add]; exact M79.blk.writable (by simp [MS.cells])
      rintro w84 rfl
      have hmx : max2I ((s.top : Nat) : Int) ((s.top + 1 : Nat) : Int) = ((s.top + 1 : Nat) : Int) := by unfold max2I; rw [if_pos (by omega)]
      rw [show max2I (({ s with snd := s.snd ++ [X] } : MS).top : Int) ((s.top + 1 : Nat) : Int) = ((s.top + 1 : Nat) : Int) from hmx]
      simp only [Addr_add, Nat.zero_add]
      have hg84 : w79.grownBy _ (some M.mb) := gset (grown_refl w79 _) 15 (.int .u64 (s.top + 1 : Nat))
      have M84 : MAt B { M with sclk := M.sclk + 1 } { s with snd := s.snd ++ [X], top := s.top + 1 } _ := M79.put hg84 rfl rfl rfl rfl rfl rfl rfl (M79.blk.set 15 (.int .u64 (s.top + 1 : Nat))) (own_mset M79.dst M79.blk (by decide) hg84) M79.pl (own_mset M79.beg M79.blk (by decide) hg84)
      have h184 := h179.grown hg84 (by simp; omega)
      have h384 := h379.grown hg84 (by simp; omega)
      have hv84 := hv79.grown hg84 (by simp; have := hb8'.size; omega)
      have ho84 := own_mset ho79 M79.blk (by decide) hg84
      have hB84 := (hB77.trans (hb79.mono (by have := hb8'.size; omega))).grown hg84 (by have := hb8'.size; have := hb79.size; omega) (fun i e => by cases e; exact h.hm)
      have hz84 : w8.heap.size ≤ (w79.setCell ⟨M.mb, 15, none⟩ (.int .u64 (s.top + 1 : Nat))).heap.size := by have := hg84.size; have := hb79.size; omega
      generalize w79.setCell ⟨M.mb, 15, none⟩ (.int .u64 (s.top + 1 : Nat)) = w84 at hg84 M84 h184 h384 hv84 ho84 hB84 hz84 ⊢
      refine ⟨fun V => Below w84.heap.size w84 V, ?_⟩
      intro w86 e1 e2 e3 e4
      have hb86 := same_below (w := w84) (w' := w86) w84.heap.size e1 e2 e3 e4
      have ho86 := own_below ho84 hb86
      refine ⟨hb86, _, _, fun V hV => ⟨(h184.below hV h184.lt).cell (j := 0) rfl, (h184.below hV h184.lt).cell (j := 1) rfl⟩, _, fun V hV => (hv84.below hV hv84.lt).cell (j := 0) rfl, _, _, _, fun V hV => (hv84.below hV hv84.lt).cell (j := 1) rfl, (slices_clone_u64 L (by have := congrArg List.length hL; rw [List.length_take] at this; omega) al cl w86 (RowAt.of_own ho86)).mono ?_⟩
      rintro e w94 ⟨ar, cr, rfl, hor, hb94⟩
      have hb94' : Below w84.heap.size w84 w94 := hb86.trans (hb94.mono hb86.size)
      have h394 := h384.below hb94' h384.lt
      refine ⟨_, _, _, rfl, hb94', st4V h394 ?_⟩
      intro w98 hv98 hg98 hs98
      refine ⟨fun _ => True, trivial, _, _, _, _, _, _, ⟨hv98.cell (j := 0) rfl, hv98.cell (j := 1) rfl, hv98.cell (j := 2) rfl, hv98.cell (j := 3) rfl⟩, al, cl, ar, cr, rfl, ?_, ?_, ?_⟩
      · exact (hB84.trans (hb94'.mono (by have := hb8'.size; omega))).grown hg98 (by have := hb8'.size; have := hb94'.size; omega) (fun i e => by cases e; have := hb2.size; omega)
      · rw [← hX]
        exact (M84.below hb94').other h394 (by decide) (by decide) (by decide) hg98
      · exact own_mono ((own_below ho84 hb94').kept hg98 (.inr (own_ne (own_below ho84 hb94') h394 (by decide)))) (by have := hb8'.size; omega)
  · intro b54 u10 eb ew
    have hv0 : Below w18.heap.size w18 u10 := by rw [ew]; exact (Below.refl _ _).alloc (Nat.le_refl _) _
    have hbge : w8.heap.size ≤ b54 := by rw [eb]; exact hb.size
    have hz : Blk u10 b54 105 [.int .u64 0, .slice none 0 0, .int .u64 0, .int .i64 0, .int .u64 0] := by rw [eb, ew]; exact Blk.new w18 _ _
    have hb : Below w8.heap.size w8 u10 := hb.trans (hv0.mono hb.size)
    clear eb ew
    refine ⟨hb, ?_⟩
    refine (model_at u10 (M8.below hb) hks dest k hk).mono ?_
    rintro e u11 ⟨hv0, hat⟩
    have hat := (hat.resolve_right (fun ⟨j, y, hj, hy, _⟩ => hno y (List.mem_of_getElem? hj) hy)).2
    subst hat
    have hz := hz.below hv0 hz.lt
    have hb : Below w8.heap.size w8 u11 := hb.trans (hv0.mono hb.size)
    refine ⟨_, _, _, _, _, _, _, rfl, hb, ?_⟩
    refine (model_waiting u11 (M8.below hb) hnx hl dest k hall).mono ?_
    rintro e u12 ⟨hv0, aw, cw, rfl, how⟩
    have hz := hz.below hv0 hz.lt
    have hb : Below w8.heap.size w8 u12 := hb.trans (hv0.mono hb.size)
    refine ⟨_, _, _, rfl, hb, ?_⟩
    refine (sender_start' s.c.batch s.c.timeout s.c.base s.c.most s.top (by omega) none 0 0 0 0 s.now hnow (pendL s.l dest s.next) hne hpl L hL hm aw cw (own_le how) u12 (RowAt.of_own how)).mono ?_
    rintro e u13 ⟨hv0, al, cl, rfl, ho⟩
    have ho := own_mono ho hb.size
    have hz := hz.below hv0 hz.lt
    have hb : Below w8.heap.size w8 u13 := hb.trans (hv0.mono hb.size)
    refine ⟨_, _, _, _, _, _, _, _, rfl, hb, ?_⟩
    refine st5V hz ?_
    intro W hv hgW hsW
    have hbW : Below w8.heap.size w8 W := below_grown hb hgW hb.size hbge
    have hoW : W.ownsRow w8.heap.size 24 1 (.slice al L.length cl) L.length (u64Cs L) := ho.kept hgW (.inr (own_ne ho hz (by decide)))
    refine ⟨hbW, boolF rfl ⟨fun V => Below W.heap.size W V, ?_⟩⟩
    intro w65 e1 e2 e3 e4
    have hb65 := same_below (w := W) (w' := w65) W.heap.size e1 e2 e3 e4
    have hb65' : Below w8.heap.size w8 w65 := hbW.trans (hb65.mono hbW.size)
    have up : ∀ V, Below W.heap.size W V → Below w8.heap.size w8 V := fun V hV => hbW.trans (hV.mono hbW.size)
    obtain ⟨X, hX⟩ : ∃ X : SE, X = ⟨dest, k, s.top + 1, al, L, cl, s.now, 0, 0, M.sclk⟩ := ⟨_, rfl⟩
    have M65 := M8.below hb65'
    have h165 := h18.below hb65' h18.lt
    have h365 := h38.below hb65' h38.lt
    have hv65 := hv.below hb65 hv.lt
    have ho65 := own_below hoW hb65
    have hrun := (run_mapUpdate_snd M65.snd hks X (by rw [hX]; exact hk) (by rw [hX])).resolve_right (fun ⟨j, y, hj, hy, _⟩ => hno y (List.mem_of_getElem? hj) (by rw [hX] at hy; exact hy))
    refine ⟨hb65, someV_some rfl ⟨_, fun V hV => (M8.below (up V hV)).blk.cell (j := 14) rfl, _, _, fun V hV => ⟨(h18.below (up V hV) h18.lt).cell (j := 0) rfl, (h18.below (up V hV) h18.lt).cell (j := 1) rfl⟩, _, _, _, _, _, _, _, fun V hV => ⟨(hv.below hV hv.lt).cell (j := 0) rfl, (hv.below hV hv.lt).cell (j := 1) rfl, (hv.below hV hv.lt).cell (j := 2) rfl, (hv.below hV hv.lt).cell (j := 3) rfl, (hv.below hV hv.lt).cell (j := 4) rfl⟩, unitV_ok (w' := Go.ChangeMaps.setBlock w65 M.sb (.map ((s.snd ++ [X]).map SE.ent).toArray (M.sclk + 1))) (by have := hrun.2; rw [hX] at this ⊢; exact this) ?_⟩⟩
    have hg77 := setBlock_grown w65 M.sb (.map ((s.snd ++ [X]).map SE.ent).toArray (M.sclk + 1))
    have M77 := M65.sput (s.snd ++ [X]) (M.sclk + 1)
    have h177 := h165.grown hg77 (by simp; exact map_ne_blk M65.snd h165)
    have h377 := h365.grown hg77 (by simp; exact map_ne_blk M65.snd h365)
    have hv77 := hv65.grown hg77 (by simp; exact map_ne_blk M65.snd hv65)
    have ho77 := ho65.kept hg77 (.inr (map_ne_own M65.snd ho65))
    have hB77 := (hb8'.trans (hb65'.mono hb8'.size)).mono hB |>.grown hg77 (by have := hb8'.size; have := hb65'.size; omega) (fun i e => by cases e; exact h.hs)
    have hz77 : w8.heap.size ≤ (Go.ChangeMaps.setBlock w65 M.sb (.map ((s.snd ++ [X]).map SE.ent).toArray (M.sclk + 1))).heap.size := by have := hg77.size; have := hb65'.size; omega
    generalize Go.ChangeMaps.setBlock w65 M.sb (.map ((s.snd ++ [X]).map SE.ent).toArray (M.sclk + 1)) = w77 at hg77 M77 h177 h377 hv77 ho77 hB77 hz77 ⊢
    refine ⟨fun V => Below w77.heap.size w77 V, ?_⟩
    intro w79 e1 e2 e3 e4
    have hb79 := same_below (w := w77) (w' := w79) w77.heap.size e1 e2 e3 e4
    have M79 := M77.below hb79
    have h179 := h177.below hb79 h177.lt
    have h379 := h377.below hb79 h377.lt
    have hv79 := hv77.below hb79 hv77.lt
    have ho79 := own_below ho77 hb79
    refine ⟨hb79, someV_some rfl ⟨_, fun V hV => (M77.below hV).blk.cell (j := 15) rfl, _, fun V hV => (hv77.below hV hv77.lt).cell (j := 0) rfl, someV_some rfl ⟨?_, ?_⟩⟩⟩
    · rw [Addr_add]; exact M79.blk.writable (by simp [MS.cells])
    rintro w84 rfl
    have hmx : max2I ((s.top : Nat) : Int) ((s.top + 1 : Nat) : Int) = ((s.top + 1 : Nat) : Int) := by unfold max2I; rw [if_pos (by omega)]
    rw [show max2I (({ s with snd := s.snd ++ [X] } : MS).top : Int) ((s.top + 1 : Nat) : Int) = ((s.top + 1 : Nat) : Int) from hmx]
    simp only [Addr_add, Nat.zero_add]
    have hg84 : w79.grownBy _ (some M.mb) := gset (grown_refl w79 _) 15 (.int .u64 (s.top + 1 : Nat))
    have M84 : MAt B { M with sclk := M.sclk + 1 } { s with snd := s.snd ++ [X], top := s.top + 1 } _ := M79.put hg84 rfl rfl rfl rfl rfl rfl rfl (M79.blk.set 15 (.int .u64 (s.top + 1 : Nat))) (own_mset M79.dst M79.blk (by decide) hg84) M79.pl (own_mset M79.beg M79.blk (by decide) hg84)
    have h184 := h179.grown hg84 (by simp; omega)
    have h384 := h379.grown hg84 (by simp; omega)
    have hv84 := hv79.grown hg84 (by simp; have := hb8'.size; omega)
    have ho84 := own_mset ho79 M79.blk (by decide) hg84
    have hB84 := (hB77.trans (hb79.mono (by have := hb8'.size; omega))).grown hg84 (by have := hb8'.size; have := hb79.size; omega) (fun i e => by cases e; exact h.hm)
    have hz84 : w8.heap.size ≤ (w79.setCell ⟨M.mb, 15, none⟩ (.int .u64 (s.top + 1 : Nat))).heap.size := by have := hg84.size; have := hb79.size; omega
    generalize w79.setCell ⟨M.mb, 15, none⟩ (.int .u64 (s.top + 1 : Nat)) = w84 at hg84 M84 h184 h384 hv84 ho84 hB84 hz84 ⊢
    refine ⟨fun V => Below w84.heap.size w84 V, ?_⟩
    intro w86 e1 e2 e3 e4
    have hb86 := same_below (w := w84) (w' := w86) w84.heap.size e1 e2 e3 e4
    have ho86 := own_below ho84 hb86
    refine ⟨hb86, _, _, fun V hV => ⟨(h184.below hV h184.lt).cell (j := 0) rfl, (h184.below hV h184.lt).cell (j := 1) rfl⟩, _, fun V hV => (hv84.below hV hv84.lt).cell (j := 0) rfl, _, _, _, fun V hV => (hv84.below hV hv84.lt).cell (j := 1) rfl, (slices_clone_u64 L (by have := congrArg List.length hL; rw [List.length_take] at this; omega) al cl w86 (RowAt.of_own ho86)).mono ?_⟩
    rintro e w94 ⟨ar, cr, rfl, hor, hb94⟩
    have hb94' : Below w84.heap.size w84 w94 := hb86.trans (hb94.mono hb86.size)
    have h394 := h384.below hb94' h384.lt
    refine ⟨_, _, _, rfl, hb94', st4V h394 ?_⟩
    intro w98 hv98 hg98 hs98
    refine ⟨fun _ => True, trivial, _, _, _, _, _, _, ⟨hv98.cell (j := 0) rfl, hv98.cell (j := 1) rfl, hv98.cell (j := 2) rfl, hv98.cell (j := 3) rfl⟩, al, cl, ar, cr, rfl, ?_, ?_, ?_⟩
    · exact (hB84.trans (hb94'.mono (by have := hb8'.size; omega))).grown hg98 (by have := hb8'.size; have := hb94'.size; omega) (fun i e => by cases e; have := hb2.size; omega)
    · rw [← hX]
      exact (M84.below hb94').other h394 (by decide) (by decide) (by decide) hg98
    · exact own_mono ((own_below ho84 hb94').kept hg98 (.inr (own_ne (own_below ho84 hb94') h394 (by decide)))) (by have := hb8'.size; omega)
end Go.Proofs.YtcofknlcdgidpaaGreatDoor
/-! ## GmodelModelReply -/
namespace Go.Proofs.YtcofknlcdgidpaaGreatDoor
open Go Go.Proofs.YtcofknlcdgidpaaGreatDoor.VC
set_option linter.unusedVariables false
set_option maxRecDepth 100000
set_option maxHeartbeats 0

/-! ### (*postroom/model.Model).Reply: function 31 -/
namespace model_Model_Reply
def t1 (R : Ending → World → Prop)  (Back0 : Int → List Value → World → Prop)  (m_0 : Option Addr) (p_6 : Nat) (what_15 : Int) (x_55a : Option Addr) (x_55b : Nat) (x_55c : Nat) (x_56 : Int) (x_57 : Int) (g : List Value) (w : World) : Prop := boolV (decide (x_57 < x_56)) (someV x_55a (fun p1 => (0 ≤ x_57 ∧ x_57 < (x_55b : Nat)) ∧ (∃ x2 : Int, w.cell? (p1.add (x_57.toNat * 1)) = some (.int .u64 x2) ∧ (∃ S3 : World → Prop, (∀ w4 : World, w4.heap = w.heap → w4.tape = w.tape → w4.os = w.os → w4.output = w.output → S3 w4 ∧ (someV m_0 (fun p5 => ∃ x6 : Int, ∃ x7 : Int, ∃ (a8 : Option Addr) (n9 c10 : Nat), (∀ w, S3 w → w.cell? (p5.add 7) = some (.int .u64 x6) ∧ w.cell? ((p5.add 7).add 1) = some (.int .u64 x7) ∧ w.cell? ((p5.add 7).add 2) = some (.slice a8 n9 c10)) ∧ (∃ s11 : ByteArray, (∀ w, S3 w → w.cell? ⟨p_6, 0, none⟩ = some (.string s11)) ∧ (Calls Tryz.prog 75 #[.agg #[.int .u64 x6, .int .u64 x7, .slice a8 n9 c10], .string s11, .int .u64 x2, .int .u8 what_15] w4 (fun e12 w13 => ∃ x14 : Int, ∃ x15 : Int, ∃ (a16 : Option Addr) (n17 c18 : Nat), ∃ x19 : Int, e12 = .returned (.tuple #[.agg #[.int .u64 x14, .int .u64 x15, .slice a16 n17 c18], .int .i64 x19]) ∧ (S3 w13 ∧ (Calls Tryz.prog 41 #[.pointer m_0, .agg #[.int .u64 x14, .int .u64 x15, .slice a16 n17 c18], .int .i64 x19] w13 (fun e20 w21 => ∃ x22 : Int, e20 = .returned (.int .i64 x22) ∧ (Back0 (IntKind.wrap .i64 (x_57 + 1)) [nth g 0, nth g 1, nth g 2, nth g 3, nth g 4, nth g 5, nth g 6, nth g 7, nth g 8, nth g 9, nth g 10, nth g 11, nth g 12, nth g 13, .int .u64 x2, nth g 15, nth g 16, nth g 17, nth g 18, nth g 19, nth g 20, nth g 21, nth g 22, nth g 23, nth g 24, nth g 25, nth g 26, nth g 27, nth g 28, nth g 29, nth g 30, nth g 31, nth g 32, nth g 33, nth g 34, nth g 35, nth g 36, nth g 37, nth g 38, nth g 39, nth g 40, nth g 41, nth g 42, nth g 43, nth g 44, nth g 45, nth g 46, nth g 47, nth g 48, nth g 49, nth g 50, nth g 51, .bool (decide (x_57 < x_56)), .pointer (some (p1.add (x_57.toNat * 1))), .int .u64 x2, .pointer m_0, .pointer m_0, .pointer (some p5), .pointer (some (p5.add 7)), .agg #[.int .u64 x6, .int .u64 x7, .slice a8 n9 c10], .pointer (some ⟨p_6, 0, none⟩), .string s11, .int .u64 x2, .int .u8 what_15, .tuple #[.agg #[.int .u64 x14, .int .u64 x15, .slice a16 n17 c18], .int .i64 x19], .agg #[.int .u64 x14, .int .u64 x15, .slice a16 n17 c18], .int .i64 x19, .int .i64 x22, .int .i64 (IntKind.wrap .i64 (x_57 + 1))] w21)))))))))))))) (R (.returned (.int .i64 0)) w)
def W0 (R : Ending → World → Prop)  (m_0 : Option Addr) (p_6 : Nat) (what_15 : Int) (x_55a : Option Addr) (x_55b : Nat) (x_55c : Nat) (x_56 : Int) (x_57 : Int) (w : World) : Prop := ∃ (I : Nat → Int → World → Prop) (n : Nat), I n x_57 w ∧ ∀ (n : Nat) (x_57 : Int) (g : List Value) (w : World), I n x_57 w → ∀ (Back0 : Int → List Value → World → Prop), (∀ (m : Nat) (x_57 : Int) (g : List Value) (w : World), m < n → I m x_57 w → Back0 x_57 g w) → t1 R  Back0  m_0 p_6 what_15 x_55a x_55b x_55c x_56 x_57 g w
def t0 (R : Ending → World → Prop) (L0 : (Option Addr) → Nat → Int → (Option Addr) → Nat → Nat → Int → Int → List Value → World → Prop) (m_0 : Option Addr) (p_1a : ByteArray) (p_1b : Int) (id_2 : Int) (kind_3 : Int) (jitter_4 : Int) (w : World) : Prop := ∀ (b1 : Nat) (w2 : World), b1 = w.heap.size → w2 = World.alloc w (.cells #[.string p_1a, .int .i64 p_1b] 86) → ∃ s3 : ByteArray, ∃ x4 : Int, (w2.cell? ⟨b1, 0, none⟩ = some (.string s3) ∧ w2.cell? ⟨b1, 1, none⟩ = some (.int .i64 x4)) ∧ (Calls Tryz.prog 72 #[.pointer m_0, .agg #[.string s3, .int .i64 x4]] w2 (fun e5 w6 => ∃ x7 : Int, e5 = .returned (.int .i64 x7) ∧ (boolV (x7 != (0 : Int)) (R (.returned (.int .i64 x7)) w6) (∃ S8 : World → Prop, (∀ w9 : World, w9.heap = w6.heap → w9.tape = w6.tape → w9.os = w6.os → w9.output = w6.output → S8 w9 ∧ (someV m_0 (fun p10 => ∃ x11 : Int, ∃ x12 : Int, ∃ x13 : Int, ∃ x14 : Int, (∀ w, S8 w → w.cell? (p10.add 2) = some (.int .i64 x11) ∧ w.cell? ((p10.add 2).add 1) = some (.int .u64 x12) ∧ w.cell? ((p10.add 2).add 2) = some (.int .u64 x13) ∧ w.cell? ((p10.add 2).add 3) = some (.int .u64 x14)) ∧ (∃ s15 : ByteArray, ∃ x16 : Int, (∀ w, S8 w → w.cell? ⟨b1, 0, none⟩ = some (.string s15) ∧ w.cell? ⟨b1, 1, none⟩ = some (.int .i64 x16)) ∧ (someV m_0 (fun p17 => ∃ x18 : Int, (∀ w, S8 w → w.cell? (p17.add 16) = some (.int .u64 x18)) ∧ ((Calls Tryz.prog 39 #[.pointer m_0, .agg #[.string s15, .int .i64 x16]] w9 (fun e19 w20 => ∃ x21 : Int, ∃ (a22 : Option Addr) (n23 c24 : Nat), ∃ x25 : Int, ∃ x26 : Int, ∃ x27 : Int, e19 = .returned (.agg #[.int .u64 x21, .slice a22 n23 c24, .int .u64 x25, .int .i64 x26, .int .u64 x27]) ∧ (S8 w20 ∧ ((Calls Tryz.prog 74 #[.agg #[.int .i64 x11, .int .u64 x12, .int .u64 x13, .int .u64 x14], .agg #[.int .u64 x21, .slice a22 n23 c24, .int .u64 x25, .int .i64 x26, .int .u64 x27], .int .u64 id_2, .int .i64 kind_3, .int .u64 x18, .int .u64 jitter_4] w20 (fun e28 w29 => ∃ x30 : Int, ∃ (a31 : Option Addr) (n32 c33 : Nat), ∃ x34 : Int, ∃ x35 : Int, ∃ x36 : Int, ∃ (a37 : Option Addr) (n38 c39 : Nat), ∃ x40 : Int, e28 = .returned (.tuple #[.agg #[.int .u64 x30, .slice a31 n32 c33, .int .u64 x34, .int .i64 x35, .int .u64 x36], .slice a37 n38 c39, .int .i64 x40]) ∧ (S8 w29 ∧ (∀ (b41 : Nat) (w42 : World), b41 = w29.heap.size → w42 = World.alloc w29 (.cells #[.int .u64 0, .slice none 0 0, .int .u64 0, .int .i64 0, .int .u64 0] 105) → S8 w42 ∧ (Writable w42 ⟨b41, 0, none⟩ 5 ∧ ∀ w43 : World, w43 = World.setCell (World.setCell (World.setCell (World.setCell (World.setCell w42 ⟨b41, 0, none⟩ (.int .u64 x30)) ⟨b41, 1, none⟩ (.slice a31 n32 c33)) ⟨b41, 2, none⟩ (.int .u64 x34)) ⟨b41, 3, none⟩ (.int .i64 x35)) ⟨b41, 4, none⟩ (.int .u64 x36) → S8 w43 ∧ (boolV (x40 != (0 : Int)) (R (.returned (.int .i64 x40)) w43) (∃ S44 : World → Prop, (∀ w45 : World, w45.heap = w43.heap → w45.tape = w43.tape → w45.os = w43.os → w45.output = w43.output → S44 w45 ∧ (someV m_0 (fun p46 => ∃ r47 : Option Nat, (∀ w, S44 w → w.cell? (p46.add 14) = some (.map r47)) ∧ (∃ s48 : ByteArray, ∃ x49 : Int, (∀ w, S44 w → w.cell? ⟨b1, 0, none⟩ = some (.string s48) ∧ w.cell? ⟨b1, 1, none⟩ = some (.int .i64 x49)) ∧ (∃ x50 : Int, ∃ (a51 : Option Addr) (n52 c53 : Nat), ∃ x54 : Int, ∃ x55 : Int, ∃ x56 : Int, (∀ w, S44 w → w.cell? ⟨b41, 0, none⟩ = some (.int .u64 x50) ∧ w.cell? ⟨b41, 1, none⟩ = some (.slice a51 n52 c53) ∧ w.cell? ⟨b41, 2, none⟩ = some (.int .u64 x54) ∧ w.cell? ⟨b41, 3, none⟩ = some (.int .i64 x55) ∧ w.cell? ⟨b41, 4, none⟩ = some (.int .u64 x56)) ∧ (unitV Tryz.prog (Instr.mapUpdate 95 (.map r47) (.agg #[.string s48, .int .i64 x49]) (.agg #[.int .u64 x50, .slice a51 n52 c53, .int .u64 x54, .int .i64 x55, .int .u64 x56])) w45 (fun w57 => boolV (kind_3 == (2 : Int)) (L0 m_0 b1 114 a37 n38 c39 ((n38 : Nat) : Int) 0 [.agg #[.string p_1a, .int .i64 p_1b], .int .u64 id_2, .int .i64 kind_3, .int .u64 jitter_4, undef, undef, undef, undef, .int .i64 0, .int .i64 x7, .pointer (some ⟨b41, 0, none⟩), .slice a37 n38 c39, .int .i64 x40, undef, undef, .pointer m_0, .agg #[.string s3, .int .i64 x4], .int .i64 x7, .int .i64 x7, .bool (x7 != (0 : Int)), undef, .tuple #[.agg #[.int .u64 x30, .slice a31 n32 c33, .int .u64 x34, .int .i64 x35, .int .u64 x36], .slice a37 n38 c39, .int .i64 x40], .pointer m_0, .pointer (some p10), .pointer (some p10), .pointer (some (p10.add 2)), .agg #[.int .i64 x11, .int .u64 x12, .int .u64 x13, .int .u64 x14], .pointer m_0, .agg #[.string s15, .int .i64 x16], .agg #[.int .u64 x21, .slice a22 n23 c24, .int .u64 x25, .int .i64 x26, .int .u64 x27], .int .u64 id_2, .int .i64 kind_3, .pointer m_0, .pointer (some p17), .pointer (some (p17.add 16)), .int .u64 x18, .int .u64 jitter_4, .tuple #[.agg #[.int .u64 x30, .slice a31 n32 c33, .int .u64 x34, .int .i64 x35, .int .u64 x36], .slice a37 n38 c39, .int .i64 x40], .agg #[.int .u64 x30, .slice a31 n32 c33, .int .u64 x34, .int .i64 x35, .int .u64 x36], .slice a37 n38 c39, .int .i64 x40, .int .i64 x40, .bool (x40 != (0 : Int)), undef, .pointer m_0, .pointer (some p46), .pointer (some (p46.add 14)), .map r47, .agg #[.string s48, .int .i64 x49], .agg #[.int .u64 x50, .slice a51 n52 c53, .int .u64 x54, .int .i64 x55, .int .u64 x56], .int .i64 kind_3, .bool (kind_3 == (2 : Int)), undef, undef, undef, undef, undef, undef, undef, undef, undef, undef, undef, undef, undef, undef, undef, undef, undef] w57) (L0 m_0 b1 97 a37 n38 c39 ((n38 : Nat) : Int) 0 [.agg #[.string p_1a, .int .i64 p_1b], .int .u64 id_2, .int .i64 kind_3, .int .u64 jitter_4, undef, undef, undef, undef, .int .i64 0, .int .i64 x7, .pointer (some ⟨b41, 0, none⟩), .slice a37 n38 c39, .int .i64 x40, undef, undef, .pointer m_0, .agg #[.string s3, .int .i64 x4], .int .i64 x7, .int .i64 x7, .bool (x7 != (0 : Int)), undef, .tuple #[.agg #[.int .u64 x30, .slice a31 n32 c33, .int .u64 x34, .int .i64 x35, .int .u64 x36], .slice a37 n38 c39, .int .i64 x40], .pointer m_0, .pointer (some p10), .pointer (some p10), .pointer (some (p10.add 2)), .agg #[.int .i64 x11, .int .u64 x12, .int .u64 x13, .int .u64 x14], .pointer m_0, .agg #[.string s15, .int .i64 x16], .agg #[.int .u64 x21, .slice a22 n23 c24, .int .u64 x25, .int .i64 x26, .int .u64 x27], .int .u64 id_2, .int .i64 kind_3, .pointer m_0, .pointer (some p17), .pointer (some (p17.add 16)), .int .u64 x18, .int .u64 jitter_4, .tuple #[.agg #[.int .u64 x30, .slice a31 n32 c33, .int .u64 x34, .int .i64 x35, .int .u64 x36], .slice a37 n38 c39, .int .i64 x40], .agg #[.int .u64 x30, .slice a31 n32 c33, .int .u64 x34, .int .i64 x35, .int .u64 x36], .slice a37 n38 c39, .int .i64 x40, .int .i64 x40, .bool (x40 != (0 : Int)), undef, .pointer m_0, .pointer (some p46), .pointer (some (p46.add 14)), .map r47, .agg #[.string s48, .int .i64 x49], .agg #[.int .u64 x50, .slice a51 n52 c53, .int .u64 x54, .int .i64 x55, .int .u64 x56], .int .i64 kind_3, .bool (kind_3 == (2 : Int)), undef, undef, undef, undef, undef, undef, undef, undef, undef, undef, undef, undef, undef, undef, undef, undef, undef] w57))))))))))))))) ∧ (∀ (b58 : Nat) (w59 : World), b58 = w20.heap.size → w59 = World.alloc w20 (.cells #[.int .u64 0, .slice none 0 0, .int .u64 0, .int .i64 0, .int .u64 0] 105) → S8 w59 ∧ (Calls Tryz.prog 74 #[.agg #[.int .i64 x11, .int .u64 x12, .int .u64 x13, .int .u64 x14], .agg #[.int .u64 x21, .slice a22 n23 c24, .int .u64 x25, .int .i64 x26, .int .u64 x27], .int .u64 id_2, .int .i64 kind_3, .int .u64 x18, .int .u64 jitter_4] w59 (fun e60 w61 => ∃ x62 : Int, ∃ (a63 : Option Addr) (n64 c65 : Nat), ∃ x66 : Int, ∃ x67 : Int, ∃ x68 : Int, ∃ (a69 : Option Addr) (n70 c71 : Nat), ∃ x72 : Int, e60 = .returned (.tuple #[.agg #[.int .u64 x62, .slice a63 n64 c65, .int .u64 x66, .int .i64 x67, .int .u64 x68], .slice a69 n70 c71, .int .i64 x72]) ∧ (S8 w61 ∧ (Writable w61 ⟨b58, 0, none⟩ 5 ∧ ∀ w73 : World, w73 = World.setCell (World.setCell (World.setCell (World.setCell (World.setCell w61 ⟨b58, 0, none⟩ (.int .u64 x62)) ⟨b58, 1, none⟩ (.slice a63 n64 c65)) ⟨b58, 2, none⟩ (.int .u64 x66)) ⟨b58, 3, none⟩ (.int .i64 x67)) ⟨b58, 4, none⟩ (.int .u64 x68) → S8 w73 ∧ (boolV (x72 != (0 : Int)) (R (.returned (.int .i64 x72)) w73) (∃ S74 : World → Prop, (∀ w75 : World, w75.heap = w73.heap → w75.tape = w73.tape → w75.os = w73.os → w75.output = w73.output → S74 w75 ∧ (someV m_0 (fun p76 => ∃ r77 : Option Nat, (∀ w, S74 w → w.cell? (p76.add 14) = some (.map r77)) ∧ (∃ s78 : ByteArray, ∃ x79 : Int, (∀ w, S74 w → w.cell? ⟨b1, 0, none⟩ = some (.string s78) ∧ w.cell? ⟨b1, 1, none⟩ = some (.int .i64 x79)) ∧ (∃ x80 : Int, ∃ (a81 : Option Addr) (n82 c83 : Nat), ∃ x84 : Int, ∃ x85 : Int, ∃ x86 : Int, (∀ w, S74 w → w.cell? ⟨b58, 0, none⟩ = some (.int .u64 x80) ∧ w.cell? ⟨b58, 1, none⟩ = some (.slice a81 n82 c83) ∧ w.cell? ⟨b58, 2, none⟩ = some (.int .u64 x84) ∧ w.cell? ⟨b58, 3, none⟩ = some (.int .i64 x85) ∧ w.cell? ⟨b58, 4, none⟩ = some (.int .u64 x86)) ∧ (unitV Tryz.prog (Instr.mapUpdate 95 (.map r77) (.agg #[.string s78, .int .i64 x79]) (.agg #[.int .u64 x80, .slice a81 n82 c83, .int .u64 x84, .int .i64 x85, .int .u64 x86])) w75 (fun w87 => boolV (kind_3 == (2 : Int)) (L0 m_0 b1 114 a69 n70 c71 ((n70 : Nat) : Int) 0 [.agg #[.string p_1a, .int .i64 p_1b], .int .u64 id_2, .int .i64 kind_3, .int .u64 jitter_4, undef, undef, undef, undef, .int .i64 0, .int .i64 x7, .pointer (some ⟨b58, 0, none⟩), .slice a69 n70 c71, .int .i64 x72, undef, undef, .pointer m_0, .agg #[.string s3, .int .i64 x4], .int .i64 x7, .int .i64 x7, .bool (x7 != (0 : Int)), undef, .tuple #[.agg #[.int .u64 x62, .slice a63 n64 c65, .int .u64 x66, .int .i64 x67, .int .u64 x68], .slice a69 n70 c71, .int .i64 x72], .pointer m_0, .pointer (some p10), .pointer (some p10), .pointer (some (p10.add 2)), .agg #[.int .i64 x11, .int .u64 x12, .int .u64 x13, .int .u64 x14], .pointer m_0, .agg #[.string s15, .int .i64 x16], .agg #[.int .u64 x21, .slice a22 n23 c24, .int .u64 x25, .int .i64 x26, .int .u64 x27], .int .u64 id_2, .int .i64 kind_3, .pointer m_0, .pointer (some p17), .pointer (some (p17.add 16)), .int .u64 x18, .int .u64 jitter_4, .tuple #[.agg #[.int .u64 x62, .slice a63 n64 c65, .int .u64 x66, .int .i64 x67, .int .u64 x68], .slice a69 n70 c71, .int .i64 x72], .agg #[.int .u64 x62, .slice a63 n64 c65, .int .u64 x66, .int .i64 x67, .int .u64 x68], .slice a69 n70 c71, .int .i64 x72, .int .i64 x72, .bool (x72 != (0 : Int)), undef, .pointer m_0, .pointer (some p76), .pointer (some (p76.add 14)), .map r77, .agg #[.string s78, .int .i64 x79], .agg #[.int .u64 x80, .slice a81 n82 c83, .int .u64 x84, .int .i64 x85, .int .u64 x86], .int .i64 kind_3, .bool (kind_3 == (2 : Int)), undef, undef, undef, undef, undef, undef, undef, undef, undef, undef, undef, undef, undef, undef, undef, undef, undef] w87) (L0 m_0 b1 97 a69 n70 c71 ((n70 : Nat) : Int) 0 [.agg #[.string p_1a, .int .i64 p_1b], .int .u64 id_2, .int .i64 kind_3, .int .u64 jitter_4, undef, undef, undef, undef, .int .i64 0, .int .i64 x7, .pointer (some ⟨b58, 0, none⟩), .slice a69 n70 c71, .int .i64 x72, undef, undef, .pointer m_0, .agg #[.string s3, .int .i64 x4], .int .i64 x7, .int .i64 x7, .bool (x7 != (0 : Int)), undef, .tuple #[.agg #[.int .u64 x62, .slice a63 n64 c65, .int .u64 x66, .int .i64 x67, .int .u64 x68], .slice a69 n70 c71, .int .i64 x72], .pointer m_0, .pointer (some p10), .pointer (some p10), .pointer (some (p10.add 2)), .agg #[.int .i64 x11, .int .u64 x12, .int .u64 x13, .int .u64 x14], .pointer m_0, .agg #[.string s15, .int .i64 x16], .agg #[.int .u64 x21, .slice a22 n23 c24, .int .u64 x25, .int .i64 x26, .int .u64 x27], .int .u64 id_2, .int .i64 kind_3, .pointer m_0, .pointer (some p17), .pointer (some (p17.add 16)), .int .u64 x18, .int .u64 jitter_4, .tuple #[.agg #[.int .u64 x62, .slice a63 n64 c65, .int .u64 x66, .int .i64 x67, .int .u64 x68], .slice a69 n70 c71, .int .i64 x72], .agg #[.int .u64 x62, .slice a63 n64 c65, .int .u64 x66, .int .i64 x67, .int .u64 x68], .slice a69 n70 c71, .int .i64 x72, .int .i64 x72, .bool (x72 != (0 : Int)), undef, .pointer m_0, .pointer (some p76), .pointer (some (p76.add 14)), .map r77, .agg #[.string s78, .int .i64 x79], .agg #[.int .u64 x80, .slice a81 n82 c83, .int .u64 x84, .int .i64 x85, .int .u64 x86], .int .i64 kind_3, .bool (kind_3 == (2 : Int)), undef, undef, undef, undef, undef, undef, undef, undef, undef, undef, undef, undef, undef, undef, undef, undef, undef] w87))))))))))))))))))) ∧ (∀ (b88 : Nat) (w89 : World), b88 = w9.heap.size → w89 = World.alloc w9 (.cells #[.int .u64 0, .slice none 0 0, .int .u64 0, .int .i64 0, .int .u64 0] 105) → S8 w89 ∧ (Calls Tryz.prog 39 #[.pointer m_0, .agg #[.string s15, .int .i64 x16]] w89 (fun e90 w91 => ∃ x92 : Int, ∃ (a93 : Option Addr) (n94 c95 : Nat), ∃ x96 : Int, ∃ x97 : Int, ∃ x98 : Int, e90 = .returned (.agg #[.int .u64 x92, .slice a93 n94 c95, .int .u64 x96, .int .i64 x97, .int .u64 x98]) ∧ (S8 w91 ∧ (Calls Tryz.prog 74 #[.agg #[.int .i64 x11, .int .u64 x12, .int .u64 x13, .int .u64 x14], .agg #[.int .u64 x92, .slice a93 n94 c95, .int .u64 x96, .int .i64 x97, .int .u64 x98], .int .u64 id_2, .int .i64 kind_3, .int .u64 x18, .int .u64 jitter_4] w91 (fun e99 w100 => ∃ x101 : Int, ∃ (a102 : Option Addr) (n103 c104 : Nat), ∃ x105 : Int, ∃ x106 : Int, ∃ x107 : Int, ∃ (a108 : Option Addr) (n109 c110 : Nat), ∃ x111 : Int, e99 = .returned (.tuple #[.agg #[.int .u64 x101, .slice a102 n103 c104, .int .u64 x105, .int .i64 x106, .int .u64 x107], .slice a108 n109 c110, .int .i64 x111]) ∧ (S8 w100 ∧ (Writable w100 ⟨b88, 0, none⟩ 5 ∧ ∀ w112 : World, w112 = World.setCell (World.setCell (World.setCell (World.setCell (World.setCell w100 ⟨b88, 0, none⟩ (.int .u64 x101)) ⟨b88, 1, none⟩ (.slice a102 n103 c104)) ⟨b88, 2, none⟩ (.int .u64 x105)) ⟨b88, 3, none⟩ (.int .i64 x106)) ⟨b88, 4, none⟩ (.int .u64 x107) → S8 w112 ∧ (boolV (x111 != (0 : Int)) (R (.returned (.int .i64 x111)) w112) (∃ S113 : World → Prop, (∀ w114 : World, w114.heap = w112.heap → w114.tape = w112.tape → w114.os = w112.os → w114.output = w112.output → S113 w114 ∧ (someV m_0 (fun p115 => ∃ r116 : Option Nat, (∀ w, S113 w → w.cell? (p115.add 14) = some (.map r116)) ∧ (∃ s117 : ByteArray, ∃ x118 : Int, (∀ w, S113 w → w.cell? ⟨b1, 0, none⟩ = some (.string s117) ∧ w.cell? ⟨b1, 1, none⟩ = some (.int .i64 x118)) ∧ (∃ x119 : Int, ∃ (a120 : Option Addr) (n121 c122 : Nat), ∃ x123 : Int, ∃ x124 : Int, ∃ x125 : Int, (∀ w, S113 w → w.cell? ⟨b88, 0, none⟩ = some (.int .u64 x119) ∧ w.cell? ⟨b88, 1, none⟩ = some (.slice a120 n121 c122) ∧ w.cell? ⟨b88, 2, none⟩ = some (.int .u64 x123) ∧ w.cell? ⟨b88, 3, none⟩ = some (.int .i64 x124) ∧ w.cell? ⟨b88, 4, none⟩ = some (.int .u64 x125)) ∧ (unitV Tryz.prog (Instr.mapUpdate 95 (.map r116) (.agg #[.string s117, .int .i64 x118]) (.agg #[.int .u64 x119, .slice a120 n121 c122, .int .u64 x123, .int .i64 x124, .int .u64 x125])) w114 (fun w126 => boolV (kind_3 == (2 : Int)) (L0 m_0 b1 114 a108 n109 c110 ((n109 : Nat) : Int) 0 [.agg #[.string p_1a, .int .i64 p_1b], .int .u64 id_2, .int .i64 kind_3, .int .u64 jitter_4, undef, undef, undef, undef, .int .i64 0, .int .i64 x7, .pointer (some ⟨b88, 0, none⟩), .slice a108 n109 c110, .int .i64 x111, undef, undef, .pointer m_0, .agg #[.string s3, .int .i64 x4], .int .i64 x7, .int .i64 x7, .bool (x7 != (0 : Int)), undef, .tuple #[.agg #[.int .u64 x101, .slice a102 n103 c104, .int .u64 x105, .int .i64 x106, .int .u64 x107], .slice a108 n109 c110, .int .i64 x111], .pointer m_0, .pointer (some p10), .pointer (some p10), .pointer (some (p10.add 2)), .agg #[.int .i64 x11, .int .u64 x12, .int .u64 x13, .int .u64 x14], .pointer m_0, .agg #[.string s15, .int .i64 x16], .agg #[.int .u64 x92, .slice a93 n94 c95, .int .u64 x96, .int .i64 x97, .int .u64 x98], .int .u64 id_2, .int .i64 kind_3, .pointer m_0, .pointer (some p17), .pointer (some (p17.add 16)), .int .u64 x18, .int .u64 jitter_4, .tuple #[.agg #[.int .u64 x101, .slice a102 n103 c104, .int .u64 x105, .int .i64 x106, .int .u64 x107], .slice a108 n109 c110, .int .i64 x111], .agg #[.int .u64 x101, .slice a102 n103 c104, .int .u64 x105, .int .i64 x106, .int .u64 x107], .slice a108 n109 c110, .int .i64 x111, .int .i64 x111, .bool (x111 != (0 : Int)), undef, .pointer m_0, .pointer (some p115), .pointer (some (p115.add 14)), .map r116, .agg #[.string s117, .int .i64 x118], .agg #[.int .u64 x119, .slice a120 n121 c122, .int .u64 x123, .int .i64 x124, .int .u64 x125], .int .i64 kind_3, .bool (kind_3 == (2 : Int)), undef, undef, undef, undef, undef, undef, undef, undef, undef, undef, undef, undef, undef, undef, undef, undef, undef] w126) (L0 m_0 b1 97 a108 n109 c110 ((n109 : Nat) : Int) 0 [.agg #[.string p_1a, .int .i64 p_1b], .int .u64 id_2, .int .i64 kind_3, .int .u64 jitter_4, undef, undef, undef, undef, .int .i64 0, .int .i64 x7, .pointer (some ⟨b88, 0, none⟩), .slice a108 n109 c110, .int .i64 x111, undef, undef, .pointer m_0, .agg #[.string s3, .int .i64 x4], .int .i64 x7, .int .i64 x7, .bool (x7 != (0 : Int)), undef, .tuple #[.agg #[.int .u64 x101, .slice a102 n103 c104, .int .u64 x105, .int .i64 x106, .int .u64 x107], .slice a108 n109 c110, .int .i64 x111], .pointer m_0, .pointer (some p10), .pointer (some p10), .pointer (some (p10.add 2)), .agg #[.int .i64 x11, .int .u64 x12, .int .u64 x13, .int .u64 x14], .pointer m_0, .agg #[.string s15, .int .i64 x16], .agg #[.int .u64 x92, .slice a93 n94 c95, .int .u64 x96, .int .i64 x97, .int .u64 x98], .int .u64 id_2, .int .i64 kind_3, .pointer m_0, .pointer (some p17), .pointer (some (p17.add 16)), .int .u64 x18, .int .u64 jitter_4, .tuple #[.agg #[.int .u64 x101, .slice a102 n103 c104, .int .u64 x105, .int .i64 x106, .int .u64 x107], .slice a108 n109 c110, .int .i64 x111], .agg #[.int .u64 x101, .slice a102 n103 c104, .int .u64 x105, .int .i64 x106, .int .u64 x107], .slice a108 n109 c110, .int .i64 x111, .int .i64 x111, .bool (x111 != (0 : Int)), undef, .pointer m_0, .pointer (some p115), .pointer (some (p115.add 14)), .map r116, .agg #[.string s117, .int .i64 x118], .agg #[.int .u64 x119, .slice a120 n121 c122, .int .u64 x123, .int .i64 x124, .int .u64 x125], .int .i64 kind_3, .bool (kind_3 == (2 : Int)), undef, undef, undef, undef, undef, undef, undef, undef, undef, undef, undef, undef, undef, undef, undef, undef, undef] w126)))))))))))))))))))))))))))))
def vc (R : Ending → World → Prop) (m_0 : Option Addr) (p_1a : ByteArray) (p_1b : Int) (id_2 : Int) (kind_3 : Int) (jitter_4 : Int) (w : World) : Prop := ∀ (L0 : (Option Addr) → Nat → Int → (Option Addr) → Nat → Nat → Int → Int → List Value → World → Prop), (∀ m_0 p_6 what_15 x_55a x_55b x_55c x_56 x_57 g w, W0 R m_0 p_6 what_15 x_55a x_55b x_55c x_56 x_57 w → L0 m_0 p_6 what_15 x_55a x_55b x_55c x_56 x_57 g w) → t0 R L0 m_0 p_1a p_1b id_2 kind_3 jitter_4 w
theorem at0 (R : Ending → World → Prop) (m_0 : Option Addr) (p_6 : Nat) (what_15 : Int) (x_55a : Option Addr) (x_55b : Nat) (x_55c : Nat) (x_56 : Int) (x_57 : Int) (g : List Value) (w : World) (h : W0 R  m_0 p_6 what_15 x_55a x_55b x_55c x_56 x_57 w) : atV Tryz.prog (bodyC Tryz.f31) [true, true, true, true, true, true, true, false, true, false] (retQ Tryz.prog Tryz.f31 R) [.pointer m_0, nth g 0, nth g 1, nth g 2, nth g 3, nth g 4, .pointer (some ⟨p_6, 0, none⟩), nth g 5, nth g 6, nth g 7, nth g 8, nth g 9, nth g 10, nth g 11, nth g 12, .int .u8 what_15, nth g 13, nth g 14, nth g 15, nth g 16, nth g 17, nth g 18, nth g 19, nth g 20, nth g 21, nth g 22, nth g 23, nth g 24, nth g 25, nth g 26, nth g 27, nth g 28, nth g 29, nth g 30, nth g 31, nth g 32, nth g 33, nth g 34, nth g 35, nth g 36, nth g 37, nth g 38, nth g 39, nth g 40, nth g 41, nth g 42, nth g 43, nth g 44, nth g 45, nth g 46, nth g 47, nth g 48, nth g 49, nth g 50, nth g 51, .slice x_55a x_55b x_55c, .int .i64 x_56, .int .i64 x_57, nth g 52, nth g 53, nth g 54, nth g 55, nth g 56, nth g 57, nth g 58, nth g 59, nth g 60, nth g 61, nth g 62, nth g 63, nth g 64, nth g 65, nth g 66, nth g 67, nth g 68] w := by
  obtain ⟨I, n0, h0, hs⟩ := h
  refine atV_loop (by kernel_rfl) (fun n s w => ∃ (x_57 : Int) (g : List Value), s = [.pointer m_0, nth g 0, nth g 1, nth g 2, nth g 3, nth g 4, .pointer (some ⟨p_6, 0, none⟩), nth g 5, nth g 6, nth g 7, nth g 8, nth g 9, nth g 10, nth g 11, nth g 12, .int .u8 what_15, nth g 13, nth g 14, nth g 15, nth g 16, nth g 17, nth g 18, nth g 19, nth g 20, nth g 21, nth g 22, nth g 23, nth g 24, nth g 25, nth g 26, nth g 27, nth g 28, nth g 29, nth g 30, nth g 31, nth g 32, nth g 33, nth g 34, nth g 35, nth g 36, nth g 37, nth g 38, nth g 39, nth g 40, nth g 41, nth g 42, nth g 43, nth g 44, nth g 45, nth g 46, nth g 47, nth g 48, nth g 49, nth g 50, nth g 51, .slice x_55a x_55b x_55c, .int .i64 x_56, .int .i64 x_57, nth g 52, nth g 53, nth g 54, nth g 55, nth g 56, nth g 57, nth g 58, nth g 59, nth g 60, nth g 61, nth g 62, nth g 63, nth g 64, nth g 65, nth g 66, nth g 67, nth g 68] ∧ I n x_57 w) n0 ⟨_, _, rfl, h0⟩ ?_
  rintro n s w ⟨x_57, g, rfl, hI⟩
  exact Eq.mpr (by kernel_rfl) (hs n x_57 g w hI (fun x_57 g w => (backQ (fun n s w => ∃ (x_57 : Int) (g : List Value), s = [.pointer m_0, nth g 0, nth g 1, nth g 2, nth g 3, nth g 4, .pointer (some ⟨p_6, 0, none⟩), nth g 5, nth g 6, nth g 7, nth g 8, nth g 9, nth g 10, nth g 11, nth g 12, .int .u8 what_15, nth g 13, nth g 14, nth g 15, nth g 16, nth g 17, nth g 18, nth g 19, nth g 20, nth g 21, nth g 22, nth g 23, nth g 24, nth g 25, nth g 26, nth g 27, nth g 28, nth g 29, nth g 30, nth g 31, nth g 32, nth g 33, nth g 34, nth g 35, nth g 36, nth g 37, nth g 38, nth g 39, nth g 40, nth g 41, nth g 42, nth g 43, nth g 44, nth g 45, nth g 46, nth g 47, nth g 48, nth g 49, nth g 50, nth g 51, .slice x_55a x_55b x_55c, .int .i64 x_56, .int .i64 x_57, nth g 52, nth g 53, nth g 54, nth g 55, nth g 56, nth g 57, nth g 58, nth g 59, nth g 60, nth g 61, nth g 62, nth g 63, nth g 64, nth g 65, nth g 66, nth g 67, nth g 68] ∧ I n x_57 w) n (ctxQ Tryz.prog (bodyC Tryz.f31) [true, true, true, true, true, true, true, false, true, false] (retQ Tryz.prog Tryz.f31 R))) .normal [.pointer m_0, nth g 0, nth g 1, nth g 2, nth g 3, nth g 4, .pointer (some ⟨p_6, 0, none⟩), nth g 5, nth g 6, nth g 7, nth g 8, nth g 9, nth g 10, nth g 11, nth g 12, .int .u8 what_15, nth g 13, nth g 14, nth g 15, nth g 16, nth g 17, nth g 18, nth g 19, nth g 20, nth g 21, nth g 22, nth g 23, nth g 24, nth g 25, nth g 26, nth g 27, nth g 28, nth g 29, nth g 30, nth g 31, nth g 32, nth g 33, nth g 34, nth g 35, nth g 36, nth g 37, nth g 38, nth g 39, nth g 40, nth g 41, nth g 42, nth g 43, nth g 44, nth g 45, nth g 46, nth g 47, nth g 48, nth g 49, nth g 50, nth g 51, .slice x_55a x_55b x_55c, .int .i64 x_56, .int .i64 x_57, nth g 52, nth g 53, nth g 54, nth g 55, nth g 56, nth g 57, nth g 58, nth g 59, nth g 60, nth g 61, nth g 62, nth g 63, nth g 64, nth g 65, nth g 66, nth g 67, nth g 68] w) (fun m x_57 g w hm hI => ⟨m, hm, x_57, g, rfl, hI⟩))
theorem calls (R : Ending → World → Prop) (m_0 : Option Addr) (p_1a : ByteArray) (p_1b : Int) (id_2 : Int) (kind_3 : Int) (jitter_4 : Int) (w : World) (h : vc R m_0 p_1a p_1b id_2 kind_3 jitter_4 w) : Calls Tryz.prog 31 #[.pointer m_0, .agg #[.string p_1a, .int .i64 p_1b], .int .u64 id_2, .int .i64 kind_3, .int .u64 jitter_4] w R :=
  calls_V Tryz.func31 (Eq.mpr (by kernel_rfl) (h (fun m_0 p_6 what_15 x_55a x_55b x_55c x_56 x_57 g w => atV Tryz.prog (bodyC Tryz.f31) [true, true, true, true, true, true, true, false, true, false] (retQ Tryz.prog Tryz.f31 R) [.pointer m_0, nth g 0, nth g 1, nth g 2, nth g 3, nth g 4, .pointer (some ⟨p_6, 0, none⟩), nth g 5, nth g 6, nth g 7, nth g 8, nth g 9, nth g 10, nth g 11, nth g 12, .int .u8 what_15, nth g 13, nth g 14, nth g 15, nth g 16, nth g 17, nth g 18, nth g 19, nth g 20, nth g 21, nth g 22, nth g 23, nth g 24, nth g 25, nth g 26, nth g 27, nth g 28, nth g 29, nth g 30, nth g 31, nth g 32, nth g 33, nth g 34, nth g 35, nth g 36, nth g 37, nth g 38, nth g 39, nth g 40, nth g 41, nth g 42, nth g 43, nth g 44, nth g 45, nth g 46, nth g 47, nth g 48, nth g 49, nth g 50, nth g 51, .slice x_55a x_55b x_55c, .int .i64 x_56, .int .i64 x_57, nth g 52, nth g 53, nth g 54, nth g 55, nth g 56, nth g 57, nth g 58, nth g 59, nth g 60, nth g 61, nth g 62, nth g 63, nth g 64, nth g 65, nth g 66, nth g 67, nth g 68] w) (fun m_0 p_6 what_15 x_55a x_55b x_55c x_56 x_57 g w h => at0 R m_0 p_6 what_15 x_55a x_55b x_55c x_56 x_57 g w h)))
end model_Model_Reply
end Go.Proofs.YtcofknlcdgidpaaGreatDoor
/-! ## Reply -/
namespace Go.Proofs.YtcofknlcdgidpaaGreatDoor
open Go Go.RowKit Go.Proofs.YtcofknlcdgidpaaGreatDoor.VC
set_option linter.unusedVariables false
set_option maxRecDepth 100000

/-- The loop of 'Reply', where just the lowest is told. -/
theorem reply_loop {B : Nat} {M : ML} {s : MS} (w0 : World) (b1 : Nat) (w77 : World) (h : MAt B M s w77) (hnx : s.next < 4294967296) (hl : s.l.length ≤ 429496729) (hpd : plainD s.l) (dest : Txt) (k : Int) (i : Nat) (x : DestL)
    (hp : placeP (ds s.l) dest = ((i : Nat) : Int)) (hxi : s.l[i]? = some x) (hlow : x.d.low < s.next) (hak : x.d.acked < 4294967296) (hb1 : Blk w77 b1 86 [.string (S dest), .int .i64 k])
    (ta : Option Addr) (tc : Nat) {B' : Nat} (n : Nat) (hot : w77.ownsRow B' 24 1 (.slice ta 1 tc) 1 (u64Cs [x.d.low])) (hn : n = 1) (hB : Below B w0 w77) (R : Ending → World → Prop)
    (hR : ∀ w la lc ad cd, MAt B { M with la := la, lc := lc } { s with l := s.l.set i ⟨ackD x.d s.next, ad, cd⟩ } w → Below B w0 w → Keeps w77 w → R (.returned (.int .i64 0)) w) :
    model_Model_Reply.W0 R (some ⟨M.mb, 0, none⟩) b1 97 ta n tc ((n : Nat) : Int) 0 w77 := by
  subst hn
  refine ⟨fun m j w => (m = 1 ∧ j = 0 ∧ w = w77) ∨ (m = 0 ∧ j = 1 ∧ ∃ la lc ad cd, MAt B { M with la := la, lc := lc } { s with l := s.l.set i ⟨ackD x.d s.next, ad, cd⟩ } w ∧ Below B w0 w ∧ Keeps w77 w), 1, .inl ⟨rfl, rfl, rfl⟩, ?_⟩
  rintro m j g w (⟨rfl, rfl, rfl⟩ | ⟨rfl, rfl, la, lc, ad, cd, hM, hb, hkp⟩) Back hback
  · unfold model_Model_Reply.t1
    obtain ⟨qa, rfl, hc⟩ := rowU64 (RowAt.of_own hot) (i := 0) (n := x.d.low) rfl
    refine boolT rfl (someV_some rfl ⟨⟨by omega, by omega⟩, _, hc, fun V => Below w.heap.size w V, ?_⟩)
    intro w4 e1 e2 e3 e4
    have hb4 := same_below (w := w) (w' := w4) w.heap.size e1 e2 e3 e4
    have M4 := h.below hb4
    refine ⟨hb4, someV_some rfl ⟨_, _, _, _, _, fun V hV => ⟨(h.below hV).blk.cell (j := 7) rfl, (h.below hV).blk.cell (j := 8) rfl, (h.below hV).blk.cell (j := 9) rfl⟩, _, fun V hV => (hb1.below hV hb1.lt).cell (j := 0) rfl, (ledger_done_ack w4 s.first s.next hnx s.l hl hpd M4.abv dest i x hp hxi hlow hak M.la M.lc (RowAt.of_own M4.dst)).mono ?_⟩⟩
    rintro e w13 ⟨hb13, a', c', ad, cd, rfl, ho⟩
    have hb13' : Below w.heap.size w w13 := hb4.trans (hb13.mono hb4.size)
    have M13 := h.below hb13'
    refine ⟨_, _, _, _, _, _, rfl, hb13', ?_⟩
    have hlen : (s.l.set i ⟨ackD x.d s.next, ad, cd⟩).length = s.l.length := List.length_set ..
    have hset := model_set w13 M13 s.first s.next (s.l.set i ⟨ackD x.d s.next, ad, cd⟩) (fun z hz => by
      rcases List.mem_or_eq_of_mem_set hz with hz | rfl
      · exact h.pl z hz
      · rfl) a' c' (by rw [hlen]; exact own_mono ho (by have := h.size; have := hb4.size; omega))
    rw [hlen] at hset
    refine hset.mono ?_
    rintro e w21 ⟨rfl, M21, hb21, hk21⟩
    refine ⟨_, rfl, hback 0 _ _ _ (by omega) (.inr ⟨rfl, rfl, a', c', ad, cd, M21, ?_, (Keeps.below hb13').trans hk21⟩)⟩
    exact (hB.trans (hb13'.mono h.size)).trans hb21
  · unfold model_Model_Reply.t1
    exact boolF rfl (hR w la lc ad cd hM hb hkp)
theorem model_reply1 {B : Nat} {M : ML} {s : MS} (w0 : World) (h : MAt B M s w0) (hnx : s.next < 4294967296) (hl : s.l.length ≤ 429496729) (hpd : plainD s.l) (dest : Txt) (k : Int) (i : Nat) (x : DestL) (hx : s.l.find? (fun x => x.d.name == dest) = some x) (h0 : 0 ≤ k) (h1 : k < s.shards)
    (hp : placeP (ds s.l) dest = ((i : Nat) : Int)) (hxi : s.l[i]? = some x) (hlow : x.d.low < s.next) (hak : x.d.acked < 4294967296)
    (y : SE) (hsn : s.snd = [y]) (hy : hasKey y dest k) (hk : KeyOK dest k) (hfl : y.flight = [x.d.low]) (hrow : RowAt w0 y.a (u64Cs y.flight)) (jit : Int) :
    Calls Tryz.prog 31 #[.pointer (some ⟨M.mb, 0, none⟩), keyV dest k, .int .u64 y.id, .int .i64 1, .int .u64 jit] w0 (fun e w => e = .returned (.int .i64 0) ∧ Below B w0 w ∧ Keeps w0 w ∧
      ∃ la lc sc ad cd snd, MAt B { M with la := la, lc := lc, sclk := sc } { s with l := s.l.set i ⟨ackD x.d s.next, ad, cd⟩, snd := snd } w) := by
  apply model_Model_Reply.calls
  intro L0 hL
  unfold model_Model_Reply.t0
  refine allocV (cs := [.string (S dest), .int .i64 k]) ?_
  intro w2 h1b hb2 hs2
  have M2 := h.below hb2
  refine ⟨_, _, ⟨h1b.cell (j := 0) rfl, h1b.cell (j := 1) rfl⟩, (model_check w2 M2 hl dest k x hx h0 h1).mono ?_⟩
  rintro e w8 ⟨rfl, hb8⟩
  have hb8' := hb2.trans (hb8.mono hb2.size)
  have h18 := h1b.below hb8 h1b.lt
  have M8 := h.below hb8'
  have hs8 : w2.heap.size ≤ w8.heap.size := hb8.size
  have hB : B ≤ w0.heap.size := h.size
  have hmb := h.blk.lt
  have hks : ∀ y ∈ s.snd, KeyOK y.dest y.shard := by
    intro z hz
    rw [hsn] at hz
    simp at hz; subst hz
    rw [hy.1, hy.2]; exact hk
  refine ⟨_, rfl, boolF rfl ⟨fun W => Below w8.heap.size w8 W, ?_⟩⟩
  intro w18 e1 e2 e3 e4
  have hb := same_below (w := w8) (w' := w18) w8.heap.size e1 e2 e3 e4
  refine ⟨hb, someV_some rfl ⟨_, _, _, _, fun W hW => ⟨(M8.below hW).blk.cell (j := 2) rfl, (M8.below hW).blk.cell (j := 3) rfl, (M8.below hW).blk.cell (j := 4) rfl, (M8.below hW).blk.cell (j := 5) rfl⟩, _, _, fun W hW => ⟨(h18.below hW h18.lt).cell (j := 0) rfl, (h18.below hW h18.lt).cell (j := 1) rfl⟩, someV_some rfl ⟨_, fun W hW => (M8.below hW).blk.cell (j := 16) rfl, ?_, ?_⟩⟩⟩
  · refine (model_at w18 (M8.below hb) hks dest k hk).mono ?_
    rintro e u1 ⟨hv0, hat⟩
    have hat : e = .returned y.val := by
      rcases hat with ⟨hno, _⟩ | ⟨j, z, hj, hzk, he⟩
      · exact absurd hy (hno y (by rw [hsn]; simp))
      · have := List.mem_of_getElem? hj
        rw [hsn] at this
        simp at this; subst this; exact he
    subst hat
    have hb : Below w8.heap.size w8 u1 := hb.trans (hv0.mono hb.size)
    refine ⟨_, _, _, _, _, _, _, rfl, hb, ?_⟩
    refine ⟨?_, ?_⟩
    · refine (sender_reply s.c.batch s.c.timeout s.c.base s.c.most y.id y.flight (by rw [hfl]; simp) (by rw [hfl]; simp) y.a y.c y.since y.tries y.until_ s.now jit 1 (.inl rfl) u1 ((hrow.below hb8' (Nat.le_refl _)).below hb (Nat.le_refl _))).mono ?_
      rintro e u2 ⟨hv0, at_, ct, rfl, ho⟩
      have ho := own_mono ho hb.size
      have hb : Below w8.heap.size w8 u2 := hb.trans (hv0.mono hb.size)
      refine ⟨_, _, _, _, _, _, _, _, _, _, _, rfl, hb, ?_⟩
      intro b54 u3 eb ew
      have hv0 : Below u2.heap.size u2 u3 := by rw [ew]; exact (Below.refl _ _).alloc (Nat.le_refl _) _
      have hbge : w8.heap.size ≤ b54 := by rw [eb]; exact hb.size
      have hz : Blk u3 b54 105 [.int .u64 0, .slice none 0 0, .int .u64 0, .int .i64 0, .int .u64 0] := by rw [eb, ew]; exact Blk.new u2 _ _
      have ho := own_below ho hv0
      have hb : Below w8.heap.size w8 u3 := hb.trans (hv0.mono hb.size)
      clear eb ew
      refine ⟨hb, ?_⟩
      refine st5V hz ?_
      intro W hv hgW hsW
      have hbW : Below w8.heap.size w8 W := below_grown hb hgW hb.size hbge
      have hoW : W.ownsRow w8.heap.size 24 1 (.slice at_ y.flight.length ct) y.flight.length (u64Cs y.flight) := ho.kept hgW (.inr (own_ne ho hz (by decide)))
      refine ⟨hbW, boolF rfl ⟨fun V => Below W.heap.size W V, ?_⟩⟩
      intro w65 e1 e2 e3 e4
      have hb65 := same_below (w := W) (w' := w65) W.heap.size e1 e2 e3 e4
      have hb65' : Below w8.heap.size w8 w65 := hbW.trans (hb65.mono hbW.size)
      have up : ∀ V, Below W.heap.size W V → Below w8.heap.size w8 V := fun V hV => hbW.trans (hV.mono hbW.size)
      obtain ⟨X, hX⟩ : ∃ X : SE, X = ⟨dest, k, y.id, none, [], 0, y.since, 0, s.now, M.sclk⟩ := ⟨_, rfl⟩
      have M65 := M8.below hb65'
      have h165 := h18.below hb65' h18.lt
      have ho65 := own_below hoW hb65
      obtain ⟨l', clk', hrun⟩ : ∃ (l' : List SE) (clk' : Nat), (Instr.mapUpdate 95 (.map (some M.sb)) (keyV X.dest X.shard) X.val).run Tryz.prog w65 = .ok () (Go.ChangeMaps.setBlock w65 M.sb (.map (l'.map SE.ent).toArray clk')) := by
        rcases run_mapUpdate_snd M65.snd hks X (by rw [hX]; exact hk) (by rw [hX]) with ⟨_, hrun⟩ | ⟨j, y, hj, hy, hrun⟩
        · exact ⟨_, _, hrun⟩
        · exact ⟨_, _, hrun⟩
      refine ⟨hb65, someV_some rfl ⟨_, fun V hV => (M8.below (up V hV)).blk.cell (j := 14) rfl, _, _, fun V hV => ⟨(h18.below (up V hV) h18.lt).cell (j := 0) rfl, (h18.below (up V hV) h18.lt).cell (j := 1) rfl⟩, _, _, _, _, _, _, _, fun V hV => ⟨(hv.below hV hv.lt).cell (j := 0) rfl, (hv.below hV hv.lt).cell (j := 1) rfl, (hv.below hV hv.lt).cell (j := 2) rfl, (hv.below hV hv.lt).cell (j := 3) rfl, (hv.below hV hv.lt).cell (j := 4) rfl⟩, unitV_ok (w' := Go.ChangeMaps.setBlock w65 M.sb (.map (l'.map SE.ent).toArray clk')) (by rw [hX] at hrun; exact hrun) ?_⟩⟩
      have hg77 := setBlock_grown w65 M.sb (.map (l'.map SE.ent).toArray clk')
      have M77 := M65.sput l' clk'
      have h177 := h165.grown hg77 (by simp; exact map_ne_blk M65.snd h165)
      have ho77 := ho65.kept hg77 (.inr (map_ne_own M65.snd ho65))
      have hk77 : Keeps w0 _ := ((Keeps.below hb8').trans (Keeps.below hb65')).trans (Keeps.map M65.snd (.map (l'.map SE.ent).toArray clk'))
      have hB77 := (hb8'.trans (hb65'.mono hb8'.size)).mono hB |>.grown hg77 (by have := hb8'.size; have := hb65'.size; omega) (fun i e => by cases e; exact h.hs)
      generalize Go.ChangeMaps.setBlock w65 M.sb (.map (l'.map SE.ent).toArray clk') = w77 at hg77 M77 h177 ho77 hB77 hk77 ⊢
      refine boolF rfl (hL _ _ _ _ _ _ _ _ _ _ ?_)
      exact reply_loop w0 w0.heap.size w77 M77 hnx hl hpd dest k i x hp hxi hlow hak h177 at_ ct _ (by rw [hfl] at ho77; exact ho77) (by rw [hfl]; rfl) hB77 _ (fun w la lc ad cd hM hb hkp => ⟨rfl, hb, hk77.trans hkp, la, lc, clk', ad, cd, l', hM⟩)
    · intro b54 u4 eb ew
      have hv0 : Below u1.heap.size u1 u4 := by rw [ew]; exact (Below.refl _ _).alloc (Nat.le_refl _) _
      have hbge : w8.heap.size ≤ b54 := by rw [eb]; exact hb.size
      have hz : Blk u4 b54 105 [.int .u64 0, .slice none 0 0, .int .u64 0, .int .i64 0, .int .u64 0] := by rw [eb, ew]; exact Blk.new u1 _ _
      have hb : Below w8.heap.size w8 u4 := hb.trans (hv0.mono hb.size)
      clear eb ew
      refine ⟨hb, ?_⟩
      refine (sender_reply s.c.batch s.c.timeout s.c.base s.c.most y.id y.flight (by rw [hfl]; simp) (by rw [hfl]; simp) y.a y.c y.since y.tries y.until_ s.now jit 1 (.inl rfl) u4 ((hrow.below hb8' (Nat.le_refl _)).below hb (Nat.le_refl _))).mono ?_
      rintro e u5 ⟨hv0, at_, ct, rfl, ho⟩
      have ho := own_mono ho hb.size
      have hz := hz.below hv0 hz.lt
      have hb : Below w8.heap.size w8 u5 := hb.trans (hv0.mono hb.size)
      refine ⟨_, _, _, _, _, _, _, _, _, _, _, rfl, hb, ?_⟩
      refine st5V hz ?_
      intro W hv hgW hsW
      have hbW : Below w8.heap.size w8 W := below_grown hb hgW hb.size hbge
      have hoW : W.ownsRow w8.heap.size 24 1 (.slice at_ y.flight.length ct) y.flight.length (u64Cs y.flight) := ho.kept hgW (.inr (own_ne ho hz (by decide)))
      refine ⟨hbW, boolF rfl ⟨fun V => Below W.heap.size W V, ?_⟩⟩
      intro w65 e1 e2 e3 e4
      have hb65 := same_below (w := W) (w' := w65) W.heap.size e1 e2 e3 e4
      have hb65' : Below w8.heap.size w8 w65 := hbW.trans (hb65.mono hbW.size)
      have up : ∀ V, Below W.heap.size W V → Below w8.heap.size w8 V := fun V hV => hbW.trans (hV.mono hbW.size)
      obtain ⟨X, hX⟩ : ∃ X : SE, X = ⟨dest, k, y.id, none, [], 0, y.since, 0, s.now, M.sclk⟩ := ⟨_, rfl⟩
      have M65 := M8.below hb65'
      have h165 := h18.below hb65' h18.lt
      have ho65 := own_below hoW hb65
      obtain ⟨l', clk', hrun⟩ : ∃ (l' : List SE) (clk' : Nat), (Instr.mapUpdate 95 (.map (some M.sb)) (keyV X.dest X.shard) X.val).run Tryz.prog w65 = .ok () (Go.ChangeMaps.setBlock w65 M.sb (.map (l'.map SE.ent).toArray clk')) := by
        rcases run_mapUpdate_snd M65.snd hks X (by rw [hX]; exact hk) (by rw [hX]) with ⟨_, hrun⟩ | ⟨j, y, hj, hy, hrun⟩
        · exact ⟨_, _, hrun⟩
        · exact ⟨_, _, hrun⟩
      refine ⟨hb65, someV_some rfl ⟨_, fun V hV => (M8.below (up V hV)).blk.cell (j := 14) rfl, _, _, fun V hV => ⟨(h18.below (up V hV) h18.lt).cell (j := 0) rfl, (h18.below (up V hV) h18.lt).cell (j := 1) rfl⟩, _, _, _, _, _, _, _, fun V hV => ⟨(hv.below hV hv.lt).cell (j := 0) rfl, (hv.below hV hv.lt).cell (j := 1) rfl, (hv.below hV hv.lt).cell (j := 2) rfl, (hv.below hV hv.lt).cell (j := 3) rfl, (hv.below hV hv.lt).cell (j := 4) rfl⟩, unitV_ok (w' := Go.ChangeMaps.setBlock w65 M.sb (.map (l'.map SE.ent).toArray clk')) (by rw [hX] at hrun; exact hrun) ?_⟩⟩
      have hg77 := setBlock_grown w65 M.sb (.map (l'.map SE.ent).toArray clk')
      have M77 := M65.sput l' clk'
      have h177 := h165.grown hg77 (by simp; exact map_ne_blk M65.snd h165)
      have ho77 := ho65.kept hg77 (.inr (map_ne_own M65.snd ho65))
      have hk77 : Keeps w0 _ := ((Keeps.below hb8').trans (Keeps.below hb65')).trans (Keeps.map M65.snd (.map (l'.map SE.ent).toArray clk'))
      have hB77 := (hb8'.trans (hb65'.mono hb8'.size)).mono hB |>.grown hg77 (by have := hb8'.size; have := hb65'.size; omega) (fun i e => by cases e; exact h.hs)
      generalize Go.ChangeMaps.setBlock w65 M.sb (.map (l'.map SE.ent).toArray clk') = w77 at hg77 M77 h177 ho77 hB77 hk77 ⊢
      refine boolF rfl (hL _ _ _ _ _ _ _ _ _ _ ?_)
      exact reply_loop w0 w0.heap.size w77 M77 hnx hl hpd dest k i x hp hxi hlow hak h177 at_ ct _ (by rw [hfl] at ho77; exact ho77) (by rw [hfl]; rfl) hB77 _ (fun w la lc ad cd hM hb hkp => ⟨rfl, hb, hk77.trans hkp, la, lc, clk', ad, cd, l', hM⟩)
  · intro b54 u6 eb ew
    have hv0 : Below w18.heap.size w18 u6 := by rw [ew]; exact (Below.refl _ _).alloc (Nat.le_refl _) _
    have hbge : w8.heap.size ≤ b54 := by rw [eb]; exact hb.size
    have hz : Blk u6 b54 105 [.int .u64 0, .slice none 0 0, .int .u64 0, .int .i64 0, .int .u64 0] := by rw [eb, ew]; exact Blk.new w18 _ _
    have hb : Below w8.heap.size w8 u6 := hb.trans (hv0.mono hb.size)
    clear eb ew
    refine ⟨hb, ?_⟩
    refine (model_at u6 (M8.below hb) hks dest k hk).mono ?_
    rintro e u7 ⟨hv0, hat⟩
    have hat : e = .returned y.val := by
      rcases hat with ⟨hno, _⟩ | ⟨j, z, hj, hzk, he⟩
      · exact absurd hy (hno y (by rw [hsn]; simp))
      · have := List.mem_of_getElem? hj
        rw [hsn] at this
        simp at this; subst this; exact he
    subst hat
    have hz := hz.below hv0 hz.lt
    have hb : Below w8.heap.size w8 u7 := hb.trans (hv0.mono hb.size)
    refine ⟨_, _, _, _, _, _, _, rfl, hb, ?_⟩
    refine (sender_reply s.c.batch s.c.timeout s.c.base s.c.most y.id y.flight (by rw [hfl]; simp) (by rw [hfl]; simp) y.a y.c y.since y.tries y.until_ s.now jit 1 (.inl rfl) u7 ((hrow.below hb8' (Nat.le_refl _)).below hb (Nat.le_refl _))).mono ?_
    rintro e u8 ⟨hv0, at_, ct, rfl, ho⟩
    have ho := own_mono ho hb.size
    have hz := hz.below hv0 hz.lt
    have hb : Below w8.heap.size w8 u8 := hb.trans (hv0.mono hb.size)
    refine ⟨_, _, _, _, _, _, _, _, _, _, _, rfl, hb, ?_⟩
    refine st5V hz ?_
    intro W hv hgW hsW
    have hbW : Below w8.heap.size w8 W := below_grown hb hgW hb.size hbge
    have hoW : W.ownsRow w8.heap.size 24 1 (.slice at_ y.flight.length ct) y.flight.length (u64Cs y.flight) := ho.kept hgW (.inr (own_ne ho hz (by decide)))
    refine ⟨hbW, boolF rfl ⟨fun V => Below W.heap.size W V, ?_⟩⟩
    intro w65 e1 e2 e3 e4
    have hb65 := same_below (w := W) (w' := w65) W.heap.size e1 e2 e3 e4
    have hb65' : Below w8.heap.size w8 w65 := hbW.trans (hb65.mono hbW.size)
    have up : ∀ V, Below W.heap.size W V → Below w8.heap.size w8 V := fun V hV => hbW.trans (hV.mono hbW.size)
    obtain ⟨X, hX⟩ : ∃ X : SE, X = ⟨dest, k, y.id, none, [], 0, y.since, 0, s.now, M.sclk⟩ := ⟨_, rfl⟩
    have M65 := M8.below hb65'
    have h165 := h18.below hb65' h18.lt
    have ho65 := own_below hoW hb65
    obtain ⟨l', clk', hrun⟩ : ∃ (l' : List SE) (clk' : Nat), (Instr.mapUpdate 95 (.map (some M.sb)) (keyV X.dest X.shard) X.val).run Tryz.prog w65 = .ok () (Go.ChangeMaps.setBlock w65 M.sb (.map (l'.map SE.ent).toArray clk')) := by
      rcases run_mapUpdate_snd M65.snd hks X (by rw [hX]; exact hk) (by rw [hX]) with ⟨_, hrun⟩ | ⟨j, y, hj, hy, hrun⟩
      · exact ⟨_, _, hrun⟩
      · exact ⟨_, _, hrun⟩
    refine ⟨hb65, someV_some rfl ⟨_, fun V hV => (M8.below (up V hV)).blk.cell (j := 14) rfl, _, _, fun V hV => ⟨(h18.below (up V hV) h18.lt).cell (j := 0) rfl, (h18.below (up V hV) h18.lt).cell (j := 1) rfl⟩, _, _, _, _, _, _, _, fun V hV => ⟨(hv.below hV hv.lt).cell (j := 0) rfl, (hv.below hV hv.lt).cell (j := 1) rfl, (hv.below hV hv.lt).cell (j := 2) rfl, (hv.below hV hv.lt).cell (j := 3) rfl, (hv.below hV hv.lt).cell (j := 4) rfl⟩, unitV_ok (w' := Go.ChangeMaps.setBlock w65 M.sb (.map (l'.map SE.ent).toArray clk')) (by rw [hX] at hrun; exact hrun) ?_⟩⟩
    have hg77 := setBlock_grown w65 M.sb (.map (l'.map SE.ent).toArray clk')
    have M77 := M65.sput l' clk'
    have h177 := h165.grown hg77 (by simp; exact map_ne_blk M65.snd h165)
    have ho77 := ho65.kept hg77 (.inr (map_ne_own M65.snd ho65))
    have hk77 : Keeps w0 _ := ((Keeps.below hb8').trans (Keeps.below hb65')).trans (Keeps.map M65.snd (.map (l'.map SE.ent).toArray clk'))
    have hB77 := (hb8'.trans (hb65'.mono hb8'.size)).mono hB |>.grown hg77 (by have := hb8'.size; have := hb65'.size; omega) (fun i e => by cases e; exact h.hs)
    generalize Go.ChangeMaps.setBlock w65 M.sb (.map (l'.map SE.ent).toArray clk') = w77 at hg77 M77 h177 ho77 hB77 hk77 ⊢
    refine boolF rfl (hL _ _ _ _ _ _ _ _ _ _ ?_)
    exact reply_loop w0 w0.heap.size w77 M77 hnx hl hpd dest k i x hp hxi hlow hak h177 at_ ct _ (by rw [hfl] at ho77; exact ho77) (by rw [hfl]; rfl) hB77 _ (fun w la lc ad cd hM hb hkp => ⟨rfl, hb, hk77.trans hkp, la, lc, clk', ad, cd, l', hM⟩)
end Go.Proofs.YtcofknlcdgidpaaGreatDoor
/-! ## Gpostroomlaw20pick -/
namespace Go.Proofs.YtcofknlcdgidpaaGreatDoor
open Go Go.Proofs.YtcofknlcdgidpaaGreatDoor.VC
set_option linter.unusedVariables false
set_option maxRecDepth 100000
set_option maxHeartbeats 0

/-! ### postroom/postroomlaw20.pick: function 15 -/
namespace postroomlaw20_pick
def t0 (R : Ending → World → Prop)  (c_0 : Int) (n_1 : Int) (w : World) : Prop := boolV (decide (c_0 < (0 : Int))) (nzV n_1 (R (.returned (.int .i64 (Int.tmod (IntKind.wrap .i64 (0 - (IntKind.wrap .i64 (c_0 + 1)))) n_1))) w)) (nzV n_1 (R (.returned (.int .i64 (Int.tmod c_0 n_1))) w))
def vc (R : Ending → World → Prop) (c_0 : Int) (n_1 : Int) (w : World) : Prop := t0 R  c_0 n_1 w
theorem calls (R : Ending → World → Prop) (c_0 : Int) (n_1 : Int) (w : World) (h : vc R c_0 n_1 w) : Calls Tryz.prog 15 #[.int .i64 c_0, .int .i64 n_1] w R :=
  calls_V Tryz.func15 (Eq.mpr (by kernel_rfl) (h))
end postroomlaw20_pick
end Go.Proofs.YtcofknlcdgidpaaGreatDoor
/-! ## Gpostroomlaw20config -/
namespace Go.Proofs.YtcofknlcdgidpaaGreatDoor
open Go Go.Proofs.YtcofknlcdgidpaaGreatDoor.VC
set_option linter.unusedVariables false
set_option maxRecDepth 100000
set_option maxHeartbeats 0

/-! ### postroom/postroomlaw20.config: function 16 -/
namespace postroomlaw20_config
def t0 (R : Ending → World → Prop)  (budget_0 : Int) (seg_1 : Int) (batch_2 : Int) (shards_3 : Int) (w : World) : Prop := ∀ (b1 : Nat) (w2 : World), b1 = w.heap.size → w2 = World.alloc w (.cells #[.int .i64 0, .int .i64 0, .int .i64 0, .int .u64 0, .int .u64 0, .int .u64 0, .int .i64 0] 28) → Calls Tryz.prog 15 #[.int .i64 seg_1, .int .i64 900] w2 (fun e3 w4 => ∃ x5 : Int, e3 = .returned (.int .i64 x5) ∧ (Calls Tryz.prog 15 #[.int .i64 batch_2, .int .i64 4] w4 (fun e6 w7 => ∃ x8 : Int, e6 = .returned (.int .i64 x8) ∧ (Calls Tryz.prog 15 #[.int .i64 shards_3, .int .i64 8] w7 (fun e9 w10 => ∃ x11 : Int, e9 = .returned (.int .i64 x11) ∧ (Writable w10 ⟨b1, 0, none⟩ 7 ∧ ∀ w12 : World, w12 = World.setCell (World.setCell (World.setCell (World.setCell (World.setCell (World.setCell (World.setCell w10 ⟨b1, 0, none⟩ (.int .i64 budget_0)) ⟨b1, 1, none⟩ (.int .i64 (IntKind.wrap .i64 (100 + x5)))) ⟨b1, 2, none⟩ (.int .i64 (IntKind.wrap .i64 (1 + x8)))) ⟨b1, 3, none⟩ (.int .u64 3)) ⟨b1, 4, none⟩ (.int .u64 1)) ⟨b1, 5, none⟩ (.int .u64 4)) ⟨b1, 6, none⟩ (.int .i64 (IntKind.wrap .i64 (1 + x11))) → ∃ x13 : Int, ∃ x14 : Int, ∃ x15 : Int, ∃ x16 : Int, ∃ x17 : Int, ∃ x18 : Int, ∃ x19 : Int, (w12.cell? ⟨b1, 0, none⟩ = some (.int .i64 x13) ∧ w12.cell? ⟨b1, 1, none⟩ = some (.int .i64 x14) ∧ w12.cell? ⟨b1, 2, none⟩ = some (.int .i64 x15) ∧ w12.cell? ⟨b1, 3, none⟩ = some (.int .u64 x16) ∧ w12.cell? ⟨b1, 4, none⟩ = some (.int .u64 x17) ∧ w12.cell? ⟨b1, 5, none⟩ = some (.int .u64 x18) ∧ w12.cell? ⟨b1, 6, none⟩ = some (.int .i64 x19)) ∧ (R (.returned (.agg #[.int .i64 x13, .int .i64 x14, .int .i64 x15, .int .u64 x16, .int .u64 x17, .int .u64 x18, .int .i64 x19])) w12)))))))
def vc (R : Ending → World → Prop) (budget_0 : Int) (seg_1 : Int) (batch_2 : Int) (shards_3 : Int) (w : World) : Prop := t0 R  budget_0 seg_1 batch_2 shards_3 w
theorem calls (R : Ending → World → Prop) (budget_0 : Int) (seg_1 : Int) (batch_2 : Int) (shards_3 : Int) (w : World) (h : vc R budget_0 seg_1 batch_2 shards_3 w) : Calls Tryz.prog 16 #[.int .i64 budget_0, .int .i64 seg_1, .int .i64 batch_2, .int .i64 shards_3] w R :=
  calls_V Tryz.func16 (Eq.mpr (by kernel_rfl) (h))
end postroomlaw20_config
end Go.Proofs.YtcofknlcdgidpaaGreatDoor
