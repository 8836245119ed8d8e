/- A part of a proof. Proved: Rows.CallOnlySaid: for every byte slice the law leatlaw16.CallOnly returns true, and the slice reads afterwards as it read before. No condition but the row's own reach. -/
import Derived.Test.YteckmgmcfngddaaGreatProg
import Derived.Test.YteckmgmcfngddaaGreatWWords
import Derived.Lib.Hide
import Derived.StillTailTactics
import Derived.WalkSpells
import Derived.Laws.RangeString
import Derived.Laws.RangeAny
section
/- Words for worlds: which blocks a call may have written (Mod), small facts on blocks. No program in sight but for the words' names. -/
set_option linter.unusedVariables false
set_option linter.unusedSimpArgs false
namespace Go.Proofs.YteckmgmcfngddaaGreat
open Go.RowKit Go.Proofs.YteckmgmcfngddaaGreatW.PrintWords

/-- What a call may have written among the blocks that were there: those of S. -/
structure Mod (S : Nat → Prop) (w w' : World) : Prop where
  os : w'.os = w.os
  tape : w'.tape = w.tape
  output : w'.output = w.output
  size : w.heap.size ≤ w'.heap.size
  block : ∀ i, i < w.heap.size → ¬ S i → w'.heap[i]? = w.heap[i]?

theorem Mod.refl (S : Nat → Prop) (w : World) : Mod S w w := ⟨rfl, rfl, rfl, Nat.le_refl _, fun _ _ _ => rfl⟩
theorem Mod.trans {S : Nat → Prop} {w w1 w2 : World} (h : Mod S w w1) (h2 : Mod S w1 w2) : Mod S w w2 :=
  ⟨h2.os.trans h.os, h2.tape.trans h.tape, h2.output.trans h.output, Nat.le_trans h.size h2.size, fun i hi hs => (h2.block i (Nat.lt_of_lt_of_le hi h.size) hs).trans (h.block i hi hs)⟩
theorem Mod.mono {S S' : Nat → Prop} {w w1 : World} (h : Mod S w w1) (hs : ∀ i, i < w.heap.size → S i → S' i) : Mod S' w w1 :=
  ⟨h.os, h.tape, h.output, h.size, fun i hi hn => h.block i hi (fun hS => hn (hs i hi hS))⟩
theorem Mod.alloc {S : Nat → Prop} {w w1 : World} (h : Mod S w w1) (o : Obj) : Mod S w (w1.alloc o) :=
  h.trans ⟨rfl, rfl, rfl, by simp, fun i hi _ => Below.heap_alloc w1 o i hi⟩
theorem Mod.drew {S : Nat → Prop} {w w1 : World} (h : Mod S w w1) : Mod S w w1.drew := ⟨h.os, h.tape, h.output, h.size, h.block⟩
theorem Mod.drewN {S : Nat → Prop} {w w1 : World} (h : Mod S w w1) (n : Nat) : Mod S w (w1.drewN n) := ⟨h.os, h.tape, h.output, h.size, h.block⟩
theorem Mod.setCell {S : Nat → Prop} {w w1 : World} (h : Mod S w w1) {p : Addr} (hp : p.block < w.heap.size → S p.block) (u : Value) : Mod S w (w1.setCell p u) :=
  ⟨h.os, h.tape, h.output, by simpa using h.size, fun i hi hs => (Below.heap_setCell w1 p u i (fun e => by subst e; exact hs (hp hi))).trans (h.block i hi hs)⟩
theorem Mod.of_below {S : Nat → Prop} {w w1 : World} (h : Below w.heap.size w w1) : Mod S w w1 := ⟨h.os, h.tape, h.output, h.size, fun i hi _ => h.block i hi⟩
theorem Mod.below {S : Nat → Prop} {w w1 : World} (h : Mod S w w1) (hs : ∀ i, i < w.heap.size → ¬ S i) : Below w.heap.size w w1 := ⟨h.os, h.tape, h.output, h.size, fun i hi => h.block i hi (hs i hi)⟩
theorem Mod.of_grown {S : Nat → Prop} {w w1 : World} {row : Option Nat} (h : w.grownBy w1 row) (hs : ∀ g, row = some g → S g) : Mod S w w1 :=
  ⟨h.os, h.tape, h.output, h.size, fun i hi hn => h.block i hi (fun e => hn (hs i e.symm))⟩
/-- What is below B stays below B. -/
theorem Below.mod {B : Nat} {S : Nat → Prop} {w0 w w1 : World} (h : Below B w0 w) (hB : B ≤ w.heap.size) (hm : Mod S w w1) (hs : ∀ i, i < B → ¬ S i) : Below B w0 w1 :=
  h.trans ⟨hm.os, hm.tape, hm.output, hm.size, fun i hi => hm.block i (by omega) (hs i hi)⟩

/-- A block known whole. -/
theorem blk_cell {w : World} {g : Nat} {cs : Array Value} {t : TypeId} (h : w.heap[g]? = some (.cells cs t (0, 0))) (i : Nat) : w.cell? ⟨g, i, none⟩ = cs[i]? := cell_of_row w g i cs t (0, 0) h
theorem blk_frozen {w : World} {g : Nat} {cs : Array Value} {t : TypeId} (h : w.heap[g]? = some (.cells cs t (0, 0))) (i : Nat) : w.frozen? ⟨g, i, none⟩ = false := by simp [World.frozen?, h]
theorem blk_lt {w : World} {g : Nat} {o : Obj} (h : w.heap[g]? = some o) : g < w.heap.size := (Array.getElem?_eq_some_iff.1 h).1
theorem blk_set {w : World} {g : Nat} {cs : Array Value} {t : TypeId} (h : w.heap[g]? = some (.cells cs t (0, 0))) (i : Nat) (u : Value) : (w.setCell ⟨g, i, none⟩ u).heap[g]? = some (.cells (cs.setIfInBounds i u) t (0, 0)) := by
  simp [World.setCell, Array.getElem?_modify, h]
theorem blk_far {w : World} {g : Nat} {o : Obj} (h : w.heap[g]? = some o) {p : Addr} (hp : g ≠ p.block) (u : Value) : (w.setCell p u).heap[g]? = some o := (Below.heap_setCell w p u g hp).trans h
theorem blk_new (w : World) (o : Obj) : (w.alloc o).heap[w.heap.size]? = some o := heap_alloc_new w o
theorem blk_old {w : World} {g : Nat} {o : Obj} (h : w.heap[g]? = some o) (o' : Obj) : (w.alloc o').heap[g]? = some o := (Below.heap_alloc w o' g (blk_lt h)).trans h
theorem blk_mod {S : Nat → Prop} {w w1 : World} {g : Nat} {o : Obj} (h : w.heap[g]? = some o) (hm : Mod S w w1) (hg : ¬ S g) : w1.heap[g]? = some o := (hm.block g (blk_lt h) hg).trans h
theorem blk_ne {w : World} {g g' : Nat} {cs cs' : Array Value} {t t' : TypeId} (h : w.heap[g]? = some (.cells cs t (0, 0))) (h' : w.heap[g']? = some (.cells cs' t' (0, 0))) (hne : t ≠ t') : g ≠ g' := by
  rintro rfl
  rw [h] at h'
  injection h' with h'
  injection h' with _ ht
  exact hne ht

end Go.Proofs.YteckmgmcfngddaaGreat
end

section
/- The cursor's reader: what each of its methods does to the block that holds it. -/
set_option linter.unusedVariables false
set_option linter.unusedSimpArgs false
namespace Go.Proofs.YteckmgmcfngddaaGreat
open Go.RowKit Go.Proofs.YteckmgmcfngddaaGreatW.PrintWords

/-- A reader in block g, over the bytes b (a row of its own, value v), standing at pos. -/
def RdAt (w : World) (g : Nat) (v : Value) (b : List Int) (pos : Nat) : Prop :=
  w.heap[g]? = some (.cells #[v, .int .i64 pos] 288 (0, 0)) ∧ w.ownsRow 0 5 1 v b.length (nums .u8 b) ∧ pos ≤ b.length ∧ b.length ≤ 140737488355328

theorem RdAt.mod {w w1 : World} {g : Nat} {v : Value} {b : List Int} {pos : Nat} {S : Nat → Prop} (h : RdAt w g v b pos) (hm : Mod S w w1) (hg : ¬ S g) (hv : ∀ k, v.ownBlock = some k → ¬ S k) : RdAt w1 g v b pos :=
  ⟨blk_mod h.1 hm hg, own_move h.2.1 (fun k hk => hm.block k (own_lt h.2.1 k hk) (hv k hk)), h.2.2⟩
theorem RdAt.ne {w : World} {g : Nat} {v : Value} {b : List Int} {pos : Nat} (h : RdAt w g v b pos) : some g ≠ v.ownBlock := own_ne h.2.1 h.1 (by decide)
theorem RdAt.set {w : World} {g : Nat} {v : Value} {b : List Int} {pos pos' : Nat} {x : Int} (h : RdAt w g v b pos) (n : Nat) (hx : x = pos') (hp : pos' ≤ b.length) : RdAt ((w.drewN n).setCell ⟨g, 1, none⟩ (.int .i64 x)) g v b pos' := by
  subst hx
  have h1 : (w.drewN n).heap[g]? = some (.cells #[v, .int .i64 pos] 288 (0, 0)) := h.1
  have h2 : (w.drewN n).ownsRow 0 5 1 v b.length (nums .u8 b) := h.2.1
  exact ⟨by simpa using blk_set h1 1 (.int .i64 pos'), own_setCell h2 h.ne _, hp, h.2.2.2⟩

/-- The number that bytes say, the highest first. -/
def beU (l : List Int) : Int := l.foldl (fun a c => Go.bits .or .u64 (IntKind.u64.wrap (a * 256)) (IntKind.u64.wrap c)) 0
theorem beU_take (l : List Int) (j : Nat) (h : j < l.length) : beU (l.take (j + 1)) = Go.bits .or .u64 (IntKind.u64.wrap (beU (l.take j) * 256)) (IntKind.u64.wrap (l.getD j 0)) := by
  unfold beU
  rw [List.take_succ_eq_append_getElem h, List.foldl_append, List.getD_eq_getElem?_getD, List.getElem?_eq_getElem h]
  rfl

set_option maxHeartbeats 400000 in
theorem rd_left (w : World) (g : Nat) (v : Value) (b : List Int) (pos : Nat) (h : RdAt w g v b pos) :
    Calls Tryz.prog 159 #[.pointer (some ⟨g, 0, none⟩)] w fun e w' => e = .returned (.int .i64 ((b.length : Int) - pos)) ∧ ∃ k, w' = w.drewN k := by
  obtain ⟨hb, ho, hp, hl⟩ := h
  obtain ⟨A, c, rfl⟩ := own_slice ho
  have c0 := blk_cell hb 0
  have c1 := blk_cell hb 1
  simp at c0 c1
  go_enter Tryz.func159, Tryz.ntmps159
  go_wp2
  go_quiet (fail)
  go_wp2
  go_ret
  exact ⟨rfl, _, rfl⟩

set_option maxHeartbeats 800000 in
theorem rd_number_short (w : World) (g : Nat) (v : Value) (b : List Int) (pos n : Nat) (h : RdAt w g v b pos) (hn : b.length - pos < n) (hn8 : n ≤ 8) :
    Calls Tryz.prog 215 #[.pointer (some ⟨g, 0, none⟩), .int .i64 n] w fun e w' => e = .returned (.tuple #[.int .u64 0, .int .i64 1]) ∧ ∃ k, w' = w.drewN k := by
  have hp := h.2.2.1
  have hl := h.2.2.2
  have hlt : (b.length : Int) - pos < n := by omega
  go_enter Tryz.func215, Tryz.ntmps215
  go_wp2_with fail
  refine (rd_left w g v b pos h).mono ?_
  rintro e w' ⟨rfl, k, rfl⟩
  go_wp2
  go_ret2
  exact ⟨rfl, k, rfl⟩

set_option maxHeartbeats 1600000 in
theorem rd_number (w : World) (g : Nat) (v : Value) (b : List Int) (pos n : Nat) (h : RdAt w g v b pos) (hn : n ≤ b.length - pos) (hn1 : 1 ≤ n) (hn8 : n ≤ 8) :
    Calls Tryz.prog 215 #[.pointer (some ⟨g, 0, none⟩), .int .i64 n] w fun e w' => e = .returned (.tuple #[.int .u64 (beU ((b.drop pos).take n)), .int .i64 0]) ∧ ∃ k, w' = (w.drewN k).setCell ⟨g, 1, none⟩ (.int .i64 ((pos : Int) + n)) := by
  have hp := h.2.2.1
  have hl := h.2.2.2
  have hlt : ¬ (b.length : Int) - pos < n := by omega
  obtain ⟨q, cap, rfl, hq0, hcap⟩ := h.2.1.form (by omega)
  have hcl := own_cap h.2.1
  have c0 := fun k => blk_cell (w := w.drewN k) (g := g) h.1 0
  have c1 := fun k => blk_cell (w := w.drewN k) (g := g) h.1 1
  have f1 := fun k => blk_frozen (w := w.drewN k) (g := g) h.1 1
  simp at c0 c1
  have s0 : (0 : Int) ≤ (pos : Int) + n := by omega
  have s1 : (pos : Int) ≤ (pos : Int) + n := by omega
  have s2 : (pos : Int) + n ≤ cap := by omega
  go_enter Tryz.func215, Tryz.ntmps215
  go_wp2_with fail
  refine (rd_left w g _ b pos h).mono ?_
  rintro e w' ⟨rfl, k, rfl⟩
  go_wp2
  go_quiet (fail)
  go_wp2
  go_loop [6, 8, 29] (fun a c i => ∃ j : Nat, j ≤ n ∧ i = .int .i64 j ∧ a = .int .u64 (beU ((b.drop pos).take j))) (fun _ _ i => n - (intOf i).toNat)
  case atStart => exact ⟨0, Nat.zero_le _, rfl, rfl⟩
  case round =>
    obtain ⟨j, hj, rfl, rfl⟩ := hrel
    by_cases hlt : j < n
    · have hcell : w.cell? ⟨q, pos + j, none⟩ = some (.int .u8 ((b.drop pos).getD j 0)) := by
        have := (own_at h.2.1 ((pos : Int) + j) (by omega) (by omega)).1
        rw [show ((pos : Int) + j).toNat = pos + j from by omega] at this
        rw [this]
        simp [rd, List.getD_eq_getElem?_getD]
        rw [show ((pos : Int) + j).toNat = pos + j from by omega]
      have HS := Lib.hid (beU_take (b.drop pos) j (by rw [List.length_drop]; omega))
      go_wp2
      refine ⟨⟨_, _, _, ⟨j + 1, by omega, ?_, ?_⟩, rfl, rfl, rfl⟩, by simp [intOf]; omega⟩
      · go_num
      · rw [HS.out]; simp [List.getD_eq_getElem?_getD]
    · obtain rfl : j = n := by omega
      go_wp2
      go_ret2
      exact ⟨rfl, _, rfl⟩


theorem rd_i8_short (w : World) (g : Nat) (v : Value) (b : List Int) (pos : Nat) (h : RdAt w g v b pos) (hn : b.length - pos < 1) :
    Calls Tryz.prog 192 #[.pointer (some ⟨g, 0, none⟩)] w fun e w' => e = .returned (.tuple #[.int .i8 0, .int .i64 1]) ∧ ∃ k, w' = w.drewN k := by
  go_enter Tryz.func192, Tryz.ntmps192
  go_wp2_with fail
  refine (rd_number_short w g v b pos 1 h hn (by omega)).mono ?_
  rintro e w' ⟨rfl, k, rfl⟩
  go_wp2
  go_ret2
  exact ⟨rfl, k, rfl⟩
theorem rd_i8 (w : World) (g : Nat) (v : Value) (b : List Int) (pos : Nat) (h : RdAt w g v b pos) (hn : 1 ≤ b.length - pos) :
    Calls Tryz.prog 192 #[.pointer (some ⟨g, 0, none⟩)] w fun e w' => e = .returned (.tuple #[.int .i8 (IntKind.i8.wrap (beU ((b.drop pos).take 1))), .int .i64 0]) ∧ ∃ k, w' = (w.drewN k).setCell ⟨g, 1, none⟩ (.int .i64 ((pos : Int) + 1)) := by
  go_enter Tryz.func192, Tryz.ntmps192
  go_wp2_with fail
  refine (rd_number w g v b pos 1 h hn (by omega) (by omega)).mono ?_
  rintro e w' ⟨rfl, k, rfl⟩
  go_wp2
  go_ret2
  exact ⟨rfl, k, rfl⟩

theorem rd_i16_short (w : World) (g : Nat) (v : Value) (b : List Int) (pos : Nat) (h : RdAt w g v b pos) (hn : b.length - pos < 2) :
    Calls Tryz.prog 178 #[.pointer (some ⟨g, 0, none⟩)] w fun e w' => e = .returned (.tuple #[.int .i16 0, .int .i64 1]) ∧ ∃ k, w' = w.drewN k := by
  go_enter Tryz.func178, Tryz.ntmps178
  go_wp2_with fail
  refine (rd_number_short w g v b pos 2 h hn (by omega)).mono ?_
  rintro e w' ⟨rfl, k, rfl⟩
  go_wp2
  go_ret2
  exact ⟨rfl, k, rfl⟩
theorem rd_i16 (w : World) (g : Nat) (v : Value) (b : List Int) (pos : Nat) (h : RdAt w g v b pos) (hn : 2 ≤ b.length - pos) :
    Calls Tryz.prog 178 #[.pointer (some ⟨g, 0, none⟩)] w fun e w' => e = .returned (.tuple #[.int .i16 (IntKind.i16.wrap (beU ((b.drop pos).take 2))), .int .i64 0]) ∧ ∃ k, w' = (w.drewN k).setCell ⟨g, 1, none⟩ (.int .i64 ((pos : Int) + 2)) := by
  go_enter Tryz.func178, Tryz.ntmps178
  go_wp2_with fail
  refine (rd_number w g v b pos 2 h hn (by omega) (by omega)).mono ?_
  rintro e w' ⟨rfl, k, rfl⟩
  go_wp2
  go_ret2
  exact ⟨rfl, k, rfl⟩

theorem rd_i32_short (w : World) (g : Nat) (v : Value) (b : List Int) (pos : Nat) (h : RdAt w g v b pos) (hn : b.length - pos < 4) :
    Calls Tryz.prog 166 #[.pointer (some ⟨g, 0, none⟩)] w fun e w' => e = .returned (.tuple #[.int .i32 0, .int .i64 1]) ∧ ∃ k, w' = w.drewN k := by
  go_enter Tryz.func166, Tryz.ntmps166
  go_wp2_with fail
  refine (rd_number_short w g v b pos 4 h hn (by omega)).mono ?_
  rintro e w' ⟨rfl, k, rfl⟩
  go_wp2
  go_ret2
  exact ⟨rfl, k, rfl⟩
theorem rd_i32 (w : World) (g : Nat) (v : Value) (b : List Int) (pos : Nat) (h : RdAt w g v b pos) (hn : 4 ≤ b.length - pos) :
    Calls Tryz.prog 166 #[.pointer (some ⟨g, 0, none⟩)] w fun e w' => e = .returned (.tuple #[.int .i32 (wrap32 (beU ((b.drop pos).take 4))), .int .i64 0]) ∧ ∃ k, w' = (w.drewN k).setCell ⟨g, 1, none⟩ (.int .i64 ((pos : Int) + 4)) := by
  go_enter Tryz.func166, Tryz.ntmps166
  go_wp2_with fail
  refine (rd_number w g v b pos 4 h hn (by omega) (by omega)).mono ?_
  rintro e w' ⟨rfl, k, rfl⟩
  go_wp2
  go_ret2
  exact ⟨rfl, k, rfl⟩

theorem rd_i64_short (w : World) (g : Nat) (v : Value) (b : List Int) (pos : Nat) (h : RdAt w g v b pos) (hn : b.length - pos < 8) :
    Calls Tryz.prog 189 #[.pointer (some ⟨g, 0, none⟩)] w fun e w' => e = .returned (.tuple #[.int .i64 0, .int .i64 1]) ∧ ∃ k, w' = w.drewN k := by
  go_enter Tryz.func189, Tryz.ntmps189
  go_wp2_with fail
  refine (rd_number_short w g v b pos 8 h hn (by omega)).mono ?_
  rintro e w' ⟨rfl, k, rfl⟩
  go_wp2
  go_ret2
  exact ⟨rfl, k, rfl⟩
theorem rd_i64 (w : World) (g : Nat) (v : Value) (b : List Int) (pos : Nat) (h : RdAt w g v b pos) (hn : 8 ≤ b.length - pos) :
    Calls Tryz.prog 189 #[.pointer (some ⟨g, 0, none⟩)] w fun e w' => e = .returned (.tuple #[.int .i64 (wrap64 (beU ((b.drop pos).take 8))), .int .i64 0]) ∧ ∃ k, w' = (w.drewN k).setCell ⟨g, 1, none⟩ (.int .i64 ((pos : Int) + 8)) := by
  go_enter Tryz.func189, Tryz.ntmps189
  go_wp2_with fail
  refine (rd_number w g v b pos 8 h hn (by omega) (by omega)).mono ?_
  rintro e w' ⟨rfl, k, rfl⟩
  go_wp2
  go_ret2
  exact ⟨rfl, k, rfl⟩

end Go.Proofs.YteckmgmcfngddaaGreat
end

section
/- bytes.Clone; the cursor's reader: Skip, Take, End, NewReader. -/
set_option linter.unusedVariables false
set_option linter.unusedSimpArgs false
namespace Go.Proofs.YteckmgmcfngddaaGreat
open Go.RowKit Go.Proofs.YteckmgmcfngddaaGreatW.PrintWords

theorem info5 : (Tryz.prog.info? 5).map (fun i => (i.zero, i.size, i.bytes)) = some (some (.int .u8 0), 1, 1) := by kernel_rfl

set_option maxHeartbeats 800000 in
theorem clone_any (w : World) (A : Option Addr) (n c : Nat) (xs : List Int) (hr : ReadsInt w .u8 A n xs) (hl : n ≤ 140737488355328) :
    Calls Tryz.prog 183 #[.slice A n c] w fun e w' => ∃ v, e = .returned v ∧ w'.ownsRow w.heap.size 5 1 v xs.length (nums .u8 xs) ∧ Below w.heap.size w w' := by
  have qT : ∀ (w : World) (a : Option Addr) (n c n' c' : Nat), (binOp .eql 22 (.slice a n c) (.slice none n' c')).run Tryz.prog w = .ok (.bool a.isNone) w := fun w a n c n' c' => Lib.run_eql_slice_nil w _ _ a n c n' c' Tryz.underlying22
  have hx := hr.1
  cases A with
  | none =>
    have h0 : xs = [] := by
      rcases Nat.eq_zero_or_pos n with h0 | h0
      · exact List.eq_nil_of_length_eq_zero (by omega)
      · obtain ⟨ad, e, _⟩ := hr.2.2 h0; cases e
    subst h0
    go_enter Tryz.func183, Tryz.ntmps183
    go_wp2
    go_ret
    exact ⟨_, rfl, own_nil _ _ _ _, Below.refl _ _⟩
  | some ad =>
    have hown : (w.alloc (.cells #[] 5)).ownsRow w.heap.size 5 1 (.slice (some ⟨w.heap.size, 0, none⟩) 0 0) ([] : List Int).length (nums .u8 []) := own_lit w w.heap.size 5 .u8 [] (Nat.le_refl _) (by simp)
    go_enter Tryz.func183, Tryz.ntmps183
    go_wp2_with (at_builtin; refine print_append_row (w0 := w) w.heap.size rfl (.tmp 5) (.tmp 6) 22 5 .u8 1 rfl Tryz.underlying22 info5 (by decide) _ [] xs _ n c rfl rfl hown (hr.below ((Below.refl _ _).alloc (Nat.le_refl _) _)) ((Below.refl _ _).alloc (Nat.le_refl _) _) (by simp) (by simp; omega) ?_; intro v1 w1 ho hb hg hat)
    go_ret
    exact ⟨_, rfl, by simpa using ho, hb⟩

def rdEnd (b : List Int) (pos : Nat) : Int := if pos < b.length then 2 else 0
set_option maxHeartbeats 400000 in
theorem rd_end (w : World) (g : Nat) (v : Value) (b : List Int) (pos : Nat) (h : RdAt w g v b pos) :
    Calls Tryz.prog 69 #[.pointer (some ⟨g, 0, none⟩)] w fun e w' => e = .returned (.int .i64 (rdEnd b pos)) ∧ ∃ k, w' = w.drewN k := by
  obtain ⟨hb, ho, hp, hl⟩ := h
  obtain ⟨A, c, rfl⟩ := own_slice ho
  have c0 := blk_cell hb 0
  have c1 := blk_cell hb 1
  simp at c0 c1
  by_cases hlt : pos < b.length
  · go_enter Tryz.func69, Tryz.ntmps69
    go_wp2
    go_quiet (fail)
    go_wp2
    go_ret
    exact ⟨by unfold rdEnd; rw [if_pos hlt]; rfl, _, rfl⟩
  · go_enter Tryz.func69, Tryz.ntmps69
    go_wp2
    go_quiet (fail)
    go_wp2
    go_ret
    exact ⟨by unfold rdEnd; rw [if_neg hlt]; rfl, _, rfl⟩

set_option maxHeartbeats 800000 in
/-- Skip of a count that is not below 0. -/
theorem rd_skip_short (w : World) (g : Nat) (v : Value) (b : List Int) (pos : Nat) (n : Int) (h : RdAt w g v b pos) (hn : (b.length : Int) - pos < n) :
    Calls Tryz.prog 209 #[.pointer (some ⟨g, 0, none⟩), .int .i64 n] w fun e w' => e = .returned (.int .i64 1) ∧ ∃ k, w' = w.drewN k := by
  have hp := h.2.2.1
  have h0 : ¬ n < 0 := by omega
  go_enter Tryz.func209, Tryz.ntmps209
  go_wp2_with fail
  refine (rd_left _ g v b pos h).mono ?_
  rintro e w' ⟨rfl, k, rfl⟩
  go_wp2
  go_ret
  exact ⟨rfl, _, rfl⟩
set_option maxHeartbeats 800000 in
theorem rd_skip (w : World) (g : Nat) (v : Value) (b : List Int) (pos n : Nat) (h : RdAt w g v b pos) (hn : n ≤ b.length - pos) :
    Calls Tryz.prog 209 #[.pointer (some ⟨g, 0, none⟩), .int .i64 n] w fun e w' => e = .returned (.int .i64 0) ∧ ∃ k, w' = (w.drewN k).setCell ⟨g, 1, none⟩ (.int .i64 ((pos : Int) + n)) := by
  have hp := h.2.2.1
  have hl := h.2.2.2
  have h0 : ¬ (n : Int) < 0 := by omega
  have h1 : ¬ (n : Int) > (b.length : Int) - pos := by omega
  have c1 := blk_cell h.1 1
  have f1 := fun k => blk_frozen (w := w.drewN k) (g := g) h.1 1
  simp at c1
  go_enter Tryz.func209, Tryz.ntmps209
  go_wp2_with fail
  refine (rd_left _ g v b pos h).mono ?_
  rintro e w' ⟨rfl, k, rfl⟩
  go_wp2
  go_ret
  exact ⟨rfl, _, rfl⟩


set_option maxHeartbeats 1600000 in
set_option maxRecDepth 100000 in
theorem rd_take (w : World) (g : Nat) (v : Value) (b : List Int) (pos n : Nat) (h : RdAt w g v b pos) (hn : n ≤ b.length - pos) :
    Calls Tryz.prog 158 #[.pointer (some ⟨g, 0, none⟩), .int .i64 n] w fun e w' => ∃ v', e = .returned (.tuple #[v', .int .i64 0]) ∧ w'.ownsRow w.heap.size 5 1 v' ((b.drop pos).take n).length (nums .u8 ((b.drop pos).take n)) ∧ RdAt w' g v b (pos + n) ∧ Mod (· = g) w w' := by
  have hp := h.2.2.1
  have hl := h.2.2.2
  obtain ⟨A, c, rfl⟩ := own_slice h.2.1
  have hcl := own_cap h.2.1
  have c1 := blk_cell h.1 1
  simp at c1
  have s0 : (0 : Int) ≤ pos := by omega
  have s1 : (pos : Int) ≤ (pos : Int) + n := by omega
  have s2 : (pos : Int) + n ≤ c := by omega
  go_enter Tryz.func158, Tryz.ntmps158
  go_wp2_with fail
  refine (rd_skip _ g _ b pos n h hn).mono ?_
  rintro e w' ⟨rfl, k, rfl⟩
  have h2 := Lib.hid (h.set (pos' := pos + n) (x := (pos : Int) + n) k (by omega) (by omega))
  generalize hw2 : (w.drewN k).setCell ⟨g, 1, none⟩ (.int .i64 ((pos : Int) + n)) = w2 at *
  have d0 := fun q => blk_cell (w := w2.drewN q) (g := g) h2.out.1 0
  have d1 := fun q => blk_cell (w := w2.drewN q) (g := g) h2.out.1 1
  simp at d0 d1
  clear c1
  have hrd : ReadsInt w2 .u8 (if c = pos then A else A.map (·.add pos)) ((pos + n) - pos) ((b.take (pos + n)).drop pos) :=
    ((own_reads' h2.out.2.1).take_ (pos + n) (by omega)).drop_ pos (by omega) (by omega)
  have hle : (b.take (pos + n)).drop pos = (b.drop pos).take n := by rw [List.drop_take]; congr 1; omega
  rw [hle, Nat.add_sub_cancel_left] at hrd
  clear hle
  go_wp2
  go_still_tail 10, (by kernel_rfl)
  change wpList _ _ _ _ _ w2.drew
  rw [show ((pos : Int) + n).toNat = pos + n from by omega]
  generalize (if c = pos then A else A.map (·.add pos)) = A' at *
  have Hrd := Lib.hid hrd
  clear hrd
  go_wp2_with fail
  refine (clone_any w2.drew _ _ _ _ Hrd.out (by omega)).mono ?_
  rintro e w' ⟨v', rfl, ho, hb⟩
  have HO := Lib.hid ho
  have HB := Lib.hid hb
  clear ho hb
  go_wp2
  go_ret2
  have hm : Mod (· = g) w w2 := by rw [← hw2]; exact Mod.setCell (S := fun x => x = g) (p := ⟨g, 1, none⟩) ((Mod.refl _ _).drewN _) (fun _ => rfl) _
  have hm2 : Mod (· = g) w w' := hm.trans ((Mod.refl _ _).drew.trans (Mod.of_below HB.out))
  exact ⟨_, rfl, own_weaken HO.out (by simpa using hm.size), h2.out.mod (S := fun _ => False) ((Mod.refl _ _).drew.trans (Mod.of_below HB.out)) (by simp) (by simp), hm2⟩

set_option maxRecDepth 100000 in
theorem rd_take_short (w : World) (g : Nat) (v : Value) (b : List Int) (pos : Nat) (n : Int) (h : RdAt w g v b pos) (hn : (b.length : Int) - pos < n) :
    Calls Tryz.prog 158 #[.pointer (some ⟨g, 0, none⟩), .int .i64 n] w fun e w' => e = .returned (.tuple #[.slice none 0 0, .int .i64 1]) ∧ ∃ k, w' = w.drewN k := by
  have c1 := blk_cell h.1 1
  simp at c1
  go_enter Tryz.func158, Tryz.ntmps158
  go_wp2_with fail
  refine (rd_skip_short _ g _ b pos n h hn).mono ?_
  rintro e w' ⟨rfl, k, rfl⟩
  go_wp2
  go_ret2
  exact ⟨rfl, _, rfl⟩

theorem newReader (w : World) (A : Option Addr) (n c : Nat) (xs : List Int) (hr : ReadsInt w .u8 A n xs) (hl : n ≤ 140737488355328) :
    Calls Tryz.prog 67 #[.slice A n c] w fun e w' => ∃ g v, e = .returned (.pointer (some ⟨g, 0, none⟩)) ∧ RdAt w' g v xs 0 ∧ w.heap.size ≤ g ∧ (∀ k, v.ownBlock = some k → w.heap.size ≤ k) ∧ Below w.heap.size w w' := by
  obtain rfl := hr.1
  go_enter Tryz.func67, Tryz.ntmps67
  go_wp2_with fail
  refine (clone_any w A _ c xs hr hl).mono ?_
  rintro e w1 ⟨v, rfl, ho, hb⟩
  obtain ⟨A1, c1, rfl⟩ := own_slice ho
  have HO := Lib.hid ho
  have HB := Lib.hid hb
  clear ho hb
  go_wp2
  go_ret
  exact ⟨w1.heap.size, _, rfl, ⟨by simpa using blk_new w1 _, own_weaken (HO.out.alloc _) (Nat.zero_le _), Nat.zero_le _, by omega⟩, HB.out.size, own_base HO.out, HB.out.alloc HB.out.size _⟩

end Go.Proofs.YteckmgmcfngddaaGreat
end

section
/- The wire's reader of fields: its state, numbers. -/
set_option linter.unusedVariables false
set_option linter.unusedSimpArgs false
namespace Go.Proofs.YteckmgmcfngddaaGreat
open Go.RowKit Go.Proofs.YteckmgmcfngddaaGreatW.PrintWords

/-- A reader of fields: the bytes, the place, the version, the first error. -/
structure DS where
  b : List Int
  pos : Nat
  v : Int
  e : Int

def DecAt (w : World) (p g : Nat) (rv : Value) (d : DS) : Prop :=
  (d.e = 0 → w.heap[p]? = some (.cells #[.pointer (some ⟨g, 0, none⟩), .int .i64 d.v, .int .i64 0] 279 (0, 0)) ∧ RdAt w g rv d.b d.pos) ∧
  (d.e ≠ 0 → ∃ r, w.heap[p]? = some (.cells #[.pointer r, .int .i64 d.v, .int .i64 d.e] 279 (0, 0))) ∧ g < w.heap.size
def DecS (p g : Nat) (k : Nat) : Prop := k = p ∨ k = g

theorem DecAt.blk {w : World} {p g : Nat} {rv : Value} {d : DS} (h : DecAt w p g rv d) : ∃ r, w.heap[p]? = some (.cells #[.pointer r, .int .i64 d.v, .int .i64 d.e] 279 (0, 0)) := by
  by_cases he : d.e = 0
  · exact ⟨_, by rw [he]; exact (h.1 he).1⟩
  · exact h.2.1 he
theorem DecAt.mod {w w1 : World} {p g : Nat} {rv : Value} {d : DS} {S : Nat → Prop} (h : DecAt w p g rv d) (hm : Mod S w w1) (hp : ¬ S p) (hg : ¬ S g) (hv : ∀ k, rv.ownBlock = some k → ¬ S k) : DecAt w1 p g rv d :=
  ⟨fun he => ⟨blk_mod (h.1 he).1 hm hp, (h.1 he).2.mod hm hg hv⟩, fun he => by obtain ⟨r, hr⟩ := h.2.1 he; exact ⟨r, blk_mod hr hm hp⟩, Nat.lt_of_lt_of_le h.2.2 hm.size⟩
theorem DecAt.ne {w : World} {p g : Nat} {rv : Value} {d : DS} (h : DecAt w p g rv d) (he : d.e = 0) : p ≠ g := blk_ne (h.1 he).1 (h.1 he).2.1 (by decide)
theorem DecAt.after {w : World} {p g : Nat} {rv : Value} {d : DS} {pos' : Nat} {x : Int} (h : DecAt w p g rv d) (he : d.e = 0) (k : Nat) (hx : x = pos') (hp : pos' ≤ d.b.length) :
    DecAt (((w.drewN k).setCell ⟨g, 1, none⟩ (.int .i64 x)).setCell ⟨p, 2, none⟩ (.int .i64 0)) p g rv { d with pos := pos' } := by
  refine ⟨fun _ => ?_, fun hn => absurd he hn, by simpa using h.2.2⟩
  have hb : (w.drewN k).heap[p]? = some (.cells #[.pointer (some ⟨g, 0, none⟩), .int .i64 d.v, .int .i64 0] 279 (0, 0)) := (h.1 he).1
  have hb1 := blk_far hb (p := ⟨g, 1, none⟩) (h.ne he) (.int .i64 x)
  have hr := (h.1 he).2.set k hx hp
  refine ⟨by simpa using blk_set hb1 2 (.int .i64 0), hr.mod (S := fun k => k = p) (Mod.setCell (S := fun k => k = p) (p := ⟨p, 2, none⟩) (Mod.refl _ _) (fun _ => rfl) _) (fun e => h.ne he e.symm) (fun q hq e => ?_)⟩
  subst e
  exact (own_ne hr.2.1 hb1 (by decide)) hq.symm
theorem DecAt.failed {w : World} {p g : Nat} {rv : Value} {d : DS} (h : DecAt w p g rv d) (c : Int) (hc : c ≠ 0) : DecAt (w.setCell ⟨p, 2, none⟩ (.int .i64 c)) p g rv { d with e := c } := by
  obtain ⟨r, hb⟩ := h.blk
  exact ⟨fun he => absurd he hc, fun _ => ⟨r, by simpa using blk_set hb 2 (.int .i64 c)⟩, by simpa using h.2.2⟩
theorem DecAt.drewN {w : World} {p g : Nat} {rv : Value} {d : DS} (h : DecAt w p g rv d) (k : Nat) : DecAt (w.drewN k) p g rv d := h
theorem mod_dec {w : World} (p g : Nat) (k : Nat) (u u' : Value) : Mod (DecS p g) w (((w.drewN k).setCell ⟨g, 1, none⟩ u).setCell ⟨p, 2, none⟩ u') :=
  Mod.setCell (p := ⟨p, 2, none⟩) (Mod.setCell (p := ⟨g, 1, none⟩) ((Mod.refl _ _).drewN k) (fun _ => .inr rfl) u) (fun _ => .inl rfl) u'
theorem mod_dec' {w : World} (p g : Nat) (k : Nat) (u' : Value) : Mod (DecS p g) w ((w.drewN k).setCell ⟨p, 2, none⟩ u') :=
  Mod.setCell (p := ⟨p, 2, none⟩) ((Mod.refl _ _).drewN k) (fun _ => .inl rfl) u'

theorem DecAt.new {w : World} {p g : Nat} {rv : Value} {d : DS} (h : DecAt w p g rv d) {k : Nat} (hk : w.heap.size ≤ k) : ¬ DecS p g k := by
  obtain ⟨r, hb⟩ := h.blk
  have h1 := blk_lt hb
  have h2 := h.2.2
  rintro (rfl | rfl) <;> omega
/-- A store into a block of another type. -/
theorem DecAt.far {w : World} {p g : Nat} {rv : Value} {d : DS} (h : DecAt w p g rv d) {k : Nat} {cs : Array Value} {t : TypeId} (hk : w.heap[k]? = some (.cells cs t (0, 0))) (h1 : t ≠ 279) (h2 : t ≠ 288) (h3 : t ≠ 5) (i : Nat) (u : Value) :
    DecAt (w.setCell ⟨k, i, none⟩ u) p g rv d := by
  obtain ⟨r, hb⟩ := h.blk
  have hp : p ≠ k := blk_ne hb hk h1.symm
  refine ⟨fun he => ⟨blk_far (h.1 he).1 hp u, ?_⟩, fun he => by obtain ⟨r, hr⟩ := h.2.1 he; exact ⟨r, blk_far hr hp u⟩, by simpa using h.2.2⟩
  have hr := (h.1 he).2
  exact ⟨blk_far hr.1 (blk_ne hr.1 hk h2.symm) u, own_setCell hr.2.1 (own_ne hr.2.1 hk h3.symm) u, hr.2.2⟩
/-- A number of n bytes: the value (behind an error 0), the state. -/
def DS.num (n : Nat) (f : Int → Int) (d : DS) : Int × DS :=
  if d.e ≠ 0 then (0, d) else if d.b.length - d.pos < n then (0, { d with e := 1 }) else (f (beU ((d.b.drop d.pos).take n)), { d with pos := d.pos + n })
def DS.i8 (d : DS) : Int × DS := d.num 1 IntKind.i8.wrap
def DS.i16 (d : DS) : Int × DS := d.num 2 IntKind.i16.wrap
def DS.i32 (d : DS) : Int × DS := d.num 4 wrap32
def DS.i64 (d : DS) : Int × DS := d.num 8 wrap64

theorem dec_ne0 {e : Int} (h : ¬ e = 0) : (e != 0) = true := by simpa using h


set_option maxHeartbeats 800000 in
theorem num_i16 (w : World) (p g : Nat) (rv : Value) (d : DS) (h : DecAt w p g rv d) (he : d.e = 0) :
    Calls Tryz.prog 177 #[.pointer (some ⟨p, 0, none⟩), .func (.func 178) #[.pointer (some ⟨g, 0, none⟩)] #[]] w fun e w' => e = .returned (.int .i16 d.i16.1) ∧ DecAt w' p g rv d.i16.2 ∧ Mod (DecS p g) w w' := by
  have hb := (h.1 he).1
  have hr := (h.1 he).2
  have hne := h.ne he
  by_cases hn : d.b.length - d.pos < 2
  · have e1 : d.i16 = (0, { d with e := 1 }) := by unfold DS.i16 DS.num; rw [if_neg (by simpa using he), if_pos hn]
    rw [e1]
    have f2 := fun k => blk_frozen (w := w.drewN k) (g := p) hb 2
    have c2 := fun k => blk_cell (w := w.drewN k) (g := p) hb 2
    simp at c2
    have H := Lib.hid h
    clear h e1 hb
    go_enter Tryz.func177, Tryz.ntmps177
    go_wp2_with fail
    refine (rd_i16_short w g rv _ _ hr hn).mono ?_
    rintro e w' ⟨rfl, k, rfl⟩
    go_wp2
    go_ret
    exact ⟨rfl, (H.out.drewN k).failed 1 (by decide), mod_dec' p g k _⟩
  · have e1 : d.i16 = (IntKind.i16.wrap (beU ((d.b.drop d.pos).take 2)), { d with pos := d.pos + 2 }) := by unfold DS.i16 DS.num; rw [if_neg (by simpa using he), if_neg hn]
    rw [e1]
    have hp := hr.2.2.1
    have f2 := fun k x => blk_frozen (blk_far (w := w.drewN k) (g := p) hb (p := ⟨g, 1, none⟩) hne (.int .i64 x)) 2
    have c2 := fun k x => blk_cell (blk_far (w := w.drewN k) (g := p) hb (p := ⟨g, 1, none⟩) hne (.int .i64 x)) 2
    simp at c2
    have H := Lib.hid h
    clear h e1 hb
    go_enter Tryz.func177, Tryz.ntmps177
    go_wp2_with fail
    refine (rd_i16 w g rv _ _ hr (by omega)).mono ?_
    rintro e w' ⟨rfl, k, rfl⟩
    go_wp2
    go_ret
    exact ⟨rfl, H.out.after he k (by omega) (by omega), mod_dec p g k _ _⟩
set_option maxHeartbeats 800000 in
theorem dec_i16 (w : World) (p g : Nat) (rv : Value) (d : DS) (h : DecAt w p g rv d) :
    Calls Tryz.prog 57 #[.pointer (some ⟨p, 0, none⟩)] w fun e w' => e = .returned (.int .i16 d.i16.1) ∧ DecAt w' p g rv d.i16.2 ∧ Mod (DecS p g) w w' := by
  by_cases he : d.e = 0
  · have hb := (h.1 he).1
    have c0 := blk_cell hb 0
    have c2 := blk_cell hb 2
    simp at c0 c2
    have H := Lib.hid h
    have HE := Lib.hid he
    clear h hb he
    go_enter Tryz.func57, Tryz.ntmps57
    go_wp2_with fail
    refine (num_i16 w p g rv d H.out HE.out).mono ?_
    rintro e w' ⟨rfl, hd, hm⟩
    have HD := Lib.hid hd
    have HM := Lib.hid hm
    clear hd hm
    go_wp2
    go_ret
    exact ⟨rfl, HD.out, HM.out⟩
  · obtain ⟨r, hb⟩ := h.2.1 he
    have c2 := blk_cell hb 2
    simp at c2
    have hne := dec_ne0 he
    have e1 : d.i16 = (0, d) := by unfold DS.i16 DS.num; rw [if_pos he]
    rw [e1]
    have H := Lib.hid h
    clear h hb e1 he
    go_enter Tryz.func57, Tryz.ntmps57
    go_wp2
    go_ret
    exact ⟨rfl, H.out, Mod.refl _ _⟩

set_option maxHeartbeats 800000 in
theorem num_i32 (w : World) (p g : Nat) (rv : Value) (d : DS) (h : DecAt w p g rv d) (he : d.e = 0) :
    Calls Tryz.prog 179 #[.pointer (some ⟨p, 0, none⟩), .func (.func 166) #[.pointer (some ⟨g, 0, none⟩)] #[]] w fun e w' => e = .returned (.int .i32 d.i32.1) ∧ DecAt w' p g rv d.i32.2 ∧ Mod (DecS p g) w w' := by
  have hb := (h.1 he).1
  have hr := (h.1 he).2
  have hne := h.ne he
  by_cases hn : d.b.length - d.pos < 4
  · have e1 : d.i32 = (0, { d with e := 1 }) := by unfold DS.i32 DS.num; rw [if_neg (by simpa using he), if_pos hn]
    rw [e1]
    have f2 := fun k => blk_frozen (w := w.drewN k) (g := p) hb 2
    have c2 := fun k => blk_cell (w := w.drewN k) (g := p) hb 2
    simp at c2
    have H := Lib.hid h
    clear h e1 hb
    go_enter Tryz.func179, Tryz.ntmps179
    go_wp2_with fail
    refine (rd_i32_short w g rv _ _ hr hn).mono ?_
    rintro e w' ⟨rfl, k, rfl⟩
    go_wp2
    go_ret
    exact ⟨rfl, (H.out.drewN k).failed 1 (by decide), mod_dec' p g k _⟩
  · have e1 : d.i32 = (wrap32 (beU ((d.b.drop d.pos).take 4)), { d with pos := d.pos + 4 }) := by unfold DS.i32 DS.num; rw [if_neg (by simpa using he), if_neg hn]
    rw [e1]
    have hp := hr.2.2.1
    have f2 := fun k x => blk_frozen (blk_far (w := w.drewN k) (g := p) hb (p := ⟨g, 1, none⟩) hne (.int .i64 x)) 2
    have c2 := fun k x => blk_cell (blk_far (w := w.drewN k) (g := p) hb (p := ⟨g, 1, none⟩) hne (.int .i64 x)) 2
    simp at c2
    have H := Lib.hid h
    clear h e1 hb
    go_enter Tryz.func179, Tryz.ntmps179
    go_wp2_with fail
    refine (rd_i32 w g rv _ _ hr (by omega)).mono ?_
    rintro e w' ⟨rfl, k, rfl⟩
    go_wp2
    go_ret
    exact ⟨rfl, H.out.after he k (by omega) (by omega), mod_dec p g k _ _⟩
set_option maxHeartbeats 800000 in
theorem dec_i32 (w : World) (p g : Nat) (rv : Value) (d : DS) (h : DecAt w p g rv d) :
    Calls Tryz.prog 58 #[.pointer (some ⟨p, 0, none⟩)] w fun e w' => e = .returned (.int .i32 d.i32.1) ∧ DecAt w' p g rv d.i32.2 ∧ Mod (DecS p g) w w' := by
  by_cases he : d.e = 0
  · have hb := (h.1 he).1
    have c0 := blk_cell hb 0
    have c2 := blk_cell hb 2
    simp at c0 c2
    have H := Lib.hid h
    have HE := Lib.hid he
    clear h hb he
    go_enter Tryz.func58, Tryz.ntmps58
    go_wp2_with fail
    refine (num_i32 w p g rv d H.out HE.out).mono ?_
    rintro e w' ⟨rfl, hd, hm⟩
    have HD := Lib.hid hd
    have HM := Lib.hid hm
    clear hd hm
    go_wp2
    go_ret
    exact ⟨rfl, HD.out, HM.out⟩
  · obtain ⟨r, hb⟩ := h.2.1 he
    have c2 := blk_cell hb 2
    simp at c2
    have hne := dec_ne0 he
    have e1 : d.i32 = (0, d) := by unfold DS.i32 DS.num; rw [if_pos he]
    rw [e1]
    have H := Lib.hid h
    clear h hb e1 he
    go_enter Tryz.func58, Tryz.ntmps58
    go_wp2
    go_ret
    exact ⟨rfl, H.out, Mod.refl _ _⟩

set_option maxHeartbeats 800000 in
theorem num_i64 (w : World) (p g : Nat) (rv : Value) (d : DS) (h : DecAt w p g rv d) (he : d.e = 0) :
    Calls Tryz.prog 188 #[.pointer (some ⟨p, 0, none⟩), .func (.func 189) #[.pointer (some ⟨g, 0, none⟩)] #[]] w fun e w' => e = .returned (.int .i64 d.i64.1) ∧ DecAt w' p g rv d.i64.2 ∧ Mod (DecS p g) w w' := by
  have hb := (h.1 he).1
  have hr := (h.1 he).2
  have hne := h.ne he
  by_cases hn : d.b.length - d.pos < 8
  · have e1 : d.i64 = (0, { d with e := 1 }) := by unfold DS.i64 DS.num; rw [if_neg (by simpa using he), if_pos hn]
    rw [e1]
    have f2 := fun k => blk_frozen (w := w.drewN k) (g := p) hb 2
    have c2 := fun k => blk_cell (w := w.drewN k) (g := p) hb 2
    simp at c2
    have H := Lib.hid h
    clear h e1 hb
    go_enter Tryz.func188, Tryz.ntmps188
    go_wp2_with fail
    refine (rd_i64_short w g rv _ _ hr hn).mono ?_
    rintro e w' ⟨rfl, k, rfl⟩
    go_wp2
    go_ret
    exact ⟨rfl, (H.out.drewN k).failed 1 (by decide), mod_dec' p g k _⟩
  · have e1 : d.i64 = (wrap64 (beU ((d.b.drop d.pos).take 8)), { d with pos := d.pos + 8 }) := by unfold DS.i64 DS.num; rw [if_neg (by simpa using he), if_neg hn]
    rw [e1]
    have hp := hr.2.2.1
    have f2 := fun k x => blk_frozen (blk_far (w := w.drewN k) (g := p) hb (p := ⟨g, 1, none⟩) hne (.int .i64 x)) 2
    have c2 := fun k x => blk_cell (blk_far (w := w.drewN k) (g := p) hb (p := ⟨g, 1, none⟩) hne (.int .i64 x)) 2
    simp at c2
    have H := Lib.hid h
    clear h e1 hb
    go_enter Tryz.func188, Tryz.ntmps188
    go_wp2_with fail
    refine (rd_i64 w g rv _ _ hr (by omega)).mono ?_
    rintro e w' ⟨rfl, k, rfl⟩
    go_wp2
    go_ret
    exact ⟨rfl, H.out.after he k (by omega) (by omega), mod_dec p g k _ _⟩
set_option maxHeartbeats 800000 in
theorem dec_i64 (w : World) (p g : Nat) (rv : Value) (d : DS) (h : DecAt w p g rv d) :
    Calls Tryz.prog 91 #[.pointer (some ⟨p, 0, none⟩)] w fun e w' => e = .returned (.int .i64 d.i64.1) ∧ DecAt w' p g rv d.i64.2 ∧ Mod (DecS p g) w w' := by
  by_cases he : d.e = 0
  · have hb := (h.1 he).1
    have c0 := blk_cell hb 0
    have c2 := blk_cell hb 2
    simp at c0 c2
    have H := Lib.hid h
    have HE := Lib.hid he
    clear h hb he
    go_enter Tryz.func91, Tryz.ntmps91
    go_wp2_with fail
    refine (num_i64 w p g rv d H.out HE.out).mono ?_
    rintro e w' ⟨rfl, hd, hm⟩
    have HD := Lib.hid hd
    have HM := Lib.hid hm
    clear hd hm
    go_wp2
    go_ret
    exact ⟨rfl, HD.out, HM.out⟩
  · obtain ⟨r, hb⟩ := h.2.1 he
    have c2 := blk_cell hb 2
    simp at c2
    have hne := dec_ne0 he
    have e1 : d.i64 = (0, d) := by unfold DS.i64 DS.num; rw [if_pos he]
    rw [e1]
    have H := Lib.hid h
    clear h hb e1 he
    go_enter Tryz.func91, Tryz.ntmps91
    go_wp2
    go_ret
    exact ⟨rfl, H.out, Mod.refl _ _⟩

set_option maxHeartbeats 800000 in
theorem num_i8 (w : World) (p g : Nat) (rv : Value) (d : DS) (h : DecAt w p g rv d) (he : d.e = 0) :
    Calls Tryz.prog 191 #[.pointer (some ⟨p, 0, none⟩), .func (.func 192) #[.pointer (some ⟨g, 0, none⟩)] #[]] w fun e w' => e = .returned (.int .i8 d.i8.1) ∧ DecAt w' p g rv d.i8.2 ∧ Mod (DecS p g) w w' := by
  have hb := (h.1 he).1
  have hr := (h.1 he).2
  have hne := h.ne he
  by_cases hn : d.b.length - d.pos < 1
  · have e1 : d.i8 = (0, { d with e := 1 }) := by unfold DS.i8 DS.num; rw [if_neg (by simpa using he), if_pos hn]
    rw [e1]
    have f2 := fun k => blk_frozen (w := w.drewN k) (g := p) hb 2
    have c2 := fun k => blk_cell (w := w.drewN k) (g := p) hb 2
    simp at c2
    have H := Lib.hid h
    clear h e1 hb
    go_enter Tryz.func191, Tryz.ntmps191
    go_wp2_with fail
    refine (rd_i8_short w g rv _ _ hr hn).mono ?_
    rintro e w' ⟨rfl, k, rfl⟩
    go_wp2
    go_ret
    exact ⟨rfl, (H.out.drewN k).failed 1 (by decide), mod_dec' p g k _⟩
  · have e1 : d.i8 = (IntKind.i8.wrap (beU ((d.b.drop d.pos).take 1)), { d with pos := d.pos + 1 }) := by unfold DS.i8 DS.num; rw [if_neg (by simpa using he), if_neg hn]
    rw [e1]
    have hp := hr.2.2.1
    have f2 := fun k x => blk_frozen (blk_far (w := w.drewN k) (g := p) hb (p := ⟨g, 1, none⟩) hne (.int .i64 x)) 2
    have c2 := fun k x => blk_cell (blk_far (w := w.drewN k) (g := p) hb (p := ⟨g, 1, none⟩) hne (.int .i64 x)) 2
    simp at c2
    have H := Lib.hid h
    clear h e1 hb
    go_enter Tryz.func191, Tryz.ntmps191
    go_wp2_with fail
    refine (rd_i8 w g rv _ _ hr (by omega)).mono ?_
    rintro e w' ⟨rfl, k, rfl⟩
    go_wp2
    go_ret
    exact ⟨rfl, H.out.after he k (by omega) (by omega), mod_dec p g k _ _⟩
set_option maxHeartbeats 800000 in
theorem dec_i8 (w : World) (p g : Nat) (rv : Value) (d : DS) (h : DecAt w p g rv d) :
    Calls Tryz.prog 97 #[.pointer (some ⟨p, 0, none⟩)] w fun e w' => e = .returned (.int .i8 d.i8.1) ∧ DecAt w' p g rv d.i8.2 ∧ Mod (DecS p g) w w' := by
  by_cases he : d.e = 0
  · have hb := (h.1 he).1
    have c0 := blk_cell hb 0
    have c2 := blk_cell hb 2
    simp at c0 c2
    have H := Lib.hid h
    have HE := Lib.hid he
    clear h hb he
    go_enter Tryz.func97, Tryz.ntmps97
    go_wp2_with fail
    refine (num_i8 w p g rv d H.out HE.out).mono ?_
    rintro e w' ⟨rfl, hd, hm⟩
    have HD := Lib.hid hd
    have HM := Lib.hid hm
    clear hd hm
    go_wp2
    go_ret
    exact ⟨rfl, HD.out, HM.out⟩
  · obtain ⟨r, hb⟩ := h.2.1 he
    have c2 := blk_cell hb 2
    simp at c2
    have hne := dec_ne0 he
    have e1 : d.i8 = (0, d) := by unfold DS.i8 DS.num; rw [if_pos he]
    rw [e1]
    have H := Lib.hid h
    clear h hb e1 he
    go_enter Tryz.func97, Tryz.ntmps97
    go_wp2
    go_ret
    exact ⟨rfl, H.out, Mod.refl _ _⟩

end Go.Proofs.YteckmgmcfngddaaGreat
end

section
/- label.Utf: a walk along a text, rune by rune. -/
set_option linter.unusedVariables false
set_option linter.unusedSimpArgs false
namespace Go.Proofs.YteckmgmcfngddaaGreat
open Go.RowKit Go.Proofs.YteckmgmcfngddaaGreatW.PrintWords

/-- Does the text begin with the bytes of the mark for what is no character? -/
def preMark (s : ByteArray) : Bool := decide (3 ≤ s.size) && ((s.extract 0 3).toList == [239, 191, 189])
theorem has_prefix_lite (s : ByteArray) (w : World) : Calls Tryz.prog 239 #[.string s, .string ⟨#[239, 191, 189]⟩] w fun e w' => e = .returned (.bool (preMark s)) ∧ w = w' := by
  by_cases h : 3 ≤ s.size
  · have h1 : decide (3 ≤ s.size) = true := by simpa using h
    go_enter Tryz.func239, Tryz.ntmps239
    go_wp2
    go_ret
    exact ⟨by simp [preMark, h], rfl⟩
  · have h1 : decide (3 ≤ s.size) = false := by simpa using h
    go_enter Tryz.func239, Tryz.ntmps239
    go_wp2
    go_ret
    exact ⟨by simp [preMark, h], rfl⟩
theorem has_prefix (s : ByteArray) (w : World) : Calls Tryz.prog 221 #[.string s, .string ⟨#[239, 191, 189]⟩] w fun e w' => e = .returned (.bool (preMark s)) ∧ w = w' := by
  go_enter Tryz.func221, Tryz.ntmps221
  go_wp2_with (go_at_call 239; refine (has_prefix_lite _ _).mono ?_; rintro e w' ⟨rfl, rfl⟩)
  go_ret
  exact ⟨rfl, rfl⟩

/-- Is what stands at pos no character, and no mark either? -/
def badAt (s : ByteArray) (pos : Nat) : Bool := ((Utf8.decode s pos).1 == 65533) && !preMark (s.extract pos s.size)
def utfN (s : ByteArray) : Nat → Nat → Bool
  | 0, _ => true
  | n + 1, pos => if pos < s.size then (if badAt s pos then false else utfN s n (pos + (Utf8.decode s pos).2)) else true
def utfS (s : ByteArray) : Bool := utfN s s.size 0
/-- Are the bytes a text? -/
def utfB (xs : List Int) : Bool := utfS (strOfNums xs)
def UtfPost (b : Bool) (w : World) (e : Ending) (w' : World) : Prop := (∃ i : Int, e = .returned (.tuple #[.int .i64 i, .bool b])) ∧ Below w.heap.size w w'

theorem width_pos (s : ByteArray) (pos : Nat) (h : pos < s.size) : 1 ≤ (Utf8.decode s pos).2 := by
  by_cases ha : (s[pos]'h).toNat < 128
  · rw [decode_ascii s pos h ha]
    exact Nat.le_refl _
  · exact (decode_high s pos h (by omega)).2
theorem utfN_end (s : ByteArray) (n pos : Nat) (h : ¬ pos < s.size) : utfN s n pos = true := by
  cases n with
  | zero => rfl
  | succ n => simp [utfN, h]
theorem below_iter (w : World) (s : ByteArray) (pos : Nat) : Below w.heap.size w (w.iter s pos) := ((Below.refl _ _).alloc (Nat.le_refl _) _)

set_option maxRecDepth 100000 in
set_option maxHeartbeats 1600000 in
theorem utf_any (w : World) (A : Option Addr) (c : Nat) (xs : List Int) (hr : ReadsInt w .u8 A xs.length xs) (hl : xs.length ≤ 140737488355328) :
    Calls Tryz.prog 186 #[.slice A xs.length c] w (UtfPost (utfB xs) w) := by
  have hcv : (convert 22 9 (.slice A xs.length c)).run Tryz.prog w = .ok (.string (strOfNums xs)) w := string_of_reads Tryz.underlying22 Tryz.underlying5 Tryz.underlying9 hr
  have hz := strOfNums_size xs
  unfold utfB
  generalize strOfNums xs = s at *
  have hs : s.size ≤ 140737488355328 := by omega
  clear hz hr hl
  go_enter Tryz.func186, Tryz.ntmps186
  go_wp2
  go_loopw [5] (fun v w' => ∃ (pos b : Nat), w' = w.iter s pos ∧ Hid (utfN s b pos = utfS s) ∧ s.size ≤ pos + b) (fun _ w' => s.size - w'.iterPos w.heap.size)
  case atStart => exact ⟨0, s.size, rfl, rfl, by omega⟩
  case round =>
    obtain ⟨pos, b, rfl, hc, hb⟩ := hrel
    by_cases hp : pos < s.size
    · have hnx : ∀ ty, (Instr.next (.pointer (some ⟨w.heap.size, 0, none⟩)) true ty).run Tryz.prog (w.iter s pos) = _ := fun ty => run_next_any w s pos ty hp
      have hwd := width_pos s pos hp
      have i0 : (0 : Int) ≤ pos := by omega
      have i1 : (pos : Int) ≤ s.size := by omega
      obtain ⟨b, rfl⟩ : ∃ q, b = q + 1 := ⟨b - 1, by omega⟩
      by_cases h1 : (Utf8.decode s pos).1 = 65533
      · have h1a : (((Utf8.decode s pos).1 : Int) == 65533) = true := by simp [h1]
        have h1b : ((Utf8.decode s pos).1 == 65533) = true := by simp [h1]
        by_cases h2 : preMark (s.extract pos s.size) = true
        · have hcont : Hid (utfN s b (pos + (Utf8.decode s pos).2) = utfS s) := by
            refine Lib.hid ?_; rw [← hc.out]; simp [utfN, hp, badAt, h2]
          clear h1 hc
          go_wp2_with (go_at_call 221; refine (has_prefix _ _).mono ?_; rintro e w' ⟨rfl, rfl⟩)
          go_roundw
          case rel => exact ⟨_, b, rfl, hcont, by omega⟩
          case measure => simp; omega
        · have h2' : preMark (s.extract pos s.size) = false := by simpa using h2
          have hstop : Hid (utfS s = false) := by
            refine Lib.hid ?_; rw [← hc.out]; simp [utfN, hp, badAt, h1b, h2']
          clear h1 h2 hc
          go_wp2_with (go_at_call 221; refine (has_prefix _ _).mono ?_; rintro e w' ⟨rfl, rfl⟩)
          go_ret2
          rw [hstop.out]
          exact ⟨⟨_, rfl⟩, below_iter _ _ _⟩
      · have h1a : (((Utf8.decode s pos).1 : Int) == 65533) = false := by simp; omega
        have h1b : ((Utf8.decode s pos).1 == 65533) = false := by simp [h1]
        have hcont : Hid (utfN s b (pos + (Utf8.decode s pos).2) = utfS s) := by
          refine Lib.hid ?_; rw [← hc.out]; simp [utfN, hp, badAt, h1b]
        clear h1 hc
        go_wp2
        go_roundw
        case rel => exact ⟨_, b, rfl, hcont, by omega⟩
        case measure => simp; omega
    · have hnx : ∀ ty, (Instr.next (.pointer (some ⟨w.heap.size, 0, none⟩)) true ty).run Tryz.prog (w.iter s pos) = _ := fun ty => run_next_end w s pos ty hp
      have hstop : Hid (utfS s = true) := by refine Lib.hid ?_; rw [← hc.out]; exact utfN_end _ _ _ hp
      clear hc
      go_wp2
      go_ret2
      rw [hstop.out]
      exact ⟨⟨_, rfl⟩, below_iter _ _ _⟩

end Go.Proofs.YteckmgmcfngddaaGreat
end

section
/- The wire's reader of fields: bytes, texts, names, blobs; its beginning and end. -/
set_option linter.unusedVariables false
set_option linter.unusedSimpArgs false
namespace Go.Proofs.YteckmgmcfngddaaGreat
open Go.RowKit Go.Proofs.YteckmgmcfngddaaGreatW.PrintWords

def DS.take (n : Int) (d : DS) : List Int × DS :=
  if d.e ≠ 0 then ([], d) else if n < 0 then ([], { d with e := 5 }) else if (d.b.length : Int) - d.pos < n then ([], { d with e := 1 }) else ((d.b.drop d.pos).take n.toNat, { d with pos := d.pos + n.toNat })
def textFin (r : List Int × DS) : ByteArray × DS := if utfB r.1 = true then (strOfNums r.1, r.2) else (⟨#[]⟩, { r.2 with e := 6 })
theorem textFin_ok {r : List Int × DS} (h : utfB r.1 = true) : textFin r = (strOfNums r.1, r.2) := if_pos h
theorem textFin_bad {r : List Int × DS} (h : utfB r.1 = false) : textFin r = (⟨#[]⟩, { r.2 with e := 6 }) := if_neg (by simp [h])
def DS.text (n : Int) (d : DS) : ByteArray × DS := textFin ((if n > 255 then { d with e := 4 } else d).take n)
def DS.str (d : DS) : ByteArray × DS := d.i16.2.text d.i16.1
def DS.name (d : DS) : (Bool × ByteArray) × DS := if d.i16.1 = -1 then ((true, ⟨#[]⟩), d.i16.2) else ((false, (d.i16.2.text d.i16.1).1), (d.i16.2.text d.i16.1).2)
def DS.blob (d : DS) : (Bool × List Int) × DS := if d.i32.1 = -1 then ((true, []), d.i32.2) else ((false, (d.i32.2.take d.i32.1).1), (d.i32.2.take d.i32.1).2)
def DS.has (d : DS) (lo hi : Int) : Bool := decide (d.e = 0) && (decide (lo ≤ d.v) && decide (d.v ≤ hi))
def DS.fin (d : DS) : Int := if d.e = 0 then (if d.pos < d.b.length then 2 else 0) else d.e

theorem dec_mod_alloc {w : World} {p g : Nat} {rv : Value} {d : DS} (h : DecAt w p g rv d) (o : Obj) : DecAt (w.alloc o) p g rv d :=
  h.mod (S := fun _ => False) ((Mod.refl _ _).alloc o) id id (fun _ _ => id)

set_option maxHeartbeats 800000 in
theorem dec_has (w : World) (p g : Nat) (rv : Value) (d : DS) (lo hi : Int) (h : DecAt w p g rv d) :
    Calls Tryz.prog 55 #[.pointer (some ⟨p, 0, none⟩), .int .i64 lo, .int .i64 hi] w fun e w' => e = .returned (.bool (d.has lo hi)) ∧ ∃ k, w' = w.drewN k := by
  obtain ⟨r, hb⟩ := h.blk
  have c1 := blk_cell hb 1
  have c2 := blk_cell hb 2
  simp at c1 c2
  clear hb h
  by_cases he : d.e = 0
  · have he' : (d.e == 0) = true := by simp [he]
    by_cases h1 : lo ≤ d.v
    · have h1' : decide (lo ≤ d.v) = true := by simp [h1]
      by_cases h2 : d.v ≤ hi
      · have h2' : decide (d.v ≤ hi) = true := by simp [h2]
        have e1 : d.has lo hi = true := by simp [DS.has, he, h1, h2]
        rw [e1]
        clear e1 he h1 h2
        go_enter Tryz.func55, Tryz.ntmps55
        go_wp2
        go_ret
        exact ⟨rfl, 0, rfl⟩
      · have h2' : decide (d.v ≤ hi) = false := by simp [h2]
        have e1 : d.has lo hi = false := by simp [DS.has, he, h1, h2]
        rw [e1]
        clear e1 he h1 h2
        go_enter Tryz.func55, Tryz.ntmps55
        go_wp2
        go_ret
        exact ⟨rfl, 0, rfl⟩
    · have h1' : decide (lo ≤ d.v) = false := by simp [h1]
      have e1 : d.has lo hi = false := by simp [DS.has, he, h1]
      rw [e1]
      clear e1 he h1
      go_enter Tryz.func55, Tryz.ntmps55
      go_wp2
      go_ret
      exact ⟨rfl, 0, rfl⟩
  · have he' : (d.e == 0) = false := by simp [he]
    have e1 : d.has lo hi = false := by simp [DS.has, he]
    rw [e1]
    clear e1 he
    go_enter Tryz.func55, Tryz.ntmps55
    go_wp2
    go_ret
    exact ⟨rfl, 0, rfl⟩

theorem DS.take_short {d : DS} {n : Int} (he : d.e = 0) (h0 : 0 ≤ n) (hn : (d.b.length : Int) - d.pos < n) : d.take n = ([], { d with e := 1 }) := by unfold DS.take; rw [if_neg (by simpa using he), if_neg (by omega), if_pos hn]
theorem DS.take_ok {d : DS} {n : Int} (he : d.e = 0) (h0 : 0 ≤ n) (hn : ¬ (d.b.length : Int) - d.pos < n) : d.take n = ((d.b.drop d.pos).take n.toNat, { d with pos := d.pos + n.toNat }) := by unfold DS.take; rw [if_neg (by simpa using he), if_neg (by omega), if_neg hn]
theorem DS.take_neg {d : DS} {n : Int} (he : d.e = 0) (h0 : n < 0) : d.take n = ([], { d with e := 5 }) := by unfold DS.take; rw [if_neg (by simpa using he), if_pos h0]
theorem DS.take_err {d : DS} {n : Int} (he : d.e ≠ 0) : d.take n = ([], d) := by unfold DS.take; rw [if_pos he]

set_option maxRecDepth 100000 in
set_option maxHeartbeats 1600000 in
theorem take_lit_short (w : World) (p g bx bn : Nat) (rv : Value) (d : DS) (n : Int) (h : DecAt w p g rv d) (he : d.e = 0) (hn : (d.b.length : Int) - d.pos < n)
    (hx : w.cell? ⟨bx, 0, none⟩ = some (.pointer (some ⟨p, 0, none⟩))) (hb : w.cell? ⟨bn, 0, none⟩ = some (.int .i64 n)) :
    Calls Tryz.prog 217 #[.pointer (some ⟨bx, 0, none⟩), .pointer (some ⟨bn, 0, none⟩)] w fun e w' => e = .returned (.tuple #[.slice none 0 0, .int .i64 1]) ∧ ∃ k, w' = w.drewN k := by
  have hr := Lib.hid (h.1 he).2
  have c0 := blk_cell (h.1 he).1 0
  simp at c0
  clear h
  go_enter Tryz.func217, Tryz.ntmps217
  go_wp2
  go_region_with (go_at_call 158; refine (rd_take_short _ g rv d.b d.pos n (by exact hr.out) hn).mono ?_; rintro e w' ⟨rfl, k, rfl⟩)
  all_goals (go_wp2; go_ret2; exact ⟨rfl, _, rfl⟩)

set_option maxRecDepth 100000 in
set_option maxHeartbeats 1600000 in
theorem take_lit_ok (w : World) (p g bx bn n : Nat) (rv : Value) (d : DS) (h : DecAt w p g rv d) (he : d.e = 0) (hn : n ≤ d.b.length - d.pos)
    (hx : w.cell? ⟨bx, 0, none⟩ = some (.pointer (some ⟨p, 0, none⟩))) (hb : w.cell? ⟨bn, 0, none⟩ = some (.int .i64 n)) :
    Calls Tryz.prog 217 #[.pointer (some ⟨bx, 0, none⟩), .pointer (some ⟨bn, 0, none⟩)] w fun e w' => ∃ v, e = .returned (.tuple #[v, .int .i64 0]) ∧ w'.ownsRow w.heap.size 5 1 v ((d.b.drop d.pos).take n).length (nums .u8 ((d.b.drop d.pos).take n)) ∧ RdAt w' g rv d.b (d.pos + n) ∧ Mod (· = g) w w' := by
  have hr := Lib.hid (h.1 he).2
  have c0 := blk_cell (h.1 he).1 0
  simp at c0
  clear h
  go_enter Tryz.func217, Tryz.ntmps217
  go_wp2
  go_region_with (go_at_call 158; refine (rd_take _ g rv d.b d.pos n (by exact hr.out) hn).mono ?_; rintro e w' ⟨v, rfl, ho, hr1, hm⟩; have HO := Lib.hid ho; have HR := Lib.hid hr1; have HM := Lib.hid hm; clear ho hr1 hm)
  all_goals (go_wp2; go_ret2; exact ⟨_, rfl, HO.out, HR.out, (Mod.refl _ _).drew.trans HM.out⟩)

/-- What reading bytes leaves. -/
def TakePost (p g : Nat) (rv : Value) (r : List Int × DS) (w : World) (e : Ending) (w' : World) : Prop :=
  ∃ v, e = .returned v ∧ w'.ownsRow w.heap.size 5 1 v r.1.length (nums .u8 r.1) ∧ DecAt w' p g rv r.2 ∧ Mod (DecS p g) w w'

set_option maxRecDepth 100000 in
set_option maxHeartbeats 1600000 in
theorem num_bytes (w : World) (p g bx bn : Nat) (n : Int) (rv : Value) (d : DS) (h : DecAt w p g rv d) (he : d.e = 0) (h0 : 0 ≤ n)
    (hx : w.cell? ⟨bx, 0, none⟩ = some (.pointer (some ⟨p, 0, none⟩))) (hb : w.cell? ⟨bn, 0, none⟩ = some (.int .i64 n)) :
    Calls Tryz.prog 216 #[.pointer (some ⟨p, 0, none⟩), .func (.func 217) #[] #[.pointer (some ⟨bx, 0, none⟩), .pointer (some ⟨bn, 0, none⟩)]] w (TakePost p g rv (d.take n) w) := by
  have hbk := (h.1 he).1
  have hne := h.ne he
  by_cases hn : (d.b.length : Int) - d.pos < n
  · rw [DS.take_short he h0 hn]
    have f2 := fun k => blk_frozen (w := w.drewN k) (g := p) hbk 2
    have c2 := fun k => blk_cell (w := w.drewN k) (g := p) hbk 2
    simp at c2
    have H := Lib.hid h
    clear h hbk
    go_enter Tryz.func216, Tryz.ntmps216
    go_wp2_with fail
    refine (take_lit_short w p g bx bn rv d n H.out he hn hx hb).mono ?_
    rintro e w' ⟨rfl, k, rfl⟩
    go_wp2
    go_ret
    exact ⟨_, rfl, own_nil _ _ _ _, (H.out.drewN k).failed 1 (by decide), mod_dec' p g k _⟩
  · rw [DS.take_ok he h0 hn]
    obtain ⟨m, rfl⟩ := Int.eq_ofNat_of_zero_le h0
    have H := Lib.hid h
    have HN := Lib.hid hn
    have HB := Lib.hid hbk
    clear h hn hbk
    go_enter Tryz.func216, Tryz.ntmps216
    go_wp2_with fail
    refine (take_lit_ok w p g bx bn m rv d H.out he (by have := HN.out; omega) hx hb).mono ?_
    rintro e w1 ⟨v, rfl, ho, hr1, hm⟩
    have hb1 := blk_mod HB.out hm hne
    have f2 := blk_frozen hb1 2
    have c2 := blk_cell hb1 2
    simp at c2
    have HO := Lib.hid ho
    have HR := Lib.hid hr1
    have HM := Lib.hid hm
    have HB1 := Lib.hid hb1
    clear ho hr1 hm hb1
    go_wp2
    go_ret
    rw [Int.toNat_natCast]
    have hq : some p ≠ v.ownBlock := own_ne HO.out HB1.out (by decide)
    refine ⟨_, rfl, own_setCell HO.out hq _, ⟨fun _ => ⟨by simpa using blk_set HB1.out 2 (.int .i64 0), HR.out.mod (S := fun k => k = p) (Mod.setCell (S := fun k => k = p) (p := ⟨p, 2, none⟩) (Mod.refl _ _) (fun _ => rfl) _) (fun e => hne e.symm) (fun q hk e => by subst e; exact (own_ne HR.out.2.1 HB1.out (by decide)) hk.symm)⟩, fun hx => absurd he hx, by simpa using Nat.lt_of_lt_of_le H.out.2.2 HM.out.size⟩, ?_⟩
    exact (HM.out.mono (fun _ _ h => .inr h)).trans (Mod.setCell (S := DecS p g) (p := ⟨p, 2, none⟩) (Mod.refl _ _) (fun _ => .inl rfl) _)

theorem DecAt.below2 {w w1 w2 : World} {p g : Nat} {rv : Value} {d : DS} (h : DecAt w p g rv d) (h1 : Below w.heap.size w w1) (h2 : Below w1.heap.size w1 w2) : DecAt w2 p g rv d :=
  (h.mod (S := fun _ => False) (Mod.of_below h1) id id (fun _ _ => id)).mod (S := fun _ => False) (Mod.of_below h2) id id (fun _ _ => id)
theorem mod_below2 {S : Nat → Prop} {w w1 w2 : World} (h1 : Below w.heap.size w w1) (h2 : Below w1.heap.size w1 w2) : Mod S w w2 := (Mod.of_below h1).trans (Mod.of_below h2)

set_option maxRecDepth 100000 in
set_option maxHeartbeats 1600000 in
theorem dec_take (w : World) (p g : Nat) (n : Int) (rv : Value) (d : DS) (h : DecAt w p g rv d) :
    Calls Tryz.prog 180 #[.pointer (some ⟨p, 0, none⟩), .int .i64 n] w (TakePost p g rv (d.take n) w) := by
  have hmf : ∀ (fn : Fn) (first cap : Array Value) (w : World), (Instr.makeFunc fn first cap).run Tryz.prog w = .ok (.func fn first cap) w := fun _ _ _ _ => rfl
  have H := Lib.hid h
  clear h
  by_cases he : d.e = 0
  · have he' : (d.e == 0) = true := by simp [he]
    have he2 : (d.e != 0) = false := by simp [he]
    have HE := Lib.hid he
    by_cases h0 : n < 0
    · rw [DS.take_neg he h0]
      have h0' : decide (n < 0) = true := by simpa using h0
      clear he
      go_enter Tryz.func180, Tryz.ntmps180
      go_wp2_with (first
    | ((with_reducible refine gate_dst (N := 2) rfl ?_); refine box_event ?hg (N := 2) ?hd (cs := #[.pointer (some ⟨p, 0, none⟩)]) (t := 113) ?hr ?_; (case hd => rfl); (case hg => rfl); (case hr => first | (go_simp; done) | (go_simp; rfl)); intro bx hbx w1 kbx bbx; have HX := Lib.hid kbx; have HB1 := Lib.hid bbx; clear kbx bbx hbx)
    | ((with_reducible refine gate_dst (N := 3) rfl ?_); refine box_event ?hg (N := 3) ?hd (cs := #[.int .i64 n]) (t := 3) ?hr ?_; (case hd => rfl); (case hg => rfl); (case hr => first | (go_simp; done) | (go_simp; rfl)); intro bn hbn w2 kbn bbn; have HN := Lib.hid kbn; have HB2 := Lib.hid bbn; have cx : w2.cell? ⟨bx, 0, none⟩ = some (.pointer (some ⟨p, 0, none⟩)) := blk_cell (blk_mod (S := fun _ => False) HX.out (Mod.of_below HB2.out) id) 0; have cn : w2.cell? ⟨bn, 0, none⟩ = some (.int .i64 n) := blk_cell kbn 0; have H2 := Lib.hid (H.out.below2 HB1.out HB2.out); obtain ⟨r, hbk⟩ := H2.out.blk; have c2 : w2.cell? ⟨p, 2, none⟩ = some (.int .i64 d.e) := blk_cell hbk 2; have f2 := blk_frozen hbk 2; have HM2 := Lib.hid (mod_below2 (S := DecS p g) HB1.out HB2.out); clear kbn bbn hbn hbk))
      go_ret
      exact ⟨_, rfl, own_nil _ _ _ _, H2.out.failed 5 (by decide), HM2.out.trans (mod_dec' p g 0 _)⟩
    · have h0' : decide (n < 0) = false := by simpa using h0
      clear he
      go_enter Tryz.func180, Tryz.ntmps180
      go_wp2_with (first
    | ((with_reducible refine gate_dst (N := 2) rfl ?_); refine box_event ?hg (N := 2) ?hd (cs := #[.pointer (some ⟨p, 0, none⟩)]) (t := 113) ?hr ?_; (case hd => rfl); (case hg => rfl); (case hr => first | (go_simp; done) | (go_simp; rfl)); intro bx hbx w1 kbx bbx; have HX := Lib.hid kbx; have HB1 := Lib.hid bbx; clear kbx bbx hbx)
    | ((with_reducible refine gate_dst (N := 3) rfl ?_); refine box_event ?hg (N := 3) ?hd (cs := #[.int .i64 n]) (t := 3) ?hr ?_; (case hd => rfl); (case hg => rfl); (case hr => first | (go_simp; done) | (go_simp; rfl)); intro bn hbn w2 kbn bbn; have HN := Lib.hid kbn; have HB2 := Lib.hid bbn; have cx : w2.cell? ⟨bx, 0, none⟩ = some (.pointer (some ⟨p, 0, none⟩)) := blk_cell (blk_mod (S := fun _ => False) HX.out (Mod.of_below HB2.out) id) 0; have cn : w2.cell? ⟨bn, 0, none⟩ = some (.int .i64 n) := blk_cell kbn 0; have H2 := Lib.hid (H.out.below2 HB1.out HB2.out); obtain ⟨r, hbk⟩ := H2.out.blk; have c2 : w2.cell? ⟨p, 2, none⟩ = some (.int .i64 d.e) := blk_cell hbk 2; have f2 := blk_frozen hbk 2; have HM2 := Lib.hid (mod_below2 (S := DecS p g) HB1.out HB2.out); clear kbn bbn hbn hbk))
      refine (num_bytes w2 p g bx bn n rv d H2.out HE.out (by omega) cx cn).mono ?_
      rintro e w3 ⟨v, rfl, ho, hd, hm⟩
      have HO := Lib.hid ho
      have HD := Lib.hid hd
      have HM := Lib.hid hm
      clear ho hd hm
      go_wp2
      go_ret
      exact ⟨_, rfl, own_weaken HO.out (Nat.le_trans HB1.out.size HB2.out.size), HD.out, HM2.out.trans HM.out⟩
  · have he' : (d.e == 0) = false := by simp [he]
    have he2 : (d.e != 0) = true := by simp [he]
    rw [DS.take_err he]
    clear he
    go_enter Tryz.func180, Tryz.ntmps180
    go_wp2_with (first
    | ((with_reducible refine gate_dst (N := 2) rfl ?_); refine box_event ?hg (N := 2) ?hd (cs := #[.pointer (some ⟨p, 0, none⟩)]) (t := 113) ?hr ?_; (case hd => rfl); (case hg => rfl); (case hr => first | (go_simp; done) | (go_simp; rfl)); intro bx hbx w1 kbx bbx; have HX := Lib.hid kbx; have HB1 := Lib.hid bbx; clear kbx bbx hbx)
    | ((with_reducible refine gate_dst (N := 3) rfl ?_); refine box_event ?hg (N := 3) ?hd (cs := #[.int .i64 n]) (t := 3) ?hr ?_; (case hd => rfl); (case hg => rfl); (case hr => first | (go_simp; done) | (go_simp; rfl)); intro bn hbn w2 kbn bbn; have HN := Lib.hid kbn; have HB2 := Lib.hid bbn; have cx : w2.cell? ⟨bx, 0, none⟩ = some (.pointer (some ⟨p, 0, none⟩)) := blk_cell (blk_mod (S := fun _ => False) HX.out (Mod.of_below HB2.out) id) 0; have cn : w2.cell? ⟨bn, 0, none⟩ = some (.int .i64 n) := blk_cell kbn 0; have H2 := Lib.hid (H.out.below2 HB1.out HB2.out); obtain ⟨r, hbk⟩ := H2.out.blk; have c2 : w2.cell? ⟨p, 2, none⟩ = some (.int .i64 d.e) := blk_cell hbk 2; have f2 := blk_frozen hbk 2; have HM2 := Lib.hid (mod_below2 (S := DecS p g) HB1.out HB2.out); clear kbn bbn hbn hbk))
    go_ret
    exact ⟨_, rfl, own_nil _ _ _ _, H2.out, HM2.out⟩

end Go.Proofs.YteckmgmcfngddaaGreat
end

section
/- The wire's reader of fields: texts, names, blobs; its beginning and end. -/
set_option linter.unusedVariables false
set_option linter.unusedSimpArgs false
namespace Go.Proofs.YteckmgmcfngddaaGreat
open Go.RowKit Go.Proofs.YteckmgmcfngddaaGreatW.PrintWords

/-- What reading a text leaves. -/
def TextPost (p g : Nat) (rv : Value) (r : ByteArray × DS) (w : World) (e : Ending) (w' : World) : Prop :=
  e = .returned (.string r.1) ∧ DecAt w' p g rv r.2 ∧ Mod (DecS p g) w w'
theorem mod_utf {S : Nat → Prop} {w w' : World} (h : Below w.heap.size w w') : Mod S w w' := Mod.of_below h
theorem DecAt.below {w w1 : World} {p g : Nat} {rv : Value} {d : DS} (h : DecAt w p g rv d) (h1 : Below w.heap.size w w1) : DecAt w1 p g rv d :=
  h.mod (S := fun _ => False) (Mod.of_below h1) id id (fun _ _ => id)

theorem DS.text_big {d : DS} {n : Int} (hn : n > 255) : d.text n = textFin (({ d with e := 4 } : DS).take n) := by
  unfold DS.text; rw [if_pos hn]
theorem DS.text_small {d : DS} {n : Int} (hn : ¬ n > 255) : d.text n = textFin (d.take n) := by
  unfold DS.text; rw [if_neg hn]

theorem DS.take_len (d : DS) (n : Int) (h : d.b.length ≤ 140737488355328) : (d.take n).1.length ≤ 140737488355328 := by
  unfold DS.take
  split
  · simp
  · split
    · simp
    · split
      · simp
      · simp; omega
theorem DS.take_b (d : DS) (n : Int) : (d.take n).2.b = d.b := by unfold DS.take; split <;> (try rfl); split <;> (try rfl); split <;> rfl

set_option maxRecDepth 100000 in
set_option maxHeartbeats 1600000 in
theorem dec_text (w : World) (p g : Nat) (n : Int) (rv : Value) (d : DS) (h : DecAt w p g rv d) (hl : d.b.length ≤ 140737488355328) :
    Calls Tryz.prog 176 #[.pointer (some ⟨p, 0, none⟩), .int .i64 n] w (TextPost p g rv (d.text n) w) := by
  have H := Lib.hid h
  have HL := Lib.hid hl
  clear hl
  by_cases hn : n > 255
  · rw [DS.text_big hn]
    obtain ⟨r, hbk⟩ := h.blk
    have c2 := blk_cell hbk 2
    have f2 := blk_frozen hbk 2
    simp at c2
    have HD0 := Lib.hid (h.failed 4 (by decide))
    clear h hbk
    go_enter Tryz.func176, Tryz.ntmps176
    go_wp2_with fail
    refine (dec_take _ p g n rv ({ d with e := 4 } : DS) (by exact HD0.out)).mono ?_
    rintro e w1 ⟨v, rfl, ho, hd, hm⟩
    obtain ⟨A, c, rfl⟩ := own_slice ho
    have hr := own_reads' ho
    have HO := Lib.hid ho
    have HD := Lib.hid hd
    have HM := Lib.hid hm
    have hlen : (({ d with e := 4 } : DS).take n).1.length ≤ 140737488355328 := DS.take_len ({ d with e := 4 } : DS) n HL.out
    have HLEN := Lib.hid hlen
    have HR := Lib.hid hr
    clear ho hd hm hr hlen
    by_cases hu : utfB (({ d with e := 4 } : DS).take n).1 = true
    · have HF := Lib.hid (textFin_ok hu)
      have HU := Lib.hid hu
      clear hu
      go_wp2_with fail
      refine (utf_any w1 A c _ HR.out HLEN.out).mono ?_
      rintro e w2 ⟨⟨q, rfl⟩, hb⟩
      rw [HU.out]
      have hs : (convert 22 9 (.slice A (({ d with e := 4 } : DS).take n).1.length c)).run Tryz.prog w2 = .ok (.string (strOfNums (({ d with e := 4 } : DS).take n).1)) w2 := string_of_reads Tryz.underlying22 Tryz.underlying5 Tryz.underlying9 (HR.out.below hb)
      have HB := Lib.hid hb
      clear hb
      go_wp2
      go_ret
      rw [HF.out]
      exact ⟨rfl, HD.out.below HB.out, (mod_dec' p g 0 _).trans (HM.out.trans (Mod.of_below HB.out))⟩
    · have hu' : utfB (({ d with e := 4 } : DS).take n).1 = false := by simpa using hu
      have HF := Lib.hid (textFin_bad hu')
      have HU := Lib.hid hu'
      clear hu hu'
      go_wp2_with fail
      refine (utf_any w1 A c _ HR.out HLEN.out).mono ?_
      rintro e w2 ⟨⟨q, rfl⟩, hb⟩
      rw [HU.out]
      obtain ⟨r2, hbk⟩ := (HD.out.below hb).blk
      have c2 := blk_cell hbk 2
      have f2 := blk_frozen hbk 2
      simp at c2
      have HB := Lib.hid hb
      clear hb hbk
      go_wp2
      go_ret
      rw [HF.out]
      exact ⟨rfl, (HD.out.below HB.out).failed 6 (by decide), (mod_dec' p g 0 _).trans ((HM.out.trans (Mod.of_below HB.out)).trans (mod_dec' p g 0 _))⟩

  · rw [DS.text_small hn]
    have HD0 := Lib.hid h
    clear h
    go_enter Tryz.func176, Tryz.ntmps176
    go_wp2_with fail
    refine (dec_take _ p g n rv d (by exact HD0.out)).mono ?_
    rintro e w1 ⟨v, rfl, ho, hd, hm⟩
    obtain ⟨A, c, rfl⟩ := own_slice ho
    have hr := own_reads' ho
    have HO := Lib.hid ho
    have HD := Lib.hid hd
    have HM := Lib.hid hm
    have hlen : (d.take n).1.length ≤ 140737488355328 := DS.take_len d n HL.out
    have HLEN := Lib.hid hlen
    have HR := Lib.hid hr
    clear ho hd hm hr hlen
    by_cases hu : utfB (d.take n).1 = true
    · have HF := Lib.hid (textFin_ok hu)
      have HU := Lib.hid hu
      clear hu
      go_wp2_with fail
      refine (utf_any w1 A c _ HR.out HLEN.out).mono ?_
      rintro e w2 ⟨⟨q, rfl⟩, hb⟩
      rw [HU.out]
      have hs : (convert 22 9 (.slice A (d.take n).1.length c)).run Tryz.prog w2 = .ok (.string (strOfNums (d.take n).1)) w2 := string_of_reads Tryz.underlying22 Tryz.underlying5 Tryz.underlying9 (HR.out.below hb)
      have HB := Lib.hid hb
      clear hb
      go_wp2
      go_ret
      rw [HF.out]
      exact ⟨rfl, HD.out.below HB.out, (HM.out.trans (Mod.of_below HB.out))⟩
    · have hu' : utfB (d.take n).1 = false := by simpa using hu
      have HF := Lib.hid (textFin_bad hu')
      have HU := Lib.hid hu'
      clear hu hu'
      go_wp2_with fail
      refine (utf_any w1 A c _ HR.out HLEN.out).mono ?_
      rintro e w2 ⟨⟨q, rfl⟩, hb⟩
      rw [HU.out]
      obtain ⟨r2, hbk⟩ := (HD.out.below hb).blk
      have c2 := blk_cell hbk 2
      have f2 := blk_frozen hbk 2
      simp at c2
      have HB := Lib.hid hb
      clear hb hbk
      go_wp2
      go_ret
      rw [HF.out]
      exact ⟨rfl, (HD.out.below HB.out).failed 6 (by decide), ((HM.out.trans (Mod.of_below HB.out)).trans (mod_dec' p g 0 _))⟩


theorem DS.i16_b (d : DS) : d.i16.2.b = d.b := by unfold DS.i16 DS.num; split <;> (try rfl); split <;> rfl
theorem DS.i32_b (d : DS) : d.i32.2.b = d.b := by unfold DS.i32 DS.num; split <;> (try rfl); split <;> rfl
theorem DS.i64_b (d : DS) : d.i64.2.b = d.b := by unfold DS.i64 DS.num; split <;> (try rfl); split <;> rfl
theorem DS.i8_b (d : DS) : d.i8.2.b = d.b := by unfold DS.i8 DS.num; split <;> (try rfl); split <;> rfl
theorem DS.i16_v (d : DS) : d.i16.2.v = d.v := by unfold DS.i16 DS.num; split <;> (try rfl); split <;> rfl
theorem DS.i32_v (d : DS) : d.i32.2.v = d.v := by unfold DS.i32 DS.num; split <;> (try rfl); split <;> rfl
theorem wrap16_range (x : Int) : -32768 ≤ IntKind.i16.wrap x ∧ IntKind.i16.wrap x ≤ 32767 := by
  show -32768 ≤ (if true && decide (x % 65536 ≥ 32768) then x % 65536 - 65536 else x % 65536) ∧ (if true && decide (x % 65536 ≥ 32768) then x % 65536 - 65536 else x % 65536) ≤ 32767
  by_cases h : x % 65536 ≥ 32768
  · simp [h]; omega
  · simp [h]; omega
theorem wrap32_range (x : Int) : -2147483648 ≤ wrap32 x ∧ wrap32 x ≤ 2147483647 := by unfold wrap32; omega
theorem DS.i16_range (d : DS) : -32768 ≤ d.i16.1 ∧ d.i16.1 ≤ 32767 := by
  unfold DS.i16 DS.num
  split
  · exact ⟨by simp, by simp⟩
  · split
    · exact ⟨by simp, by simp⟩
    · exact wrap16_range _
theorem DS.i32_range (d : DS) : -2147483648 ≤ d.i32.1 ∧ d.i32.1 ≤ 2147483647 := by
  unfold DS.i32 DS.num
  split
  · exact ⟨by simp, by simp⟩
  · split
    · exact ⟨by simp, by simp⟩
    · exact wrap32_range _
theorem DS.text_b (d : DS) (n : Int) : (d.text n).2.b = d.b := by
  unfold DS.text
  by_cases hn : n > 255
  · rw [if_pos hn]; unfold textFin; split <;> exact DS.take_b _ n
  · rw [if_neg hn]; unfold textFin; split <;> exact DS.take_b _ n
theorem DS.str_b (d : DS) : d.str.2.b = d.b := (DS.text_b _ _).trans d.i16_b

set_option maxRecDepth 100000 in
set_option maxHeartbeats 1600000 in
theorem dec_str (w : World) (p g : Nat) (rv : Value) (d : DS) (h : DecAt w p g rv d) (hl : d.b.length ≤ 140737488355328) :
    Calls Tryz.prog 61 #[.pointer (some ⟨p, 0, none⟩)] w (TextPost p g rv d.str w) := by
  have H := Lib.hid h
  have HL := Lib.hid hl
  obtain ⟨r0, r1⟩ := d.i16_range
  clear hl h
  go_enter Tryz.func61, Tryz.ntmps61
  go_wp2_with fail
  refine (dec_i16 w p g rv d H.out).mono ?_
  rintro e w1 ⟨rfl, hd, hm⟩
  have HD := Lib.hid hd
  have HM := Lib.hid hm
  clear hd hm
  go_wp2_with fail
  refine (dec_text w1 p g _ rv d.i16.2 HD.out (by rw [DS.i16_b]; exact HL.out)).mono ?_
  rintro e w2 ⟨rfl, hd, hm⟩
  have HD2 := Lib.hid hd
  have HM2 := Lib.hid hm
  clear hd hm
  go_wp2
  go_ret
  exact ⟨rfl, HD2.out, HM.out.trans HM2.out⟩

theorem DS.name_null {d : DS} (h : d.i16.1 = -1) : d.name = ((true, ⟨#[]⟩), d.i16.2) := if_pos h
theorem DS.name_text {d : DS} (h : ¬ d.i16.1 = -1) : d.name = ((false, (d.i16.2.text d.i16.1).1), (d.i16.2.text d.i16.1).2) := if_neg h
theorem modNew {w w0 w1 : World} {S : Nat → Prop} {gb : Nat} (h0 : Below w.heap.size w w0) (h1 : Mod S w0 w1) (hg : gb = w.heap.size) {i j : Nat} {u v : Value} : Mod S w ((w1.setCell ⟨gb, i, none⟩ u).setCell ⟨gb, j, none⟩ v) :=
  Mod.setCell (p := ⟨gb, j, none⟩) (Mod.setCell (p := ⟨gb, i, none⟩) ((Mod.of_below h0).trans h1) (fun h => absurd h (by subst hg; exact Nat.lt_irrefl _)) u) (fun h => absurd h (by subst hg; exact Nat.lt_irrefl _)) v
def NamePost (p g : Nat) (rv : Value) (r : (Bool × ByteArray) × DS) (w : World) (e : Ending) (w' : World) : Prop :=
  e = .returned (.agg #[.bool r.1.1, .string r.1.2]) ∧ DecAt w' p g rv r.2 ∧ Mod (DecS p g) w w'

set_option maxRecDepth 100000 in
set_option maxHeartbeats 1600000 in
theorem dec_name (w : World) (p g : Nat) (rv : Value) (d : DS) (h : DecAt w p g rv d) (hl : d.b.length ≤ 140737488355328) :
    Calls Tryz.prog 56 #[.pointer (some ⟨p, 0, none⟩)] w (NamePost p g rv d.name w) := by
  have H := Lib.hid h
  have HL := Lib.hid hl
  obtain ⟨r0, r1⟩ := d.i16_range
  clear hl h
  by_cases hn : d.i16.1 = -1
  · rw [DS.name_null hn]
    have hn1 : (d.i16.1 == -1) = true := by simpa using hn
    clear hn
    go_enter Tryz.func56, Tryz.ntmps56
    go_wp2_with (first | ((with_reducible refine gate_dst (N := 2) rfl ?_); refine box_event ?hg (N := 2) ?hd (cs := #[.bool false, .string ⟨#[]⟩]) (t := 30) ?hr ?_; (case hd => rfl); (case hg => rfl); (case hr => first | (go_simp; done) | (go_simp; rfl)); intro gb hgb w0 kgb bgb; have HG := Lib.hid kgb; have HB0 := Lib.hid bgb; have HGB := Lib.hid hgb; clear kgb bgb hgb))
    refine (dec_i16 w0 p g rv d (H.out.below HB0.out)).mono ?_
    rintro e w1 ⟨rfl, hd, hm⟩
    have hg1 := blk_mod HG.out hm (H.out.new (Nat.le_of_eq HGB.out.symm))
    have f0 := fun i => blk_frozen hg1 i
    have c0 := blk_cell hg1 0
    have c1 := blk_cell hg1 1
    simp at c0 c1
    have HD := Lib.hid hd
    have HM := Lib.hid hm
    have HG1 := Lib.hid hg1
    clear hd hm hg1
    go_wp2
    refine bodyPost_ret (v := .agg #[.bool true, .string ⟨#[]⟩]) (by simp [results, Tryz.results56, go_sem, c0, c1]) rfl ⟨rfl, ?_, ?_⟩
    · exact (HD.out.far HG1.out (by decide) (by decide) (by decide) 0 _).far (blk_set HG1.out 0 _) (by decide) (by decide) (by decide) 1 _
    · exact modNew HB0.out HM.out HGB.out
  · rw [DS.name_text hn]
    have hn1 : (d.i16.1 == -1) = false := by simpa using hn
    clear hn
    go_enter Tryz.func56, Tryz.ntmps56
    go_wp2_with (first | ((with_reducible refine gate_dst (N := 2) rfl ?_); refine box_event ?hg (N := 2) ?hd (cs := #[.bool false, .string ⟨#[]⟩]) (t := 30) ?hr ?_; (case hd => rfl); (case hg => rfl); (case hr => first | (go_simp; done) | (go_simp; rfl)); intro gb hgb w0 kgb bgb; have HG := Lib.hid kgb; have HB0 := Lib.hid bgb; have HGB := Lib.hid hgb; clear kgb bgb hgb))
    refine (dec_i16 w0 p g rv d (H.out.below HB0.out)).mono ?_
    rintro e w1 ⟨rfl, hd, hm⟩
    have hg1 := blk_mod HG.out hm (H.out.new (Nat.le_of_eq HGB.out.symm))
    have HD := Lib.hid hd
    have HM := Lib.hid hm
    have HG1 := Lib.hid hg1
    clear hd hm hg1
    go_wp2_with fail
    refine (dec_text w1 p g _ rv d.i16.2 HD.out (by rw [DS.i16_b]; exact HL.out)).mono ?_
    rintro e w2 ⟨rfl, hd, hm⟩
    have hg1 := blk_mod HG1.out hm (H.out.new (Nat.le_of_eq HGB.out.symm))
    have f0 := fun i => blk_frozen hg1 i
    have c0 := blk_cell hg1 0
    have c1 := blk_cell hg1 1
    simp at c0 c1
    have HD2 := Lib.hid hd
    have HM2 := Lib.hid hm
    have HG2 := Lib.hid hg1
    clear hd hm hg1
    go_wp2
    refine bodyPost_ret (v := .agg #[.bool false, .string (d.i16.2.text d.i16.1).1]) (by simp [results, Tryz.results56, go_sem, c0, c1]) rfl ⟨rfl, ?_, ?_⟩
    · exact (HD2.out.far HG2.out (by decide) (by decide) (by decide) 0 _).far (blk_set HG2.out 0 _) (by decide) (by decide) (by decide) 1 _
    · exact modNew HB0.out (HM.out.trans HM2.out) HGB.out

end Go.Proofs.YteckmgmcfngddaaGreat
end

section
/- The kinds of the messages' parts: what their cells say, read (K) and made (M). -/
set_option linter.unusedVariables false
set_option linter.unusedSimpArgs false
namespace Go.Proofs.YteckmgmcfngddaaGreat
open Go.RowKit Go.Proofs.YteckmgmcfngddaaGreatW.PrintWords

structure Name where
  null : Bool
  s : ByteArray
def kName : Kd Name := Kd.iso (Kd.pair Kd.bool Kd.string) (fun x => (x.null, x.s))
theorem kName_openM {w : World} {base : Nat} {ok : Nat → Prop} {x : Name} {cs : List Value} (h : kName.M w base ok x cs) : cs = [.bool x.null, .string x.s] := by
  obtain ⟨_, _, rfl, rfl, rfl⟩ := h
  exact rfl
theorem kName_mkM (w : World) (base : Nat) (ok : Nat → Prop) (x : Name) : kName.M w base ok x [.bool x.null, .string x.s] := ⟨[.bool x.null], [.string x.s], rfl, rfl, rfl⟩
theorem kName_openK {w : World} {x : Name} {cs : List Value} (h : kName.K w x cs) : cs = [.bool x.null, .string x.s] := by
  obtain ⟨_, _, rfl, rfl, rfl⟩ := h
  exact rfl
theorem kName_mkK (w : World) (x : Name) : kName.K w x [.bool x.null, .string x.s] := ⟨[.bool x.null], [.string x.s], rfl, rfl, rfl⟩

structure Blob where
  null : Bool
  b : List Int
def kBlob : Kd Blob := Kd.iso (Kd.pair Kd.bool (Kd.slice 5 (Kd.int .u8))) (fun x => (x.null, x.b))
theorem kBlob_openM {w : World} {base : Nat} {ok : Nat → Prop} {x : Blob} {cs : List Value} (h : kBlob.M w base ok x cs) : ∃ (A0 : Option Addr) (c0 : Nat), cs = [.bool x.null, .slice A0 x.b.length c0] ∧ (Kd.int .u8).R 5 w base ok (.slice A0 x.b.length c0) x.b := by
  obtain ⟨_, _, rfl, rfl, ⟨v0, rfl, g0⟩⟩ := h
  obtain ⟨A0, c0, rfl⟩ := Kd.R_slice g0
  exact ⟨A0, c0, rfl, g0⟩
theorem kBlob_mkM (w : World) (base : Nat) (ok : Nat → Prop) (x : Blob) {A0 : Option Addr} {c0 : Nat} (g0 : (Kd.int .u8).R 5 w base ok (.slice A0 x.b.length c0) x.b) : kBlob.M w base ok x [.bool x.null, .slice A0 x.b.length c0] := ⟨[.bool x.null], [.slice A0 x.b.length c0], rfl, rfl, ⟨_, rfl, g0⟩⟩
theorem kBlob_openK {w : World} {x : Blob} {cs : List Value} (h : kBlob.K w x cs) : ∃ (A0 : Option Addr) (c0 : Nat), cs = [.bool x.null, .slice A0 x.b.length c0] ∧ x.b.length ≤ c0 ∧ (Kd.int .u8).C w A0 x.b.length x.b := by
  obtain ⟨_, _, rfl, rfl, ⟨A0, c0, rfl, l0, g0⟩⟩ := h
  exact ⟨A0, c0, rfl, l0, g0⟩
theorem kBlob_mkK (w : World) (x : Blob) {A0 : Option Addr} {c0 : Nat} (l0 : x.b.length ≤ c0) (g0 : (Kd.int .u8).C w A0 x.b.length x.b) : kBlob.K w x [.bool x.null, .slice A0 x.b.length c0] := ⟨[.bool x.null], [.slice A0 x.b.length c0], rfl, rfl, ⟨_, _, rfl, l0, g0⟩⟩

structure ProdPart where
  index : Int
  recs : Blob
def kProdPart : Kd ProdPart := Kd.iso (Kd.pair (Kd.int .i32) kBlob) (fun x => (x.index, x.recs))
theorem kProdPart_openM {w : World} {base : Nat} {ok : Nat → Prop} {x : ProdPart} {cs : List Value} (h : kProdPart.M w base ok x cs) : ∃ (A0 : Option Addr) (c0 : Nat), cs = [.int .i32 x.index, .bool x.recs.null, .slice A0 x.recs.b.length c0] ∧ (Kd.int .u8).R 5 w base ok (.slice A0 x.recs.b.length c0) x.recs.b := by
  obtain ⟨_, _, rfl, rfl, s0⟩ := h
  obtain ⟨A0, c0, rfl, g0⟩ := kBlob_openM s0
  exact ⟨A0, c0, rfl, g0⟩
theorem kProdPart_mkM (w : World) (base : Nat) (ok : Nat → Prop) (x : ProdPart) {A0 : Option Addr} {c0 : Nat} (g0 : (Kd.int .u8).R 5 w base ok (.slice A0 x.recs.b.length c0) x.recs.b) : kProdPart.M w base ok x [.int .i32 x.index, .bool x.recs.null, .slice A0 x.recs.b.length c0] := ⟨[.int .i32 x.index], [.bool x.recs.null, .slice A0 x.recs.b.length c0], rfl, rfl, (kBlob_mkM w base ok x.recs g0)⟩
theorem kProdPart_openK {w : World} {x : ProdPart} {cs : List Value} (h : kProdPart.K w x cs) : ∃ (A0 : Option Addr) (c0 : Nat), cs = [.int .i32 x.index, .bool x.recs.null, .slice A0 x.recs.b.length c0] ∧ x.recs.b.length ≤ c0 ∧ (Kd.int .u8).C w A0 x.recs.b.length x.recs.b := by
  obtain ⟨_, _, rfl, rfl, s0⟩ := h
  obtain ⟨A0, c0, rfl, l0, g0⟩ := kBlob_openK s0
  exact ⟨A0, c0, rfl, l0, g0⟩
theorem kProdPart_mkK (w : World) (x : ProdPart) {A0 : Option Addr} {c0 : Nat} (l0 : x.recs.b.length ≤ c0) (g0 : (Kd.int .u8).C w A0 x.recs.b.length x.recs.b) : kProdPart.K w x [.int .i32 x.index, .bool x.recs.null, .slice A0 x.recs.b.length c0] := ⟨[.int .i32 x.index], [.bool x.recs.null, .slice A0 x.recs.b.length c0], rfl, rfl, (kBlob_mkK w x.recs l0 g0)⟩

structure ProdTopic where
  name : ByteArray
  parts : List ProdPart
def kProdTopic : Kd ProdTopic := Kd.iso (Kd.pair Kd.string (Kd.slice 128 kProdPart)) (fun x => (x.name, x.parts))
theorem kProdTopic_openM {w : World} {base : Nat} {ok : Nat → Prop} {x : ProdTopic} {cs : List Value} (h : kProdTopic.M w base ok x cs) : ∃ (A0 : Option Addr) (c0 : Nat), cs = [.string x.name, .slice A0 x.parts.length c0] ∧ kProdPart.R 128 w base ok (.slice A0 x.parts.length c0) x.parts := by
  obtain ⟨_, _, rfl, rfl, ⟨v0, rfl, g0⟩⟩ := h
  obtain ⟨A0, c0, rfl⟩ := Kd.R_slice g0
  exact ⟨A0, c0, rfl, g0⟩
theorem kProdTopic_mkM (w : World) (base : Nat) (ok : Nat → Prop) (x : ProdTopic) {A0 : Option Addr} {c0 : Nat} (g0 : kProdPart.R 128 w base ok (.slice A0 x.parts.length c0) x.parts) : kProdTopic.M w base ok x [.string x.name, .slice A0 x.parts.length c0] := ⟨[.string x.name], [.slice A0 x.parts.length c0], rfl, rfl, ⟨_, rfl, g0⟩⟩
theorem kProdTopic_openK {w : World} {x : ProdTopic} {cs : List Value} (h : kProdTopic.K w x cs) : ∃ (A0 : Option Addr) (c0 : Nat), cs = [.string x.name, .slice A0 x.parts.length c0] ∧ x.parts.length ≤ c0 ∧ kProdPart.C w A0 x.parts.length x.parts := by
  obtain ⟨_, _, rfl, rfl, ⟨A0, c0, rfl, l0, g0⟩⟩ := h
  exact ⟨A0, c0, rfl, l0, g0⟩
theorem kProdTopic_mkK (w : World) (x : ProdTopic) {A0 : Option Addr} {c0 : Nat} (l0 : x.parts.length ≤ c0) (g0 : kProdPart.C w A0 x.parts.length x.parts) : kProdTopic.K w x [.string x.name, .slice A0 x.parts.length c0] := ⟨[.string x.name], [.slice A0 x.parts.length c0], rfl, rfl, ⟨_, _, rfl, l0, g0⟩⟩

structure ProdDone where
  index : Int
  code : Int
  base : Int
  time : Int
  start : Int
def kProdDone : Kd ProdDone := Kd.iso (Kd.pair (Kd.int .i32) (Kd.pair (Kd.int .i16) (Kd.pair (Kd.int .i64) (Kd.pair (Kd.int .i64) (Kd.int .i64))))) (fun x => (x.index, x.code, x.base, x.time, x.start))
theorem kProdDone_openM {w : World} {base : Nat} {ok : Nat → Prop} {x : ProdDone} {cs : List Value} (h : kProdDone.M w base ok x cs) : cs = [.int .i32 x.index, .int .i16 x.code, .int .i64 x.base, .int .i64 x.time, .int .i64 x.start] := by
  obtain ⟨_, _, rfl, rfl, ⟨_, _, rfl, rfl, ⟨_, _, rfl, rfl, ⟨_, _, rfl, rfl, rfl⟩⟩⟩⟩ := h
  exact rfl
theorem kProdDone_mkM (w : World) (base : Nat) (ok : Nat → Prop) (x : ProdDone) : kProdDone.M w base ok x [.int .i32 x.index, .int .i16 x.code, .int .i64 x.base, .int .i64 x.time, .int .i64 x.start] := ⟨[.int .i32 x.index], [.int .i16 x.code, .int .i64 x.base, .int .i64 x.time, .int .i64 x.start], rfl, rfl, ⟨[.int .i16 x.code], [.int .i64 x.base, .int .i64 x.time, .int .i64 x.start], rfl, rfl, ⟨[.int .i64 x.base], [.int .i64 x.time, .int .i64 x.start], rfl, rfl, ⟨[.int .i64 x.time], [.int .i64 x.start], rfl, rfl, rfl⟩⟩⟩⟩
theorem kProdDone_openK {w : World} {x : ProdDone} {cs : List Value} (h : kProdDone.K w x cs) : cs = [.int .i32 x.index, .int .i16 x.code, .int .i64 x.base, .int .i64 x.time, .int .i64 x.start] := by
  obtain ⟨_, _, rfl, rfl, ⟨_, _, rfl, rfl, ⟨_, _, rfl, rfl, ⟨_, _, rfl, rfl, rfl⟩⟩⟩⟩ := h
  exact rfl
theorem kProdDone_mkK (w : World) (x : ProdDone) : kProdDone.K w x [.int .i32 x.index, .int .i16 x.code, .int .i64 x.base, .int .i64 x.time, .int .i64 x.start] := ⟨[.int .i32 x.index], [.int .i16 x.code, .int .i64 x.base, .int .i64 x.time, .int .i64 x.start], rfl, rfl, ⟨[.int .i16 x.code], [.int .i64 x.base, .int .i64 x.time, .int .i64 x.start], rfl, rfl, ⟨[.int .i64 x.base], [.int .i64 x.time, .int .i64 x.start], rfl, rfl, ⟨[.int .i64 x.time], [.int .i64 x.start], rfl, rfl, rfl⟩⟩⟩⟩

structure ProdGone where
  name : ByteArray
  parts : List ProdDone
def kProdGone : Kd ProdGone := Kd.iso (Kd.pair Kd.string (Kd.slice 165 kProdDone)) (fun x => (x.name, x.parts))
theorem kProdGone_openM {w : World} {base : Nat} {ok : Nat → Prop} {x : ProdGone} {cs : List Value} (h : kProdGone.M w base ok x cs) : ∃ (A0 : Option Addr) (c0 : Nat), cs = [.string x.name, .slice A0 x.parts.length c0] ∧ kProdDone.R 165 w base ok (.slice A0 x.parts.length c0) x.parts := by
  obtain ⟨_, _, rfl, rfl, ⟨v0, rfl, g0⟩⟩ := h
  obtain ⟨A0, c0, rfl⟩ := Kd.R_slice g0
  exact ⟨A0, c0, rfl, g0⟩
theorem kProdGone_mkM (w : World) (base : Nat) (ok : Nat → Prop) (x : ProdGone) {A0 : Option Addr} {c0 : Nat} (g0 : kProdDone.R 165 w base ok (.slice A0 x.parts.length c0) x.parts) : kProdGone.M w base ok x [.string x.name, .slice A0 x.parts.length c0] := ⟨[.string x.name], [.slice A0 x.parts.length c0], rfl, rfl, ⟨_, rfl, g0⟩⟩
theorem kProdGone_openK {w : World} {x : ProdGone} {cs : List Value} (h : kProdGone.K w x cs) : ∃ (A0 : Option Addr) (c0 : Nat), cs = [.string x.name, .slice A0 x.parts.length c0] ∧ x.parts.length ≤ c0 ∧ kProdDone.C w A0 x.parts.length x.parts := by
  obtain ⟨_, _, rfl, rfl, ⟨A0, c0, rfl, l0, g0⟩⟩ := h
  exact ⟨A0, c0, rfl, l0, g0⟩
theorem kProdGone_mkK (w : World) (x : ProdGone) {A0 : Option Addr} {c0 : Nat} (l0 : x.parts.length ≤ c0) (g0 : kProdDone.C w A0 x.parts.length x.parts) : kProdGone.K w x [.string x.name, .slice A0 x.parts.length c0] := ⟨[.string x.name], [.slice A0 x.parts.length c0], rfl, rfl, ⟨_, _, rfl, l0, g0⟩⟩

structure ListPart where
  index : Int
  epoch : Int
  time : Int
  most : Int
def kListPart : Kd ListPart := Kd.iso (Kd.pair (Kd.int .i32) (Kd.pair (Kd.int .i32) (Kd.pair (Kd.int .i64) (Kd.int .i32)))) (fun x => (x.index, x.epoch, x.time, x.most))
theorem kListPart_openM {w : World} {base : Nat} {ok : Nat → Prop} {x : ListPart} {cs : List Value} (h : kListPart.M w base ok x cs) : cs = [.int .i32 x.index, .int .i32 x.epoch, .int .i64 x.time, .int .i32 x.most] := by
  obtain ⟨_, _, rfl, rfl, ⟨_, _, rfl, rfl, ⟨_, _, rfl, rfl, rfl⟩⟩⟩ := h
  exact rfl
theorem kListPart_mkM (w : World) (base : Nat) (ok : Nat → Prop) (x : ListPart) : kListPart.M w base ok x [.int .i32 x.index, .int .i32 x.epoch, .int .i64 x.time, .int .i32 x.most] := ⟨[.int .i32 x.index], [.int .i32 x.epoch, .int .i64 x.time, .int .i32 x.most], rfl, rfl, ⟨[.int .i32 x.epoch], [.int .i64 x.time, .int .i32 x.most], rfl, rfl, ⟨[.int .i64 x.time], [.int .i32 x.most], rfl, rfl, rfl⟩⟩⟩
theorem kListPart_openK {w : World} {x : ListPart} {cs : List Value} (h : kListPart.K w x cs) : cs = [.int .i32 x.index, .int .i32 x.epoch, .int .i64 x.time, .int .i32 x.most] := by
  obtain ⟨_, _, rfl, rfl, ⟨_, _, rfl, rfl, ⟨_, _, rfl, rfl, rfl⟩⟩⟩ := h
  exact rfl
theorem kListPart_mkK (w : World) (x : ListPart) : kListPart.K w x [.int .i32 x.index, .int .i32 x.epoch, .int .i64 x.time, .int .i32 x.most] := ⟨[.int .i32 x.index], [.int .i32 x.epoch, .int .i64 x.time, .int .i32 x.most], rfl, rfl, ⟨[.int .i32 x.epoch], [.int .i64 x.time, .int .i32 x.most], rfl, rfl, ⟨[.int .i64 x.time], [.int .i32 x.most], rfl, rfl, rfl⟩⟩⟩

structure ListTopic where
  name : ByteArray
  parts : List ListPart
def kListTopic : Kd ListTopic := Kd.iso (Kd.pair Kd.string (Kd.slice 181 kListPart)) (fun x => (x.name, x.parts))
theorem kListTopic_openM {w : World} {base : Nat} {ok : Nat → Prop} {x : ListTopic} {cs : List Value} (h : kListTopic.M w base ok x cs) : ∃ (A0 : Option Addr) (c0 : Nat), cs = [.string x.name, .slice A0 x.parts.length c0] ∧ kListPart.R 181 w base ok (.slice A0 x.parts.length c0) x.parts := by
  obtain ⟨_, _, rfl, rfl, ⟨v0, rfl, g0⟩⟩ := h
  obtain ⟨A0, c0, rfl⟩ := Kd.R_slice g0
  exact ⟨A0, c0, rfl, g0⟩
theorem kListTopic_mkM (w : World) (base : Nat) (ok : Nat → Prop) (x : ListTopic) {A0 : Option Addr} {c0 : Nat} (g0 : kListPart.R 181 w base ok (.slice A0 x.parts.length c0) x.parts) : kListTopic.M w base ok x [.string x.name, .slice A0 x.parts.length c0] := ⟨[.string x.name], [.slice A0 x.parts.length c0], rfl, rfl, ⟨_, rfl, g0⟩⟩
theorem kListTopic_openK {w : World} {x : ListTopic} {cs : List Value} (h : kListTopic.K w x cs) : ∃ (A0 : Option Addr) (c0 : Nat), cs = [.string x.name, .slice A0 x.parts.length c0] ∧ x.parts.length ≤ c0 ∧ kListPart.C w A0 x.parts.length x.parts := by
  obtain ⟨_, _, rfl, rfl, ⟨A0, c0, rfl, l0, g0⟩⟩ := h
  exact ⟨A0, c0, rfl, l0, g0⟩
theorem kListTopic_mkK (w : World) (x : ListTopic) {A0 : Option Addr} {c0 : Nat} (l0 : x.parts.length ≤ c0) (g0 : kListPart.C w A0 x.parts.length x.parts) : kListTopic.K w x [.string x.name, .slice A0 x.parts.length c0] := ⟨[.string x.name], [.slice A0 x.parts.length c0], rfl, rfl, ⟨_, _, rfl, l0, g0⟩⟩

structure ListDone where
  index : Int
  code : Int
  offsets : List Int
  time : Int
  offset : Int
  epoch : Int
def kListDone : Kd ListDone := Kd.iso (Kd.pair (Kd.int .i32) (Kd.pair (Kd.int .i16) (Kd.pair (Kd.slice 2 (Kd.int .i64)) (Kd.pair (Kd.int .i64) (Kd.pair (Kd.int .i64) (Kd.int .i32)))))) (fun x => (x.index, x.code, x.offsets, x.time, x.offset, x.epoch))
theorem kListDone_openM {w : World} {base : Nat} {ok : Nat → Prop} {x : ListDone} {cs : List Value} (h : kListDone.M w base ok x cs) : ∃ (A0 : Option Addr) (c0 : Nat), cs = [.int .i32 x.index, .int .i16 x.code, .slice A0 x.offsets.length c0, .int .i64 x.time, .int .i64 x.offset, .int .i32 x.epoch] ∧ (Kd.int .i64).R 2 w base ok (.slice A0 x.offsets.length c0) x.offsets := by
  obtain ⟨_, _, rfl, rfl, ⟨_, _, rfl, rfl, ⟨_, _, rfl, ⟨v0, rfl, g0⟩, ⟨_, _, rfl, rfl, ⟨_, _, rfl, rfl, rfl⟩⟩⟩⟩⟩ := h
  obtain ⟨A0, c0, rfl⟩ := Kd.R_slice g0
  exact ⟨A0, c0, rfl, g0⟩
theorem kListDone_mkM (w : World) (base : Nat) (ok : Nat → Prop) (x : ListDone) {A0 : Option Addr} {c0 : Nat} (g0 : (Kd.int .i64).R 2 w base ok (.slice A0 x.offsets.length c0) x.offsets) : kListDone.M w base ok x [.int .i32 x.index, .int .i16 x.code, .slice A0 x.offsets.length c0, .int .i64 x.time, .int .i64 x.offset, .int .i32 x.epoch] := ⟨[.int .i32 x.index], [.int .i16 x.code, .slice A0 x.offsets.length c0, .int .i64 x.time, .int .i64 x.offset, .int .i32 x.epoch], rfl, rfl, ⟨[.int .i16 x.code], [.slice A0 x.offsets.length c0, .int .i64 x.time, .int .i64 x.offset, .int .i32 x.epoch], rfl, rfl, ⟨[.slice A0 x.offsets.length c0], [.int .i64 x.time, .int .i64 x.offset, .int .i32 x.epoch], rfl, ⟨_, rfl, g0⟩, ⟨[.int .i64 x.time], [.int .i64 x.offset, .int .i32 x.epoch], rfl, rfl, ⟨[.int .i64 x.offset], [.int .i32 x.epoch], rfl, rfl, rfl⟩⟩⟩⟩⟩
theorem kListDone_openK {w : World} {x : ListDone} {cs : List Value} (h : kListDone.K w x cs) : ∃ (A0 : Option Addr) (c0 : Nat), cs = [.int .i32 x.index, .int .i16 x.code, .slice A0 x.offsets.length c0, .int .i64 x.time, .int .i64 x.offset, .int .i32 x.epoch] ∧ x.offsets.length ≤ c0 ∧ (Kd.int .i64).C w A0 x.offsets.length x.offsets := by
  obtain ⟨_, _, rfl, rfl, ⟨_, _, rfl, rfl, ⟨_, _, rfl, ⟨A0, c0, rfl, l0, g0⟩, ⟨_, _, rfl, rfl, ⟨_, _, rfl, rfl, rfl⟩⟩⟩⟩⟩ := h
  exact ⟨A0, c0, rfl, l0, g0⟩
theorem kListDone_mkK (w : World) (x : ListDone) {A0 : Option Addr} {c0 : Nat} (l0 : x.offsets.length ≤ c0) (g0 : (Kd.int .i64).C w A0 x.offsets.length x.offsets) : kListDone.K w x [.int .i32 x.index, .int .i16 x.code, .slice A0 x.offsets.length c0, .int .i64 x.time, .int .i64 x.offset, .int .i32 x.epoch] := ⟨[.int .i32 x.index], [.int .i16 x.code, .slice A0 x.offsets.length c0, .int .i64 x.time, .int .i64 x.offset, .int .i32 x.epoch], rfl, rfl, ⟨[.int .i16 x.code], [.slice A0 x.offsets.length c0, .int .i64 x.time, .int .i64 x.offset, .int .i32 x.epoch], rfl, rfl, ⟨[.slice A0 x.offsets.length c0], [.int .i64 x.time, .int .i64 x.offset, .int .i32 x.epoch], rfl, ⟨_, _, rfl, l0, g0⟩, ⟨[.int .i64 x.time], [.int .i64 x.offset, .int .i32 x.epoch], rfl, rfl, ⟨[.int .i64 x.offset], [.int .i32 x.epoch], rfl, rfl, rfl⟩⟩⟩⟩⟩

structure ListGone where
  name : ByteArray
  parts : List ListDone
def kListGone : Kd ListGone := Kd.iso (Kd.pair Kd.string (Kd.slice 196 kListDone)) (fun x => (x.name, x.parts))
theorem kListGone_openM {w : World} {base : Nat} {ok : Nat → Prop} {x : ListGone} {cs : List Value} (h : kListGone.M w base ok x cs) : ∃ (A0 : Option Addr) (c0 : Nat), cs = [.string x.name, .slice A0 x.parts.length c0] ∧ kListDone.R 196 w base ok (.slice A0 x.parts.length c0) x.parts := by
  obtain ⟨_, _, rfl, rfl, ⟨v0, rfl, g0⟩⟩ := h
  obtain ⟨A0, c0, rfl⟩ := Kd.R_slice g0
  exact ⟨A0, c0, rfl, g0⟩
theorem kListGone_mkM (w : World) (base : Nat) (ok : Nat → Prop) (x : ListGone) {A0 : Option Addr} {c0 : Nat} (g0 : kListDone.R 196 w base ok (.slice A0 x.parts.length c0) x.parts) : kListGone.M w base ok x [.string x.name, .slice A0 x.parts.length c0] := ⟨[.string x.name], [.slice A0 x.parts.length c0], rfl, rfl, ⟨_, rfl, g0⟩⟩
theorem kListGone_openK {w : World} {x : ListGone} {cs : List Value} (h : kListGone.K w x cs) : ∃ (A0 : Option Addr) (c0 : Nat), cs = [.string x.name, .slice A0 x.parts.length c0] ∧ x.parts.length ≤ c0 ∧ kListDone.C w A0 x.parts.length x.parts := by
  obtain ⟨_, _, rfl, rfl, ⟨A0, c0, rfl, l0, g0⟩⟩ := h
  exact ⟨A0, c0, rfl, l0, g0⟩
theorem kListGone_mkK (w : World) (x : ListGone) {A0 : Option Addr} {c0 : Nat} (l0 : x.parts.length ≤ c0) (g0 : kListDone.C w A0 x.parts.length x.parts) : kListGone.K w x [.string x.name, .slice A0 x.parts.length c0] := ⟨[.string x.name], [.slice A0 x.parts.length c0], rfl, rfl, ⟨_, _, rfl, l0, g0⟩⟩

structure FetchPart where
  index : Int
  offset : Int
  epoch : Int
  max : Int
def kFetchPart : Kd FetchPart := Kd.iso (Kd.pair (Kd.int .i32) (Kd.pair (Kd.int .i64) (Kd.pair (Kd.int .i32) (Kd.int .i32)))) (fun x => (x.index, x.offset, x.epoch, x.max))
theorem kFetchPart_openM {w : World} {base : Nat} {ok : Nat → Prop} {x : FetchPart} {cs : List Value} (h : kFetchPart.M w base ok x cs) : cs = [.int .i32 x.index, .int .i64 x.offset, .int .i32 x.epoch, .int .i32 x.max] := by
  obtain ⟨_, _, rfl, rfl, ⟨_, _, rfl, rfl, ⟨_, _, rfl, rfl, rfl⟩⟩⟩ := h
  exact rfl
theorem kFetchPart_mkM (w : World) (base : Nat) (ok : Nat → Prop) (x : FetchPart) : kFetchPart.M w base ok x [.int .i32 x.index, .int .i64 x.offset, .int .i32 x.epoch, .int .i32 x.max] := ⟨[.int .i32 x.index], [.int .i64 x.offset, .int .i32 x.epoch, .int .i32 x.max], rfl, rfl, ⟨[.int .i64 x.offset], [.int .i32 x.epoch, .int .i32 x.max], rfl, rfl, ⟨[.int .i32 x.epoch], [.int .i32 x.max], rfl, rfl, rfl⟩⟩⟩
theorem kFetchPart_openK {w : World} {x : FetchPart} {cs : List Value} (h : kFetchPart.K w x cs) : cs = [.int .i32 x.index, .int .i64 x.offset, .int .i32 x.epoch, .int .i32 x.max] := by
  obtain ⟨_, _, rfl, rfl, ⟨_, _, rfl, rfl, ⟨_, _, rfl, rfl, rfl⟩⟩⟩ := h
  exact rfl
theorem kFetchPart_mkK (w : World) (x : FetchPart) : kFetchPart.K w x [.int .i32 x.index, .int .i64 x.offset, .int .i32 x.epoch, .int .i32 x.max] := ⟨[.int .i32 x.index], [.int .i64 x.offset, .int .i32 x.epoch, .int .i32 x.max], rfl, rfl, ⟨[.int .i64 x.offset], [.int .i32 x.epoch, .int .i32 x.max], rfl, rfl, ⟨[.int .i32 x.epoch], [.int .i32 x.max], rfl, rfl, rfl⟩⟩⟩

structure FetchTopic where
  name : ByteArray
  parts : List FetchPart
def kFetchTopic : Kd FetchTopic := Kd.iso (Kd.pair Kd.string (Kd.slice 212 kFetchPart)) (fun x => (x.name, x.parts))
theorem kFetchTopic_openM {w : World} {base : Nat} {ok : Nat → Prop} {x : FetchTopic} {cs : List Value} (h : kFetchTopic.M w base ok x cs) : ∃ (A0 : Option Addr) (c0 : Nat), cs = [.string x.name, .slice A0 x.parts.length c0] ∧ kFetchPart.R 212 w base ok (.slice A0 x.parts.length c0) x.parts := by
  obtain ⟨_, _, rfl, rfl, ⟨v0, rfl, g0⟩⟩ := h
  obtain ⟨A0, c0, rfl⟩ := Kd.R_slice g0
  exact ⟨A0, c0, rfl, g0⟩
theorem kFetchTopic_mkM (w : World) (base : Nat) (ok : Nat → Prop) (x : FetchTopic) {A0 : Option Addr} {c0 : Nat} (g0 : kFetchPart.R 212 w base ok (.slice A0 x.parts.length c0) x.parts) : kFetchTopic.M w base ok x [.string x.name, .slice A0 x.parts.length c0] := ⟨[.string x.name], [.slice A0 x.parts.length c0], rfl, rfl, ⟨_, rfl, g0⟩⟩
theorem kFetchTopic_openK {w : World} {x : FetchTopic} {cs : List Value} (h : kFetchTopic.K w x cs) : ∃ (A0 : Option Addr) (c0 : Nat), cs = [.string x.name, .slice A0 x.parts.length c0] ∧ x.parts.length ≤ c0 ∧ kFetchPart.C w A0 x.parts.length x.parts := by
  obtain ⟨_, _, rfl, rfl, ⟨A0, c0, rfl, l0, g0⟩⟩ := h
  exact ⟨A0, c0, rfl, l0, g0⟩
theorem kFetchTopic_mkK (w : World) (x : FetchTopic) {A0 : Option Addr} {c0 : Nat} (l0 : x.parts.length ≤ c0) (g0 : kFetchPart.C w A0 x.parts.length x.parts) : kFetchTopic.K w x [.string x.name, .slice A0 x.parts.length c0] := ⟨[.string x.name], [.slice A0 x.parts.length c0], rfl, rfl, ⟨_, _, rfl, l0, g0⟩⟩

structure FetchDone where
  index : Int
  code : Int
  high : Int
  stable : Int
  start : Int
  recs : Blob
def kFetchDone : Kd FetchDone := Kd.iso (Kd.pair (Kd.int .i32) (Kd.pair (Kd.int .i16) (Kd.pair (Kd.int .i64) (Kd.pair (Kd.int .i64) (Kd.pair (Kd.int .i64) kBlob))))) (fun x => (x.index, x.code, x.high, x.stable, x.start, x.recs))
theorem kFetchDone_openM {w : World} {base : Nat} {ok : Nat → Prop} {x : FetchDone} {cs : List Value} (h : kFetchDone.M w base ok x cs) : ∃ (A0 : Option Addr) (c0 : Nat), cs = [.int .i32 x.index, .int .i16 x.code, .int .i64 x.high, .int .i64 x.stable, .int .i64 x.start, .bool x.recs.null, .slice A0 x.recs.b.length c0] ∧ (Kd.int .u8).R 5 w base ok (.slice A0 x.recs.b.length c0) x.recs.b := by
  obtain ⟨_, _, rfl, rfl, ⟨_, _, rfl, rfl, ⟨_, _, rfl, rfl, ⟨_, _, rfl, rfl, ⟨_, _, rfl, rfl, s0⟩⟩⟩⟩⟩ := h
  obtain ⟨A0, c0, rfl, g0⟩ := kBlob_openM s0
  exact ⟨A0, c0, rfl, g0⟩
theorem kFetchDone_mkM (w : World) (base : Nat) (ok : Nat → Prop) (x : FetchDone) {A0 : Option Addr} {c0 : Nat} (g0 : (Kd.int .u8).R 5 w base ok (.slice A0 x.recs.b.length c0) x.recs.b) : kFetchDone.M w base ok x [.int .i32 x.index, .int .i16 x.code, .int .i64 x.high, .int .i64 x.stable, .int .i64 x.start, .bool x.recs.null, .slice A0 x.recs.b.length c0] := ⟨[.int .i32 x.index], [.int .i16 x.code, .int .i64 x.high, .int .i64 x.stable, .int .i64 x.start, .bool x.recs.null, .slice A0 x.recs.b.length c0], rfl, rfl, ⟨[.int .i16 x.code], [.int .i64 x.high, .int .i64 x.stable, .int .i64 x.start, .bool x.recs.null, .slice A0 x.recs.b.length c0], rfl, rfl, ⟨[.int .i64 x.high], [.int .i64 x.stable, .int .i64 x.start, .bool x.recs.null, .slice A0 x.recs.b.length c0], rfl, rfl, ⟨[.int .i64 x.stable], [.int .i64 x.start, .bool x.recs.null, .slice A0 x.recs.b.length c0], rfl, rfl, ⟨[.int .i64 x.start], [.bool x.recs.null, .slice A0 x.recs.b.length c0], rfl, rfl, (kBlob_mkM w base ok x.recs g0)⟩⟩⟩⟩⟩
theorem kFetchDone_openK {w : World} {x : FetchDone} {cs : List Value} (h : kFetchDone.K w x cs) : ∃ (A0 : Option Addr) (c0 : Nat), cs = [.int .i32 x.index, .int .i16 x.code, .int .i64 x.high, .int .i64 x.stable, .int .i64 x.start, .bool x.recs.null, .slice A0 x.recs.b.length c0] ∧ x.recs.b.length ≤ c0 ∧ (Kd.int .u8).C w A0 x.recs.b.length x.recs.b := by
  obtain ⟨_, _, rfl, rfl, ⟨_, _, rfl, rfl, ⟨_, _, rfl, rfl, ⟨_, _, rfl, rfl, ⟨_, _, rfl, rfl, s0⟩⟩⟩⟩⟩ := h
  obtain ⟨A0, c0, rfl, l0, g0⟩ := kBlob_openK s0
  exact ⟨A0, c0, rfl, l0, g0⟩
theorem kFetchDone_mkK (w : World) (x : FetchDone) {A0 : Option Addr} {c0 : Nat} (l0 : x.recs.b.length ≤ c0) (g0 : (Kd.int .u8).C w A0 x.recs.b.length x.recs.b) : kFetchDone.K w x [.int .i32 x.index, .int .i16 x.code, .int .i64 x.high, .int .i64 x.stable, .int .i64 x.start, .bool x.recs.null, .slice A0 x.recs.b.length c0] := ⟨[.int .i32 x.index], [.int .i16 x.code, .int .i64 x.high, .int .i64 x.stable, .int .i64 x.start, .bool x.recs.null, .slice A0 x.recs.b.length c0], rfl, rfl, ⟨[.int .i16 x.code], [.int .i64 x.high, .int .i64 x.stable, .int .i64 x.start, .bool x.recs.null, .slice A0 x.recs.b.length c0], rfl, rfl, ⟨[.int .i64 x.high], [.int .i64 x.stable, .int .i64 x.start, .bool x.recs.null, .slice A0 x.recs.b.length c0], rfl, rfl, ⟨[.int .i64 x.stable], [.int .i64 x.start, .bool x.recs.null, .slice A0 x.recs.b.length c0], rfl, rfl, ⟨[.int .i64 x.start], [.bool x.recs.null, .slice A0 x.recs.b.length c0], rfl, rfl, (kBlob_mkK w x.recs l0 g0)⟩⟩⟩⟩⟩

structure FetchGone where
  name : ByteArray
  parts : List FetchDone
def kFetchGone : Kd FetchGone := Kd.iso (Kd.pair Kd.string (Kd.slice 225 kFetchDone)) (fun x => (x.name, x.parts))
theorem kFetchGone_openM {w : World} {base : Nat} {ok : Nat → Prop} {x : FetchGone} {cs : List Value} (h : kFetchGone.M w base ok x cs) : ∃ (A0 : Option Addr) (c0 : Nat), cs = [.string x.name, .slice A0 x.parts.length c0] ∧ kFetchDone.R 225 w base ok (.slice A0 x.parts.length c0) x.parts := by
  obtain ⟨_, _, rfl, rfl, ⟨v0, rfl, g0⟩⟩ := h
  obtain ⟨A0, c0, rfl⟩ := Kd.R_slice g0
  exact ⟨A0, c0, rfl, g0⟩
theorem kFetchGone_mkM (w : World) (base : Nat) (ok : Nat → Prop) (x : FetchGone) {A0 : Option Addr} {c0 : Nat} (g0 : kFetchDone.R 225 w base ok (.slice A0 x.parts.length c0) x.parts) : kFetchGone.M w base ok x [.string x.name, .slice A0 x.parts.length c0] := ⟨[.string x.name], [.slice A0 x.parts.length c0], rfl, rfl, ⟨_, rfl, g0⟩⟩
theorem kFetchGone_openK {w : World} {x : FetchGone} {cs : List Value} (h : kFetchGone.K w x cs) : ∃ (A0 : Option Addr) (c0 : Nat), cs = [.string x.name, .slice A0 x.parts.length c0] ∧ x.parts.length ≤ c0 ∧ kFetchDone.C w A0 x.parts.length x.parts := by
  obtain ⟨_, _, rfl, rfl, ⟨A0, c0, rfl, l0, g0⟩⟩ := h
  exact ⟨A0, c0, rfl, l0, g0⟩
theorem kFetchGone_mkK (w : World) (x : FetchGone) {A0 : Option Addr} {c0 : Nat} (l0 : x.parts.length ≤ c0) (g0 : kFetchDone.C w A0 x.parts.length x.parts) : kFetchGone.K w x [.string x.name, .slice A0 x.parts.length c0] := ⟨[.string x.name], [.slice A0 x.parts.length c0], rfl, rfl, ⟨_, _, rfl, l0, g0⟩⟩

structure ProdReq where
  txn : Name
  acks : Int
  wait : Int
  topics : List ProdTopic
def kProdReq : Kd ProdReq := Kd.iso (Kd.pair kName (Kd.pair (Kd.int .i16) (Kd.pair (Kd.int .i32) (Kd.slice 122 kProdTopic)))) (fun x => (x.txn, x.acks, x.wait, x.topics))
theorem kProdReq_openM {w : World} {base : Nat} {ok : Nat → Prop} {x : ProdReq} {cs : List Value} (h : kProdReq.M w base ok x cs) : ∃ (A0 : Option Addr) (c0 : Nat), cs = [.bool x.txn.null, .string x.txn.s, .int .i16 x.acks, .int .i32 x.wait, .slice A0 x.topics.length c0] ∧ kProdTopic.R 122 w base ok (.slice A0 x.topics.length c0) x.topics := by
  obtain ⟨_, _, rfl, s0, ⟨_, _, rfl, rfl, ⟨_, _, rfl, rfl, ⟨v0, rfl, g0⟩⟩⟩⟩ := h
  obtain rfl := kName_openM s0
  obtain ⟨A0, c0, rfl⟩ := Kd.R_slice g0
  exact ⟨A0, c0, rfl, g0⟩
theorem kProdReq_mkM (w : World) (base : Nat) (ok : Nat → Prop) (x : ProdReq) {A0 : Option Addr} {c0 : Nat} (g0 : kProdTopic.R 122 w base ok (.slice A0 x.topics.length c0) x.topics) : kProdReq.M w base ok x [.bool x.txn.null, .string x.txn.s, .int .i16 x.acks, .int .i32 x.wait, .slice A0 x.topics.length c0] := ⟨[.bool x.txn.null, .string x.txn.s], [.int .i16 x.acks, .int .i32 x.wait, .slice A0 x.topics.length c0], rfl, (kName_mkM w base ok x.txn), ⟨[.int .i16 x.acks], [.int .i32 x.wait, .slice A0 x.topics.length c0], rfl, rfl, ⟨[.int .i32 x.wait], [.slice A0 x.topics.length c0], rfl, rfl, ⟨_, rfl, g0⟩⟩⟩⟩
theorem kProdReq_openK {w : World} {x : ProdReq} {cs : List Value} (h : kProdReq.K w x cs) : ∃ (A0 : Option Addr) (c0 : Nat), cs = [.bool x.txn.null, .string x.txn.s, .int .i16 x.acks, .int .i32 x.wait, .slice A0 x.topics.length c0] ∧ x.topics.length ≤ c0 ∧ kProdTopic.C w A0 x.topics.length x.topics := by
  obtain ⟨_, _, rfl, s0, ⟨_, _, rfl, rfl, ⟨_, _, rfl, rfl, ⟨A0, c0, rfl, l0, g0⟩⟩⟩⟩ := h
  obtain rfl := kName_openK s0
  exact ⟨A0, c0, rfl, l0, g0⟩
theorem kProdReq_mkK (w : World) (x : ProdReq) {A0 : Option Addr} {c0 : Nat} (l0 : x.topics.length ≤ c0) (g0 : kProdTopic.C w A0 x.topics.length x.topics) : kProdReq.K w x [.bool x.txn.null, .string x.txn.s, .int .i16 x.acks, .int .i32 x.wait, .slice A0 x.topics.length c0] := ⟨[.bool x.txn.null, .string x.txn.s], [.int .i16 x.acks, .int .i32 x.wait, .slice A0 x.topics.length c0], rfl, (kName_mkK w x.txn), ⟨[.int .i16 x.acks], [.int .i32 x.wait, .slice A0 x.topics.length c0], rfl, rfl, ⟨[.int .i32 x.wait], [.slice A0 x.topics.length c0], rfl, rfl, ⟨_, _, rfl, l0, g0⟩⟩⟩⟩

structure ProdRep where
  topics : List ProdGone
  throttle : Int
def kProdRep : Kd ProdRep := Kd.iso (Kd.pair (Kd.slice 162 kProdGone) (Kd.int .i32)) (fun x => (x.topics, x.throttle))
theorem kProdRep_openM {w : World} {base : Nat} {ok : Nat → Prop} {x : ProdRep} {cs : List Value} (h : kProdRep.M w base ok x cs) : ∃ (A0 : Option Addr) (c0 : Nat), cs = [.slice A0 x.topics.length c0, .int .i32 x.throttle] ∧ kProdGone.R 162 w base ok (.slice A0 x.topics.length c0) x.topics := by
  obtain ⟨_, _, rfl, ⟨v0, rfl, g0⟩, rfl⟩ := h
  obtain ⟨A0, c0, rfl⟩ := Kd.R_slice g0
  exact ⟨A0, c0, rfl, g0⟩
theorem kProdRep_mkM (w : World) (base : Nat) (ok : Nat → Prop) (x : ProdRep) {A0 : Option Addr} {c0 : Nat} (g0 : kProdGone.R 162 w base ok (.slice A0 x.topics.length c0) x.topics) : kProdRep.M w base ok x [.slice A0 x.topics.length c0, .int .i32 x.throttle] := ⟨[.slice A0 x.topics.length c0], [.int .i32 x.throttle], rfl, ⟨_, rfl, g0⟩, rfl⟩
theorem kProdRep_openK {w : World} {x : ProdRep} {cs : List Value} (h : kProdRep.K w x cs) : ∃ (A0 : Option Addr) (c0 : Nat), cs = [.slice A0 x.topics.length c0, .int .i32 x.throttle] ∧ x.topics.length ≤ c0 ∧ kProdGone.C w A0 x.topics.length x.topics := by
  obtain ⟨_, _, rfl, ⟨A0, c0, rfl, l0, g0⟩, rfl⟩ := h
  exact ⟨A0, c0, rfl, l0, g0⟩
theorem kProdRep_mkK (w : World) (x : ProdRep) {A0 : Option Addr} {c0 : Nat} (l0 : x.topics.length ≤ c0) (g0 : kProdGone.C w A0 x.topics.length x.topics) : kProdRep.K w x [.slice A0 x.topics.length c0, .int .i32 x.throttle] := ⟨[.slice A0 x.topics.length c0], [.int .i32 x.throttle], rfl, ⟨_, _, rfl, l0, g0⟩, rfl⟩

structure FetchReq where
  replica : Int
  wait : Int
  min : Int
  max : Int
  level : Int
  topics : List FetchTopic
def kFetchReq : Kd FetchReq := Kd.iso (Kd.pair (Kd.int .i32) (Kd.pair (Kd.int .i32) (Kd.pair (Kd.int .i32) (Kd.pair (Kd.int .i32) (Kd.pair (Kd.int .i8) (Kd.slice 209 kFetchTopic)))))) (fun x => (x.replica, x.wait, x.min, x.max, x.level, x.topics))
theorem kFetchReq_openM {w : World} {base : Nat} {ok : Nat → Prop} {x : FetchReq} {cs : List Value} (h : kFetchReq.M w base ok x cs) : ∃ (A0 : Option Addr) (c0 : Nat), cs = [.int .i32 x.replica, .int .i32 x.wait, .int .i32 x.min, .int .i32 x.max, .int .i8 x.level, .slice A0 x.topics.length c0] ∧ kFetchTopic.R 209 w base ok (.slice A0 x.topics.length c0) x.topics := by
  obtain ⟨_, _, rfl, rfl, ⟨_, _, rfl, rfl, ⟨_, _, rfl, rfl, ⟨_, _, rfl, rfl, ⟨_, _, rfl, rfl, ⟨v0, rfl, g0⟩⟩⟩⟩⟩⟩ := h
  obtain ⟨A0, c0, rfl⟩ := Kd.R_slice g0
  exact ⟨A0, c0, rfl, g0⟩
theorem kFetchReq_mkM (w : World) (base : Nat) (ok : Nat → Prop) (x : FetchReq) {A0 : Option Addr} {c0 : Nat} (g0 : kFetchTopic.R 209 w base ok (.slice A0 x.topics.length c0) x.topics) : kFetchReq.M w base ok x [.int .i32 x.replica, .int .i32 x.wait, .int .i32 x.min, .int .i32 x.max, .int .i8 x.level, .slice A0 x.topics.length c0] := ⟨[.int .i32 x.replica], [.int .i32 x.wait, .int .i32 x.min, .int .i32 x.max, .int .i8 x.level, .slice A0 x.topics.length c0], rfl, rfl, ⟨[.int .i32 x.wait], [.int .i32 x.min, .int .i32 x.max, .int .i8 x.level, .slice A0 x.topics.length c0], rfl, rfl, ⟨[.int .i32 x.min], [.int .i32 x.max, .int .i8 x.level, .slice A0 x.topics.length c0], rfl, rfl, ⟨[.int .i32 x.max], [.int .i8 x.level, .slice A0 x.topics.length c0], rfl, rfl, ⟨[.int .i8 x.level], [.slice A0 x.topics.length c0], rfl, rfl, ⟨_, rfl, g0⟩⟩⟩⟩⟩⟩
theorem kFetchReq_openK {w : World} {x : FetchReq} {cs : List Value} (h : kFetchReq.K w x cs) : ∃ (A0 : Option Addr) (c0 : Nat), cs = [.int .i32 x.replica, .int .i32 x.wait, .int .i32 x.min, .int .i32 x.max, .int .i8 x.level, .slice A0 x.topics.length c0] ∧ x.topics.length ≤ c0 ∧ kFetchTopic.C w A0 x.topics.length x.topics := by
  obtain ⟨_, _, rfl, rfl, ⟨_, _, rfl, rfl, ⟨_, _, rfl, rfl, ⟨_, _, rfl, rfl, ⟨_, _, rfl, rfl, ⟨A0, c0, rfl, l0, g0⟩⟩⟩⟩⟩⟩ := h
  exact ⟨A0, c0, rfl, l0, g0⟩
theorem kFetchReq_mkK (w : World) (x : FetchReq) {A0 : Option Addr} {c0 : Nat} (l0 : x.topics.length ≤ c0) (g0 : kFetchTopic.C w A0 x.topics.length x.topics) : kFetchReq.K w x [.int .i32 x.replica, .int .i32 x.wait, .int .i32 x.min, .int .i32 x.max, .int .i8 x.level, .slice A0 x.topics.length c0] := ⟨[.int .i32 x.replica], [.int .i32 x.wait, .int .i32 x.min, .int .i32 x.max, .int .i8 x.level, .slice A0 x.topics.length c0], rfl, rfl, ⟨[.int .i32 x.wait], [.int .i32 x.min, .int .i32 x.max, .int .i8 x.level, .slice A0 x.topics.length c0], rfl, rfl, ⟨[.int .i32 x.min], [.int .i32 x.max, .int .i8 x.level, .slice A0 x.topics.length c0], rfl, rfl, ⟨[.int .i32 x.max], [.int .i8 x.level, .slice A0 x.topics.length c0], rfl, rfl, ⟨[.int .i8 x.level], [.slice A0 x.topics.length c0], rfl, rfl, ⟨_, _, rfl, l0, g0⟩⟩⟩⟩⟩⟩

structure FetchRep where
  throttle : Int
  topics : List FetchGone
def kFetchRep : Kd FetchRep := Kd.iso (Kd.pair (Kd.int .i32) (Kd.slice 222 kFetchGone)) (fun x => (x.throttle, x.topics))
theorem kFetchRep_openM {w : World} {base : Nat} {ok : Nat → Prop} {x : FetchRep} {cs : List Value} (h : kFetchRep.M w base ok x cs) : ∃ (A0 : Option Addr) (c0 : Nat), cs = [.int .i32 x.throttle, .slice A0 x.topics.length c0] ∧ kFetchGone.R 222 w base ok (.slice A0 x.topics.length c0) x.topics := by
  obtain ⟨_, _, rfl, rfl, ⟨v0, rfl, g0⟩⟩ := h
  obtain ⟨A0, c0, rfl⟩ := Kd.R_slice g0
  exact ⟨A0, c0, rfl, g0⟩
theorem kFetchRep_mkM (w : World) (base : Nat) (ok : Nat → Prop) (x : FetchRep) {A0 : Option Addr} {c0 : Nat} (g0 : kFetchGone.R 222 w base ok (.slice A0 x.topics.length c0) x.topics) : kFetchRep.M w base ok x [.int .i32 x.throttle, .slice A0 x.topics.length c0] := ⟨[.int .i32 x.throttle], [.slice A0 x.topics.length c0], rfl, rfl, ⟨_, rfl, g0⟩⟩
theorem kFetchRep_openK {w : World} {x : FetchRep} {cs : List Value} (h : kFetchRep.K w x cs) : ∃ (A0 : Option Addr) (c0 : Nat), cs = [.int .i32 x.throttle, .slice A0 x.topics.length c0] ∧ x.topics.length ≤ c0 ∧ kFetchGone.C w A0 x.topics.length x.topics := by
  obtain ⟨_, _, rfl, rfl, ⟨A0, c0, rfl, l0, g0⟩⟩ := h
  exact ⟨A0, c0, rfl, l0, g0⟩
theorem kFetchRep_mkK (w : World) (x : FetchRep) {A0 : Option Addr} {c0 : Nat} (l0 : x.topics.length ≤ c0) (g0 : kFetchGone.C w A0 x.topics.length x.topics) : kFetchRep.K w x [.int .i32 x.throttle, .slice A0 x.topics.length c0] := ⟨[.int .i32 x.throttle], [.slice A0 x.topics.length c0], rfl, rfl, ⟨_, _, rfl, l0, g0⟩⟩

structure ListReq where
  replica : Int
  level : Int
  topics : List ListTopic
def kListReq : Kd ListReq := Kd.iso (Kd.pair (Kd.int .i32) (Kd.pair (Kd.int .i8) (Kd.slice 178 kListTopic))) (fun x => (x.replica, x.level, x.topics))
theorem kListReq_openM {w : World} {base : Nat} {ok : Nat → Prop} {x : ListReq} {cs : List Value} (h : kListReq.M w base ok x cs) : ∃ (A0 : Option Addr) (c0 : Nat), cs = [.int .i32 x.replica, .int .i8 x.level, .slice A0 x.topics.length c0] ∧ kListTopic.R 178 w base ok (.slice A0 x.topics.length c0) x.topics := by
  obtain ⟨_, _, rfl, rfl, ⟨_, _, rfl, rfl, ⟨v0, rfl, g0⟩⟩⟩ := h
  obtain ⟨A0, c0, rfl⟩ := Kd.R_slice g0
  exact ⟨A0, c0, rfl, g0⟩
theorem kListReq_mkM (w : World) (base : Nat) (ok : Nat → Prop) (x : ListReq) {A0 : Option Addr} {c0 : Nat} (g0 : kListTopic.R 178 w base ok (.slice A0 x.topics.length c0) x.topics) : kListReq.M w base ok x [.int .i32 x.replica, .int .i8 x.level, .slice A0 x.topics.length c0] := ⟨[.int .i32 x.replica], [.int .i8 x.level, .slice A0 x.topics.length c0], rfl, rfl, ⟨[.int .i8 x.level], [.slice A0 x.topics.length c0], rfl, rfl, ⟨_, rfl, g0⟩⟩⟩
theorem kListReq_openK {w : World} {x : ListReq} {cs : List Value} (h : kListReq.K w x cs) : ∃ (A0 : Option Addr) (c0 : Nat), cs = [.int .i32 x.replica, .int .i8 x.level, .slice A0 x.topics.length c0] ∧ x.topics.length ≤ c0 ∧ kListTopic.C w A0 x.topics.length x.topics := by
  obtain ⟨_, _, rfl, rfl, ⟨_, _, rfl, rfl, ⟨A0, c0, rfl, l0, g0⟩⟩⟩ := h
  exact ⟨A0, c0, rfl, l0, g0⟩
theorem kListReq_mkK (w : World) (x : ListReq) {A0 : Option Addr} {c0 : Nat} (l0 : x.topics.length ≤ c0) (g0 : kListTopic.C w A0 x.topics.length x.topics) : kListReq.K w x [.int .i32 x.replica, .int .i8 x.level, .slice A0 x.topics.length c0] := ⟨[.int .i32 x.replica], [.int .i8 x.level, .slice A0 x.topics.length c0], rfl, rfl, ⟨[.int .i8 x.level], [.slice A0 x.topics.length c0], rfl, rfl, ⟨_, _, rfl, l0, g0⟩⟩⟩

structure ListRep where
  throttle : Int
  topics : List ListGone
def kListRep : Kd ListRep := Kd.iso (Kd.pair (Kd.int .i32) (Kd.slice 192 kListGone)) (fun x => (x.throttle, x.topics))
theorem kListRep_openM {w : World} {base : Nat} {ok : Nat → Prop} {x : ListRep} {cs : List Value} (h : kListRep.M w base ok x cs) : ∃ (A0 : Option Addr) (c0 : Nat), cs = [.int .i32 x.throttle, .slice A0 x.topics.length c0] ∧ kListGone.R 192 w base ok (.slice A0 x.topics.length c0) x.topics := by
  obtain ⟨_, _, rfl, rfl, ⟨v0, rfl, g0⟩⟩ := h
  obtain ⟨A0, c0, rfl⟩ := Kd.R_slice g0
  exact ⟨A0, c0, rfl, g0⟩
theorem kListRep_mkM (w : World) (base : Nat) (ok : Nat → Prop) (x : ListRep) {A0 : Option Addr} {c0 : Nat} (g0 : kListGone.R 192 w base ok (.slice A0 x.topics.length c0) x.topics) : kListRep.M w base ok x [.int .i32 x.throttle, .slice A0 x.topics.length c0] := ⟨[.int .i32 x.throttle], [.slice A0 x.topics.length c0], rfl, rfl, ⟨_, rfl, g0⟩⟩
theorem kListRep_openK {w : World} {x : ListRep} {cs : List Value} (h : kListRep.K w x cs) : ∃ (A0 : Option Addr) (c0 : Nat), cs = [.int .i32 x.throttle, .slice A0 x.topics.length c0] ∧ x.topics.length ≤ c0 ∧ kListGone.C w A0 x.topics.length x.topics := by
  obtain ⟨_, _, rfl, rfl, ⟨A0, c0, rfl, l0, g0⟩⟩ := h
  exact ⟨A0, c0, rfl, l0, g0⟩
theorem kListRep_mkK (w : World) (x : ListRep) {A0 : Option Addr} {c0 : Nat} (l0 : x.topics.length ≤ c0) (g0 : kListGone.C w A0 x.topics.length x.topics) : kListRep.K w x [.int .i32 x.throttle, .slice A0 x.topics.length c0] := ⟨[.int .i32 x.throttle], [.slice A0 x.topics.length c0], rfl, rfl, ⟨_, _, rfl, l0, g0⟩⟩

end Go.Proofs.YteckmgmcfngddaaGreat
end
