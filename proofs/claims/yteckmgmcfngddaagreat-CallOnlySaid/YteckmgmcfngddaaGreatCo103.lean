/- A part of a proof. Proved: Rows.CallOnlySaid: for every byte slice the law leatlaw16.CallOnly returns true, and the slice reads afterwards as it read before. No condition but the row's own reach. -/
import Derived.Test.YteckmgmcfngddaaGreatCo102
import Derived.StillTailTactics
section
/- Blocks whose cells are one letter: a struct of many cells goes in and out whole, and the walk never sees its cells. -/
set_option linter.unusedVariables false
set_option linter.unusedSimpArgs false
namespace Go.Proofs.YteckmgmcfngddaaGreat
open Go.RowKit Go.Proofs.YteckmgmcfngddaaGreatW.PrintWords

/-- Block g holds the cells cs, n of them. -/
structure Blk (w : World) (g : Nat) (t : TypeId) (n : Nat) (cs : List Value) : Prop where
  heap : w.heap[g]? = some (.cells cs.toArray t (0, 0))
  len : cs.length = n
  one : ∀ v ∈ cs, v.oneCell' = true
section
variable {w w1 : World} {g : Nat} {t : TypeId} {n : Nat} {cs : List Value}
theorem Blk.cell (h : Blk w g t n cs) {i : Nat} {v : Value} (hv : cs[i]? = some v) : w.cell? ⟨g, i, none⟩ = some v := by rw [blk_cell h.heap]; simpa using hv
theorem Blk.frozen (h : Blk w g t n cs) (i : Nat) : w.frozen? ⟨g, i, none⟩ = false := blk_frozen h.heap i
theorem Blk.range (h : Blk w g t n cs) : w.rangeAt g 0 cs := fun j v hv => by rw [Nat.zero_add]; exact h.cell hv
theorem Blk.there (h : Blk w g t n cs) : w.there g 0 n := fun j hj => ⟨by rw [Nat.zero_add, blk_cell h.heap]; simp [h.len, hj], h.frozen _⟩
theorem Blk.mod {S : Nat → Prop} (h : Blk w g t n cs) (m : Mod S w w1) (hg : ¬ S g) : Blk w1 g t n cs := ⟨blk_mod h.heap m hg, h.len, h.one⟩
theorem Blk.below (h : Blk w g t n cs) (hb : Below w.heap.size w w1) : Blk w1 g t n cs := h.mod (S := fun _ => False) (Mod.of_below hb) id
theorem Blk.lt (h : Blk w g t n cs) : g < w.heap.size := blk_lt h.heap
theorem Blk.set (h : Blk w g t n cs) (i : Nat) (u : Value) (hu : u.oneCell' = true) : Blk (w.setCell ⟨g, i, none⟩ u) g t n (cs.set i u) :=
  ⟨by have := blk_set h.heap i u; simpa using this, by simpa using h.len, fun v hv => (List.mem_or_eq_of_mem_set hv).elim (h.one v) (fun e => e ▸ hu)⟩
end

theorem putAt_size : ∀ (vs : List Value) (o : Nat) (cs : Array Value), (putAt cs o vs).size = cs.size
  | [], _, _ => rfl
  | v :: r, o, cs => by rw [putAt, putAt_size]; simp
theorem putAt_one : ∀ (vs : List Value) (o : Nat) (cs : Array Value), (∀ v ∈ cs.toList, v.oneCell' = true) → (∀ v ∈ vs, v.oneCell' = true) → ∀ v ∈ (putAt cs o vs).toList, v.oneCell' = true
  | [], _, _, h, _ => h
  | u :: r, o, cs, h, h1 => by
    refine putAt_one r (o + 1) _ ?_ (fun v hv => h1 v (by simp [hv]))
    intro v hv
    rw [Array.toList_setIfInBounds] at hv
    exact (List.mem_or_eq_of_mem_set hv).elim (h v) (fun e => e ▸ h1 u (by simp))
theorem putAt_list : ∀ (vs : List Value) (o : Nat) (cs : Array Value), cs.size = o + vs.length → (putAt cs o vs).toList = cs.toList.take o ++ vs
  | [], o, cs, h => by simp [putAt]; rw [List.take_of_length_le (by simp at h; simp; omega)]
  | v :: r, o, cs, h => by
    rw [putAt, putAt_list r (o + 1) (cs.setIfInBounds o v) (by simp at h ⊢; omega)]
    have ho : o < cs.toList.length := by simp at h ⊢; omega
    rw [Array.toList_setIfInBounds, List.take_succ_eq_append_getElem (by simpa using ho)]
    simp [List.take_set_of_le]
/-- The list laid into the cells from o on. -/
def putL (cs : List Value) (o : Nat) (vs : List Value) : List Value := (putAt cs.toArray o vs).toList
theorem Blk.setCells {w : World} {g : Nat} {t : TypeId} {n : Nat} {cs : List Value} (h : Blk w g t n cs) (o : Nat) (vs : List Value) (h1 : ∀ v ∈ vs, v.oneCell' = true) : Blk (w.setCells g o vs) g t n (putL cs o vs) :=
  ⟨by have := blk_setCells vs o h.heap; simpa [putL] using this, by rw [putL, Array.length_toList, putAt_size]; simpa using h.len, putAt_one vs o _ (by simpa using h.one) h1⟩
theorem putL_whole {cs vs : List Value} (h : vs.length = cs.length) : putL cs 0 vs = vs := by unfold putL; rw [putAt_list _ _ _ (by simp; omega)]; simp

section
variable {P : Program} {ops : Array Oper} {rest : List Oper} {o : Oper} {a : Act} {Q : Exit → Act → World → Prop}
/-- One cell goes into a block. -/
theorem bcell_event {W : World} (hgd : o.guard = none) (ty : TypeId) (x : Nat) (y : Operand) (ho : o.op = .store ty (.tmp x) y) (hd : o.dst = none) (g i : Nat) (n : Nat) (cs : List Value) (t : TypeId) (u : Value)
    (hx : a.eval (.tmp x) = .pointer (some ⟨g, i, none⟩)) (hb : Blk W g t n cs) (hi : i < n) (hu : u.oneCell' = true)
    (hrun : (∃ v, W.cell? ⟨g, i, none⟩ = some v) → W.frozen? ⟨g, i, none⟩ = false → (execOp a.eval o).run P W = .ok .skip (W.setCell ⟨g, i, none⟩ u))
    (h : ∀ w1 cs1, Hid (cs1 = cs.set i u) → Blk w1 g t n cs1 → Mod (· = g) W w1 → wpList P ops Q rest a w1) : wpList P ops Q (o :: rest) a W := by
  have hr := hrun ⟨cs[i]'(by rw [hb.len]; exact hi), by rw [blk_cell hb.heap]; simp [hb.len, hi]⟩ (hb.frozen i)
  refine wpList_plain hgd fun K hK => ?_
  unfold Oper.wp
  rw [hr]
  show K (a.put o.dst undef) _
  rw [hd]
  exact hK _ _ (h _ _ (Lib.hid rfl) (hb.set i u hu) (Mod.setCell (S := fun x => x = g) (p := ⟨g, i, none⟩) (Mod.refl _ _) (fun _ => rfl) u))
/-- A whole value goes into the midst of a block. -/
theorem bmid_event {W : World} (hgd : o.guard = none) (ty : TypeId) (x y : Operand) (ho : o.op = .store ty x y) (hd : o.dst = none) (g off : Nat) (n m : Nat) (cs vs : List Value) (t : TypeId)
    (hx : a.eval x = .pointer (some ⟨g, off, none⟩)) (hy : a.eval y = .agg vs.toArray) (hb : Blk W g t n cs) (hm : vs.length = m) (hle : off + m ≤ n)
    (hi : (P.info? ty).map (·.size) = some m) (h1 : ∀ v ∈ vs, v.oneCell' = true)
    (h : ∀ w1 cs1, Hid (cs1 = putL cs off vs) → Blk w1 g t n cs1 → Mod (· = g) W w1 → wpList P ops Q rest a w1) : wpList P ops Q (o :: rest) a W := by
  refine wpList_store_mid hgd ty x y ho g off vs.toArray hx hy (fun j hj => ?_) (by rw [hi]; simp [hm]) (all_oneCell_toArray h1) ?_
  · refine ⟨?_, hb.frozen _⟩
    rw [blk_cell hb.heap]
    simp [hb.len]
    simp at hj
    omega
  · rw [hd]
    exact h _ _ (Lib.hid rfl) (hb.setCells off vs h1) (mod_setCells _ _ _ _)
/-- A whole value goes into a block of its size. -/
theorem bfull_event {W : World} (hgd : o.guard = none) (ty : TypeId) (x y : Operand) (ho : o.op = .store ty x y) (hd : o.dst = none) (g : Nat) (n : Nat) (cs vs : List Value) (t : TypeId)
    (hx : a.eval x = .pointer (some ⟨g, 0, none⟩)) (hy : a.eval y = .agg vs.toArray) (hb : Blk W g t n cs) (hm : vs.length = n)
    (hi : (P.info? ty).map (·.size) = some n) (h1 : ∀ v ∈ vs, v.oneCell' = true)
    (h : ∀ w1, Blk w1 g t n vs → Mod (· = g) W w1 → wpList P ops Q rest a w1) : wpList P ops Q (o :: rest) a W :=
  bmid_event hgd ty x y ho hd g 0 n n cs vs t hx hy hb hm (by omega) hi h1 (fun w1 cs1 e k m => by
    have e := e.out
    rw [putL_whole (by rw [hm, hb.len])] at e
    subst e
    exact h w1 k m)
/-- A whole value comes out of a block. -/
theorem bload_event {W : World} (hgd : o.guard = none) (ty : TypeId) (x : Operand) (ho : o.op = .load ty x) (g : Nat) (n : Nat) (cs : List Value) (t : TypeId) (d : TypeDesc)
    (hx : a.eval x = .pointer (some ⟨g, 0, none⟩)) (hb : Blk W g t n cs) (hu : P.underlying ty = some d) (hr : d.isRow = true) (hi : (P.info? ty).map (·.size) = some n)
    (h : wpList P ops Q rest (a.put o.dst (.agg cs.toArray)) W) : wpList P ops Q (o :: rest) a W :=
  wpList_load_mid hgd ty x ho g 0 hx cs d hb.range hu hr (by rw [hi, hb.len]) h
/-- A part of a block comes out whole. -/
theorem bpart_event {W : World} (hgd : o.guard = none) (ty : TypeId) (x : Operand) (ho : o.op = .load ty x) (g off : Nat) (n m : Nat) (cs vs : List Value) (t : TypeId) (d : TypeDesc)
    (hx : a.eval x = .pointer (some ⟨g, off, none⟩)) (hb : Blk W g t n cs) (hv : vs = (cs.drop off).take m) (hm : vs.length = m) (hu : P.underlying ty = some d) (hr : d.isRow = true) (hi : (P.info? ty).map (·.size) = some m)
    (h : wpList P ops Q rest (a.put o.dst (.agg vs.toArray)) W) : wpList P ops Q (o :: rest) a W :=
  wpList_load_mid hgd ty x ho g off hx vs d (fun j v hj => hb.cell (by rw [hv] at hj; have hj' := hj; rw [List.getElem?_take] at hj'; split at hj' <;> simp_all)) hu hr (by rw [hi, hm]) h
/-- In a region that draws its order: a whole value comes out of a block, in the head of what is read. -/
theorem bstill_load {W : World} {Qs : Act → Prop} (hgd : o.guard = none) (ty : TypeId) (x : Operand) (ho : o.op = .load ty x) (g : Nat) (n : Nat) (cs : List Value) (t : TypeId) (d : TypeDesc)
    (hx : a.eval x = .pointer (some ⟨g, 0, none⟩)) (hb : Blk W g t n cs) (hu : P.underlying ty = some d) (hr : d.isRow = true) (hi : (P.info? ty).map (·.size) = some n)
    (h : wpStill P ops W Qs rest (a.put o.dst (.agg cs.toArray))) : wpStill P ops W Qs (o :: rest) a := by
  unfold wpStill
  rw [if_pos (by simp [Region.wanted, hgd])]
  unfold Oper.still execOp
  simp only [ho, hx, Instr.loadAt, Instr.sureAddr, Sem.run_bind, Sem.run_pure, Result.andThen_ok, run_loadVar_mid W g 0 ty cs d hb.range hu hr (by rw [hi, hb.len])]
  exact ⟨rfl, h⟩
end
/-- The results where the first lies in a block, the second in a slot. -/
theorem results_blk {P : Program} {fn : Func} {tmps : Array Value} {w : World} {x y : Tmp} {ty : TypeId} {g : Nat} {n : Nat} {cs : List Value} {t : TypeId} {d : TypeDesc} {v : Value} (hr : fn.results = #[.cell x ty, .tmp y]) (hx : tmps.getD x undef = .pointer (some ⟨g, 0, none⟩))
    (hb : Blk w g t n cs) (hu : P.underlying ty = some d) (hd : d.isRow = true) (hi : (P.info? ty).map (·.size) = some n) (hy : tmps.getD y undef = v) : (results fn tmps).run P w = .ok (.tuple #[.agg cs.toArray, v]) w := by
  have hl : (loadVar ty ⟨g, 0, none⟩).run P w = .ok (.agg cs.toArray) w := run_loadVar_mid (P := P) w g 0 ty cs d hb.range hu hd (by rw [hi, hb.len])
  have hx' : tmps[x]?.getD undef = .pointer (some ⟨g, 0, none⟩) := by simpa using hx
  have hy' : tmps[y]?.getD undef = v := by simpa using hy
  simp [results, hr, hx', hl, hy', asAddr, Sem.run_bind]
theorem results_blk1 {P : Program} {fn : Func} {tmps : Array Value} {w : World} {x : Tmp} {ty : TypeId} {g : Nat} {n : Nat} {cs : List Value} {t : TypeId} {d : TypeDesc} (hr : fn.results = #[.cell x ty]) (hx : tmps.getD x undef = .pointer (some ⟨g, 0, none⟩))
    (hb : Blk w g t n cs) (hu : P.underlying ty = some d) (hd : d.isRow = true) (hi : (P.info? ty).map (·.size) = some n) : (results fn tmps).run P w = .ok (.agg cs.toArray) w := by
  have hl : (loadVar ty ⟨g, 0, none⟩).run P w = .ok (.agg cs.toArray) w := run_loadVar_mid (P := P) w g 0 ty cs d hb.range hu hd (by rw [hi, hb.len])
  have hx' : tmps[x]?.getD undef = .pointer (some ⟨g, 0, none⟩) := by simpa using hx
  simp [results, hr, hx', hl, asAddr, Sem.run_bind]
theorem RdAt.modAt {w w1 : World} {g : Nat} {rv : Value} {b : List Int} {pos : Nat} (h : RdAt w g rv b pos) {k : Nat} {cs : Array Value} {t : TypeId} (hk : w.heap[k]? = some (.cells cs t (0, 0))) (h2 : t ≠ 288) (h3 : t ≠ 5) (m : Mod (· = k) w w1) : RdAt w1 g rv b pos :=
  h.mod m (blk_ne h.1 hk h2.symm) (fun q hq e => by subst e; exact own_ne h.2.1 hk h3.symm hq.symm)
theorem modFresh {S : Nat → Prop} {w w1 w2 : World} {k : Nat} (h : Mod S w w1) (m : Mod (· = k) w1 w2) (hk : w.heap.size ≤ k) : Mod S w w2 :=
  ⟨m.os.trans h.os, m.tape.trans h.tape, m.output.trans h.output, Nat.le_trans h.size m.size, fun i hi hn => (m.block i (Nat.lt_of_lt_of_le hi h.size) (fun e => by subst e; omega)).trans (h.block i hi hn)⟩
theorem belowFresh {w w1 w2 : World} {k : Nat} (h : Below w.heap.size w w1) (m : Mod (· = k) w1 w2) (hk : w.heap.size ≤ k) : Below w.heap.size w w2 :=
  Below.mod h h.size m (fun i hi e => by subst e; omega)
theorem info_Call : (Tryz.prog.info? 79).map (·.size) = some 19 := by kernel_rfl
theorem info_Name : (Tryz.prog.info? 30).map (·.size) = some 2 := by kernel_rfl

end Go.Proofs.YteckmgmcfngddaaGreat
end

section
/- The layer of calls: the head of a call is read. -/
set_option linter.unusedVariables false
set_option linter.unusedSimpArgs false
namespace Go.Proofs.YteckmgmcfngddaaGreat
open Go.RowKit Go.Proofs.YteckmgmcfngddaaGreatW.PrintWords

def headCells (key ver corr : Int) (n : Name) : List Value := [.int .i16 key, .int .i16 ver, .int .i32 corr, .bool n.null, .string n.s, .bool false, .string ⟨#[]⟩, .int .i16 0, .int .i32 0, .slice none 0 0, .int .i32 0, .int .i32 0, .int .i32 0, .int .i32 0, .int .i8 0, .slice none 0 0, .int .i32 0, .int .i8 0, .slice none 0 0]
structure Beg where
  key : Int
  ver : Int
  corr : Int
  cl : Name
  d : DS
def callBegin (d : DS) : Beg :=
  if d.i16.2.e ≠ 0 then ⟨d.i16.1, 0, 0, zName, d.i16.2⟩
  else if d.i16.2.i16.2.e ≠ 0 then ⟨d.i16.1, d.i16.2.i16.1, 0, zName, d.i16.2.i16.2⟩
  else if d.i16.2.i16.2.i32.2.e ≠ 0 then ⟨d.i16.1, d.i16.2.i16.1, d.i16.2.i16.2.i32.1, zName, d.i16.2.i16.2.i32.2⟩
  else if (callName d.i16.2.i16.2.i32.2).2.e ≠ 0 then ⟨d.i16.1, d.i16.2.i16.1, d.i16.2.i16.2.i32.1, (callName d.i16.2.i16.2.i32.2).1, (callName d.i16.2.i16.2.i32.2).2⟩
  else ⟨d.i16.1, d.i16.2.i16.1, d.i16.2.i16.2.i32.1, (callName d.i16.2.i16.2.i32.2).1, { (callName d.i16.2.i16.2.i32.2).2 with e := headF d.i16.1 d.i16.2.i16.1 }⟩
theorem callBegin1 {d : DS} (h : d.i16.2.e ≠ 0) : callBegin d = ⟨d.i16.1, 0, 0, zName, d.i16.2⟩ := if_pos h
theorem callBegin2 {d : DS} (h : d.i16.2.e = 0) (h1 : d.i16.2.i16.2.e ≠ 0) : callBegin d = ⟨d.i16.1, d.i16.2.i16.1, 0, zName, d.i16.2.i16.2⟩ := by unfold callBegin; rw [if_neg (by simpa using h), if_pos h1]
theorem callBegin3 {d : DS} (h : d.i16.2.e = 0) (h1 : d.i16.2.i16.2.e = 0) (h2 : d.i16.2.i16.2.i32.2.e ≠ 0) : callBegin d = ⟨d.i16.1, d.i16.2.i16.1, d.i16.2.i16.2.i32.1, zName, d.i16.2.i16.2.i32.2⟩ := by unfold callBegin; rw [if_neg (by simpa using h), if_neg (by simpa using h1), if_pos h2]
theorem callBegin4 {d : DS} (h : d.i16.2.e = 0) (h1 : d.i16.2.i16.2.e = 0) (h2 : d.i16.2.i16.2.i32.2.e = 0) (h3 : (callName d.i16.2.i16.2.i32.2).2.e ≠ 0) : callBegin d = ⟨d.i16.1, d.i16.2.i16.1, d.i16.2.i16.2.i32.1, (callName d.i16.2.i16.2.i32.2).1, (callName d.i16.2.i16.2.i32.2).2⟩ := by unfold callBegin; rw [if_neg (by simpa using h), if_neg (by simpa using h1), if_neg (by simpa using h2), if_pos h3]
theorem callBegin5 {d : DS} (h : d.i16.2.e = 0) (h1 : d.i16.2.i16.2.e = 0) (h2 : d.i16.2.i16.2.i32.2.e = 0) (h3 : (callName d.i16.2.i16.2.i32.2).2.e = 0) : callBegin d = ⟨d.i16.1, d.i16.2.i16.1, d.i16.2.i16.2.i32.1, (callName d.i16.2.i16.2.i32.2).1, { (callName d.i16.2.i16.2.i32.2).2 with e := headF d.i16.1 d.i16.2.i16.1 }⟩ := by unfold callBegin; rw [if_neg (by simpa using h), if_neg (by simpa using h1), if_neg (by simpa using h2), if_neg (by simpa using h3)]
def BegPost (g : Nat) (rv : Value) (r : Beg) (w : World) (e : Ending) (w' : World) : Prop :=
  e = .returned (.tuple #[.agg (headCells r.key r.ver r.corr r.cl).toArray, .int .i64 r.d.e]) ∧ RdAt w' g rv r.d.b r.d.pos ∧ Mod (· = g) w w'
theorem BegPost.of {g : Nat} {rv : Value} {r : Beg} {w w' : World} {cs : List Value} {c : Int} {pb : List Int} {pp : Nat} (hr : Hid (r.d.b = pb ∧ r.d.pos = pp ∧ r.d.e = c)) (hc : Hid (cs = headCells r.key r.ver r.corr r.cl)) (hR : RdAt w' g rv pb pp) (hm : Mod (· = g) w w') : BegPost g rv r w (.returned (.tuple #[.agg cs.toArray, .int .i64 c])) w' := by
  obtain ⟨e1, e2, e3⟩ := hr.out
  subst e1 e2 e3
  have := hc.out
  subst this
  exact ⟨rfl, hR, hm⟩
theorem begKeep {w : World} {g : Nat} {cs : List Value} {k v : Value} (hl : cs.length = 19) (h : w.rangeAt g 0 cs ∧ w.there g 0 19 ∧ w.cell? ⟨g, 0, none⟩ = some k ∧ w.cell? ⟨g, 1, none⟩ = some v) : (w.setCells g 0 cs).rangeAt g 0 cs ∧ (w.setCells g 0 cs).there g 0 19 ∧ (w.setCells g 0 cs).cell? ⟨g, 0, none⟩ = some k ∧ (w.setCells g 0 cs).cell? ⟨g, 1, none⟩ = some v := by
  obtain ⟨h1, h2, h3, h4⟩ := h
  have hr := World.rangeAt_setCells_same w g 0 cs (by rw [hl]; exact h2)
  refine ⟨hr, World.there_setCells h2 _ _ _, ?_, ?_⟩
  · have := h1 0 (cs[0]'(by omega)) (by simp)
    rw [h3] at this
    have e := hr 0 (cs[0]'(by omega)) (by simp)
    rw [e, ← this]
  · have := h1 1 (cs[1]'(by omega)) (by simp)
    rw [h4] at this
    have e := hr 1 (cs[1]'(by omega)) (by simp)
    rw [e, ← this]

set_option maxRecDepth 100000 in
set_option maxHeartbeats 3200000 in
theorem ca_begin (w : World) (g : Nat) (rv : Value) (d : DS) (h : RdAt w g rv d.b d.pos) (he : d.e = 0) :
    Calls Tryz.prog 157 #[.pointer (some ⟨g, 0, none⟩)] w (BegPost g rv (callBegin d) w) := by
  have H := Lib.hid h
  have E0 := Lib.hid he
  clear h he
  go_enter Tryz.func157, Tryz.ntmps157
  go_wp2_with (first
    | ((with_reducible refine gate_dst (N := 2) rfl ?_); refine box_event ?hg (N := 2) ?hd (cs := #[.int .i16 0, .int .i16 0, .int .i32 0, .bool false, .string ⟨#[]⟩, .bool false, .string ⟨#[]⟩, .int .i16 0, .int .i32 0, .slice none 0 0, .int .i32 0, .int .i32 0, .int .i32 0, .int .i32 0, .int .i8 0, .slice none 0 0, .int .i32 0, .int .i8 0, .slice none 0 0]) (t := 79) ?hr ?_; (case hd => rfl); (case hg => rfl); (case hr => first | (go_simp; done) | (go_simp; rfl)); intro gb hgb w1 kgb bgb; have hg : Blk w1 gb 79 19 (headCells 0 0 0 zName) := ⟨kgb, rfl, by simp [headCells, Value.oneCell']⟩; have HB := Lib.hid bgb; have HR := Lib.hid (H.out.grown bgb); have hgw := Lib.hid hgb; clear hgb kgb bgb)
    | fail)
  generalize hcs : headCells 0 0 0 zName = cs at *
  have Hcs := Lib.hid hcs.symm
  clear hcs
  have hng : gb ≠ g := (blk_ne HR.out.1 hg.heap (by decide)).symm
  have hsg : Hid (w.heap.size ≤ gb) := Lib.hid (Nat.le_of_eq hgw.out.symm)
  have M : Mod (· = g) w w1 := Mod.of_below HB.out
  have hR := HR
  clear HR
  refine (rs_i16 _ g rv d hR.out E0.out).mono ?_
  rintro e w2 ⟨rfl, h2, m2⟩
  have hg := hg.mod m2 hng
  have M := M.trans m2
  have hR := Lib.hid h2
  clear h2 m2
  by_cases e1 : d.i16.2.e = 0
  · have e1' : (d.i16.2.e != 0) = false := by simp [e1]
    have E1 := Lib.hid e1
    clear e1
    go_wp2_with (first
      | (refine bcell_event rfl 28 9 (.tmp 7) rfl rfl gb 0 19 cs 79 (.int .i16 d.i16.1) (by rfl) hg (by decide) rfl ?hr ?_; (case hr => intro hv hf; obtain ⟨v, hv⟩ := hv; go_simp; done); intro wk cs1 hc kk mk; have hR := Lib.hid (hR.out.modAt hg.heap (by decide) (by decide) mk); have M := modFresh M mk hsg.out; have hg := kk; have Hcs1 := Lib.hid (hc.out.trans (by rw [Hcs.out]; rfl) : cs1 = headCells d.i16.1 0 0 zName); clear hc mk kk)
      | fail)
    have Hcs := Hcs1
    clear Hcs1
    generalize cs1 = cs at *
    refine (rs_i16 _ g rv (d.i16.2) hR.out E1.out).mono ?_
    rintro e w3 ⟨rfl, h2, m2⟩
    have hg := hg.mod m2 hng
    have M := M.trans m2
    have hR := Lib.hid h2
    clear h2 m2
    by_cases e1 : d.i16.2.i16.2.e = 0
    · have e1' : (d.i16.2.i16.2.e != 0) = false := by simp [e1]
      have E2 := Lib.hid e1
      clear e1
      go_wp2_with (first
        | (refine bcell_event rfl 28 19 (.tmp 17) rfl rfl gb 1 19 cs 79 (.int .i16 d.i16.2.i16.1) (by rfl) hg (by decide) rfl ?hr ?_; (case hr => intro hv hf; obtain ⟨v, hv⟩ := hv; go_simp; done); intro wk cs2 hc kk mk; have hR := Lib.hid (hR.out.modAt hg.heap (by decide) (by decide) mk); have M := modFresh M mk hsg.out; have hg := kk; have Hcs2 := Lib.hid (hc.out.trans (by rw [Hcs.out]; rfl) : cs2 = headCells d.i16.1 d.i16.2.i16.1 0 zName); clear hc mk kk)
        | fail)
      have Hcs := Hcs2
      clear Hcs2
      generalize cs2 = cs at *
      refine (rs_i32 _ g rv (d.i16.2.i16.2) hR.out E2.out).mono ?_
      rintro e w4 ⟨rfl, h2, m2⟩
      have hg := hg.mod m2 hng
      have M := M.trans m2
      have hR := Lib.hid h2
      clear h2 m2
      by_cases e1 : d.i16.2.i16.2.i32.2.e = 0
      · have e1' : (d.i16.2.i16.2.i32.2.e != 0) = false := by simp [e1]
        have E3 := Lib.hid e1
        clear e1
        go_wp2_with (first
          | (refine bcell_event rfl 21 29 (.tmp 27) rfl rfl gb 2 19 cs 79 (.int .i32 d.i16.2.i16.2.i32.1) (by rfl) hg (by decide) rfl ?hr ?_; (case hr => intro hv hf; obtain ⟨v, hv⟩ := hv; go_simp; done); intro wk cs3 hc kk mk; have hR := Lib.hid (hR.out.modAt hg.heap (by decide) (by decide) mk); have M := modFresh M mk hsg.out; have hg := kk; have Hcs3 := Lib.hid (hc.out.trans (by rw [Hcs.out]; rfl) : cs3 = headCells d.i16.1 d.i16.2.i16.1 d.i16.2.i16.2.i32.1 zName); clear hc mk kk)
          | fail)
        have Hcs := Hcs3
        clear Hcs3
        generalize cs3 = cs at *
        refine (ca_name _ g rv (d.i16.2.i16.2.i32.2) hR.out E3.out).mono ?_
        rintro e w5 ⟨rfl, h2, m2⟩
        have hg := hg.mod m2 hng
        have M := M.trans m2
        have hR := Lib.hid h2
        clear h2 m2
        by_cases e1 : (callName d.i16.2.i16.2.i32.2).2.e = 0
        · have e1' : ((callName d.i16.2.i16.2.i32.2).2.e != 0) = false := by simp [e1]
          have HQ := Lib.hid (callBegin5 E1.out E2.out E3.out e1)
          clear e1
          go_wp2_with (first
            | (refine bmid_event rfl 30 (.tmp 39) (.tmp 37) rfl rfl gb 3 19 2 cs [.bool (callName d.i16.2.i16.2.i32.2).1.null, .string (callName d.i16.2.i16.2.i32.2).1.s] 79 (by rfl) (by rfl) hg rfl (by decide) info_Name (by simp [Value.oneCell']) ?_; intro wk cs4 hc kk mk; have hR := Lib.hid (hR.out.modAt hg.heap (by decide) (by decide) mk); have M := modFresh M mk hsg.out; have hg := kk; have Hcs4 := Lib.hid (hc.out.trans (by rw [Hcs.out]; rfl) : cs4 = headCells d.i16.1 d.i16.2.i16.1 d.i16.2.i16.2.i32.1 (callName d.i16.2.i16.2.i32.2).1); clear hc mk kk)
            | fail)
          have b0 := hg.cell (i := 0) (v := .int .i16 d.i16.1) (by rw [Hcs4.out]; rfl)
          have b1 := hg.cell (i := 1) (v := .int .i16 d.i16.2.i16.1) (by rw [Hcs4.out]; rfl)
          refine wp_region_still_tail 6 (by kernel_rfl) (by kernel_rfl) ?_
          simp only [List.take_succ_cons, List.take_zero, List.drop_succ_cons, List.drop_zero]
          refine bstill_load rfl 79 (.tmp 2) rfl gb 19 cs4 79 _ (by rfl) ⟨hg.heap, hg.len, hg.one⟩ Tryz.underlying79 rfl info_Call ?_
          still_step
          still_step
          still_step
          still_step
          still_call (ca_head _ d.i16.1 d.i16.2.i16.1)
          refine wpStill_nil ?_
          change wpList _ _ _ _ _ wk.drew
          have hR := Lib.hid (show RdAt wk.drew g rv _ _ from hR.out)
          have M := M.drew
          have hg : Blk wk.drew gb 79 19 cs4 := ⟨hg.heap, hg.len, hg.one⟩
          clear b0 b1
          go_wp2_with (first
            | ((with_reducible refine gate_dst (N := 44) rfl ?_); refine bload_event rfl 79 (.tmp 2) rfl gb 19 cs4 79 _ (by rfl) hg Tryz.underlying79 rfl info_Call ?_)
            | (refine bfull_event rfl 79 (.tmp 2) (.tmp 44) rfl rfl gb 19 cs4 cs4 79 (by rfl) (by rfl) hg hg.len info_Call hg.one ?_; intro wj kj mj; have hR := Lib.hid (hR.out.modAt hg.heap (by decide) (by decide) mj); have M := modFresh M mj hsg.out; have hg := kj; clear kj mj)
            | fail)
          refine bodyPost_ret (results_blk rfl (by rfl) hg Tryz.underlying79 rfl info_Call (by rfl) (v := .int .i64 (headF d.i16.1 d.i16.2.i16.1))) rfl ?_
          refine BegPost.of ?_ ?_ hR.out M
          · rw [HQ.out]; exact Lib.hid ⟨rfl, rfl, rfl⟩
          · rw [HQ.out]; exact Hcs4
        · have e1' : ((callName d.i16.2.i16.2.i32.2).2.e != 0) = true := by simp [e1]
          have HQ := Lib.hid (callBegin4 E1.out E2.out E3.out e1)
          clear e1
          go_wp2_with (first
            | (refine bmid_event rfl 30 (.tmp 39) (.tmp 37) rfl rfl gb 3 19 2 cs [.bool (callName d.i16.2.i16.2.i32.2).1.null, .string (callName d.i16.2.i16.2.i32.2).1.s] 79 (by rfl) (by rfl) hg rfl (by decide) info_Name (by simp [Value.oneCell']) ?_; intro wk cs4 hc kk mk; have hR := Lib.hid (hR.out.modAt hg.heap (by decide) (by decide) mk); have M := modFresh M mk hsg.out; have hg := kk; have Hcs4 := Lib.hid (hc.out.trans (by rw [Hcs.out]; rfl) : cs4 = headCells d.i16.1 d.i16.2.i16.1 d.i16.2.i16.2.i32.1 (callName d.i16.2.i16.2.i32.2).1); clear hc mk kk)
            | ((with_reducible refine gate_dst (N := 42) rfl ?_); refine bload_event rfl 79 (.tmp 2) rfl gb 19 cs4 79 _ (by rfl) hg Tryz.underlying79 rfl info_Call ?_)
            | (refine bfull_event rfl 79 (.tmp 2) (.tmp 42) rfl rfl gb 19 cs4 cs4 79 (by rfl) (by rfl) hg hg.len info_Call hg.one ?_; intro wj kj mj; have hR := Lib.hid (hR.out.modAt hg.heap (by decide) (by decide) mj); have M := modFresh M mj hsg.out; have hg := kj; clear kj mj)
            | fail)
          refine bodyPost_ret (results_blk rfl (by rfl) hg Tryz.underlying79 rfl info_Call (by rfl) (v := .int .i64 (callName d.i16.2.i16.2.i32.2).2.e)) rfl ?_
          refine BegPost.of ?_ ?_ hR.out M
          · rw [HQ.out]; exact Lib.hid ⟨rfl, rfl, rfl⟩
          · rw [HQ.out]; exact Hcs4
      · have e1' : (d.i16.2.i16.2.i32.2.e != 0) = true := by simp [e1]
        have HQ := Lib.hid (callBegin3 E1.out E2.out e1)
        clear e1
        go_wp2_with (first
          | (refine bcell_event rfl 21 29 (.tmp 27) rfl rfl gb 2 19 cs 79 (.int .i32 d.i16.2.i16.2.i32.1) (by rfl) hg (by decide) rfl ?hr ?_; (case hr => intro hv hf; obtain ⟨v, hv⟩ := hv; go_simp; done); intro wk cs3 hc kk mk; have hR := Lib.hid (hR.out.modAt hg.heap (by decide) (by decide) mk); have M := modFresh M mk hsg.out; have hg := kk; have Hcs3 := Lib.hid (hc.out.trans (by rw [Hcs.out]; rfl) : cs3 = headCells d.i16.1 d.i16.2.i16.1 d.i16.2.i16.2.i32.1 zName); clear hc mk kk)
          | ((with_reducible refine gate_dst (N := 32) rfl ?_); refine bload_event rfl 79 (.tmp 2) rfl gb 19 cs3 79 _ (by rfl) hg Tryz.underlying79 rfl info_Call ?_)
          | (refine bfull_event rfl 79 (.tmp 2) (.tmp 32) rfl rfl gb 19 cs3 cs3 79 (by rfl) (by rfl) hg hg.len info_Call hg.one ?_; intro wj kj mj; have hR := Lib.hid (hR.out.modAt hg.heap (by decide) (by decide) mj); have M := modFresh M mj hsg.out; have hg := kj; clear kj mj)
          | fail)
        refine bodyPost_ret (results_blk rfl (by rfl) hg Tryz.underlying79 rfl info_Call (by rfl) (v := .int .i64 d.i16.2.i16.2.i32.2.e)) rfl ?_
        refine BegPost.of ?_ ?_ hR.out M
        · rw [HQ.out]; exact Lib.hid ⟨rfl, rfl, rfl⟩
        · rw [HQ.out]; exact Hcs3
    · have e1' : (d.i16.2.i16.2.e != 0) = true := by simp [e1]
      have HQ := Lib.hid (callBegin2 E1.out e1)
      clear e1
      go_wp2_with (first
        | (refine bcell_event rfl 28 19 (.tmp 17) rfl rfl gb 1 19 cs 79 (.int .i16 d.i16.2.i16.1) (by rfl) hg (by decide) rfl ?hr ?_; (case hr => intro hv hf; obtain ⟨v, hv⟩ := hv; go_simp; done); intro wk cs2 hc kk mk; have hR := Lib.hid (hR.out.modAt hg.heap (by decide) (by decide) mk); have M := modFresh M mk hsg.out; have hg := kk; have Hcs2 := Lib.hid (hc.out.trans (by rw [Hcs.out]; rfl) : cs2 = headCells d.i16.1 d.i16.2.i16.1 0 zName); clear hc mk kk)
        | ((with_reducible refine gate_dst (N := 22) rfl ?_); refine bload_event rfl 79 (.tmp 2) rfl gb 19 cs2 79 _ (by rfl) hg Tryz.underlying79 rfl info_Call ?_)
        | (refine bfull_event rfl 79 (.tmp 2) (.tmp 22) rfl rfl gb 19 cs2 cs2 79 (by rfl) (by rfl) hg hg.len info_Call hg.one ?_; intro wj kj mj; have hR := Lib.hid (hR.out.modAt hg.heap (by decide) (by decide) mj); have M := modFresh M mj hsg.out; have hg := kj; clear kj mj)
        | fail)
      refine bodyPost_ret (results_blk rfl (by rfl) hg Tryz.underlying79 rfl info_Call (by rfl) (v := .int .i64 d.i16.2.i16.2.e)) rfl ?_
      refine BegPost.of ?_ ?_ hR.out M
      · rw [HQ.out]; exact Lib.hid ⟨rfl, rfl, rfl⟩
      · rw [HQ.out]; exact Hcs2
  · have e1' : (d.i16.2.e != 0) = true := by simp [e1]
    have HQ := Lib.hid (callBegin1  e1)
    clear e1
    go_wp2_with (first
      | (refine bcell_event rfl 28 9 (.tmp 7) rfl rfl gb 0 19 cs 79 (.int .i16 d.i16.1) (by rfl) hg (by decide) rfl ?hr ?_; (case hr => intro hv hf; obtain ⟨v, hv⟩ := hv; go_simp; done); intro wk cs1 hc kk mk; have hR := Lib.hid (hR.out.modAt hg.heap (by decide) (by decide) mk); have M := modFresh M mk hsg.out; have hg := kk; have Hcs1 := Lib.hid (hc.out.trans (by rw [Hcs.out]; rfl) : cs1 = headCells d.i16.1 0 0 zName); clear hc mk kk)
      | ((with_reducible refine gate_dst (N := 12) rfl ?_); refine bload_event rfl 79 (.tmp 2) rfl gb 19 cs1 79 _ (by rfl) hg Tryz.underlying79 rfl info_Call ?_)
      | (refine bfull_event rfl 79 (.tmp 2) (.tmp 12) rfl rfl gb 19 cs1 cs1 79 (by rfl) (by rfl) hg hg.len info_Call hg.one ?_; intro wj kj mj; have hR := Lib.hid (hR.out.modAt hg.heap (by decide) (by decide) mj); have M := modFresh M mj hsg.out; have hg := kj; clear kj mj)
      | fail)
    refine bodyPost_ret (results_blk rfl (by rfl) hg Tryz.underlying79 rfl info_Call (by rfl) (v := .int .i64 d.i16.2.e)) rfl ?_
    refine BegPost.of ?_ ?_ hR.out M
    · rw [HQ.out]; exact Lib.hid ⟨rfl, rfl, rfl⟩
    · rw [HQ.out]; exact Hcs1

end Go.Proofs.YteckmgmcfngddaaGreat
end

section
/- The reader of a part: ProdPart. -/
set_option linter.unusedVariables false
set_option linter.unusedSimpArgs false
namespace Go.Proofs.YteckmgmcfngddaaGreat
open Go.RowKit Go.Proofs.YteckmgmcfngddaaGreatW.PrintWords

def rdProdPart (d : DS) : ProdPart × DS :=
  let r0 := d.i32
  let r1 := r0.2.blobV
  (⟨r0.1, r1.1⟩, r1.2)

set_option maxRecDepth 100000 in
set_option maxHeartbeats 6400000 in
theorem cl_ProdPart (w : World) (p g bx : Nat) (rv : Value) (d : DS) (h : Cl w p g bx rv d) :
    Calls Tryz.prog 63 #[.pointer (some ⟨bx, 0, none⟩)] w (ClPostM kProdPart p g bx rv (rdProdPart d).1 (rdProdPart d).2 w) := by
  have hmf : ∀ (fn : Fn) (first cap : Array Value) (w : World), (Instr.makeFunc fn first cap).run Tryz.prog w = .ok (.func fn first cap) w := fun _ _ _ _ => rfl
  go_enter Tryz.func63, Tryz.ntmps63
  go_wp2_with (first | ((with_reducible refine gate_dst (N := 1) rfl ?_); refine box_event ?hg (N := 1) ?hd (cs := #[.int .i32 0, .bool false, .slice none 0 0]) (t := 128) ?hr ?_; (case hd => rfl); (case hg => rfl); (case hr => first | (go_simp; done) | (go_simp; rfl)); intro gb hgb w0 kgb bgb; have hc0 := h.below bgb; have hm0 : Mod (DecS p g) w w0 := Mod.of_below bgb; have hg0 : Hid (w0.heap[gb]? = some (.cells #[.int .i32 0, .bool false, .slice none 0 0] 128 (0, 0))) := kgb; have hc := h.below bgb; have hbx := blk_ne hc.box kgb (by decide); have hngb : Hid (¬ DecS p g gb) := h.new (Nat.le_of_eq hgb.symm); have hsgb : Hid (w.heap.size ≤ gb) := Nat.le_of_eq hgb.symm; have hg : Hid (w0.drew.heap[gb]? = some (.cells #[.int .i32 0, .bool false, .slice none 0 0] 128 (0, 0))) := kgb; have hm : Mod (DecS p g) w w0.drew := (Mod.of_below bgb).drew; have hc := hc.drew; have cx := hc.cell; clear hgb kgb bgb))
  go_region_held3 (fun w' => w'.cell? ⟨bx, 0, none⟩ = some (.pointer (some ⟨p, 0, none⟩))) (first | with_reducible exact cx | with_reducible exact (hc.alloc _).cell | with_reducible exact (hc0.alloc _).drew.cell | with_reducible exact (cell_far (by assumption)).trans ((cell_far (by assumption)).trans ((cell_far (by assumption)).trans (hc.cell))) | with_reducible exact (cell_far (by assumption)).trans ((cell_far (by assumption)).trans ((cell_far (by assumption)).trans ((hc.alloc _).cell))))
    (first
      | (go_at_call 58; refine (cl_i32 _ p g bx rv _ (by exact hc)).mono ?_; rintro e wn ⟨rfl, hc2, mn⟩; have hg := hid_mod hg mn hngb; have hm := hm.trans mn; have hc := hc2; have cx := hc.cell; clear hc2 mn; have ft := fun i => blk_frozen hg.out i; have t0 : wn.cell? ⟨gb, 0, none⟩ = _ := blk_cell hg.out 0; have t1 : wn.cell? ⟨gb, 1, none⟩ = _ := blk_cell hg.out 1; have t2 : wn.cell? ⟨gb, 2, none⟩ = _ := blk_cell hg.out 2; simp at t0 t1 t2)
      | (go_at_call 64; refine (cl_blob _ p g bx rv _ (by exact hc)).mono ?_; rintro e wn ⟨cs2, rfl, kv, hc2, mn⟩; obtain ⟨A0, c0, rfl, g0⟩ := kBlob_openM kv; have hg := hid_mod hg mn hngb; have hbase : Hid (w.heap.size ≤ _) := hm.size; have hm := hm.trans mn; have hc := hc2; have cx := hc.cell; clear hc2 mn; have ft := fun i => blk_frozen hg.out i; have t0 : wn.cell? ⟨gb, 0, none⟩ = _ := blk_cell hg.out 0; have t1 : wn.cell? ⟨gb, 1, none⟩ = _ := blk_cell hg.out 1; have t2 : wn.cell? ⟨gb, 2, none⟩ = _ := blk_cell hg.out 2; simp at t0 t1 t2)
      | fail)
  all_goals
    go_wp2
    refine bodyPost_ret (v := .agg #[.int .i32 (rdProdPart d).1.index, .bool (rdProdPart d).1.recs.null, .slice A0 (rdProdPart d).1.recs.b.length c0]) (by simp [results, Tryz.results63, go_sem, ft, t0, t1, t2, rdProdPart]) rfl ⟨[.int .i32 (rdProdPart d).1.index, .bool (rdProdPart d).1.recs.null, .slice A0 (rdProdPart d).1.recs.b.length c0], rfl, ?_, ?_, ?_⟩
    · exact kProdPart_mkM _ _ _ (rdProdPart d).1 (Kd.R_lower (Kd.R_set (Kd.R_set (Kd.R_set g0 hg.out (by decide) 0 _) (hid_set hg 0 _).out (by decide) 1 _) (hid_set (hid_set hg 0 _) 1 _).out (by decide) 2 _) hbase.out)
    · exact (((hc.far hg.out (by decide) (by decide) (by decide) (by decide) 0 _).far (hid_set hg 0 _).out (by decide) (by decide) (by decide) (by decide) 1 _).far (hid_set (hid_set hg 0 _) 1 _).out (by decide) (by decide) (by decide) (by decide) 2 _)
    · exact (modFar (modFar (modFar hm hsgb 0 _) hsgb 1 _) hsgb 2 _)

end Go.Proofs.YteckmgmcfngddaaGreat
end

section
/- A list of parts: ProdPart. -/
set_option linter.unusedVariables false
set_option linter.unusedSimpArgs false
namespace Go.Proofs.YteckmgmcfngddaaGreat
open Go.RowKit Go.Proofs.YteckmgmcfngddaaGreatW.PrintWords

theorem info_ProdPart : (Tryz.prog.info? 128).map (fun i => (i.zero, i.size, i.bytes)) = some (some (.agg #[.int .i32 0, .bool false, .slice none 0 0]), 3, 40) := by kernel_rfl
set_option maxRecDepth 100000 in
set_option maxHeartbeats 6400000 in
theorem cl_list_ProdPart (w : World) (p g bx : Nat) (rv : Value) (d : DS) (h : Cl w p g bx rv d) :
    Calls Tryz.prog 62 #[.pointer (some ⟨p, 0, none⟩), .func (.func 63) #[] #[.pointer (some ⟨bx, 0, none⟩)]] w (ClPostR kProdPart 128 p g bx rv (rdList rdProdPart d).1 (rdList rdProdPart d).2 w) := by
  obtain ⟨r0, r1⟩ := d.i32_range
  go_enter Tryz.func62, Tryz.ntmps62
  go_wp2_with fail
  refine (cl_i32 w p g bx rv d h).mono ?_
  rintro e w1 ⟨rfl, h1, m1⟩
  obtain ⟨q, hbk⟩ := h1.dec.blk
  have c2 : w1.cell? ⟨p, 2, none⟩ = _ := blk_cell hbk 2
  have f2 := blk_frozen hbk 2
  simp at c2
  clear hbk
  go_upto_block 0 with fail
  go_cut [10] (fun v10 wx => Cl wx p g bx rv (rdHead d) ∧ Mod (DecS p g) w wx)
  case first =>
    by_cases he : d.i32.2.e = 0
    · have he' : (d.i32.2.e != 0) = false := by simp [he]
      by_cases h0 : d.i32.1 < 0
      · have h0' : decide (d.i32.1 < 0) = true := by simpa using h0
        have hh := Lib.hid (rdHead_neg he h0)
        clear he
        go_wp2
        go_meet
        rw [hh.out]
        exact ⟨h1.failed 5 (by decide), m1.trans (mod_dec' p g 0 _)⟩
      · have h0' : decide (d.i32.1 < 0) = false := by simpa using h0
        by_cases h2 : d.i32.1 > 16
        · have h2' : decide (d.i32.1 > 16) = true := by simpa using h2
          have hh := Lib.hid (rdHead_big he h0 h2)
          clear he
          go_wp2
          go_meet
          rw [hh.out]
          exact ⟨h1.failed 9 (by decide), m1.trans (mod_dec' p g 0 _)⟩
        · have h2' : decide (d.i32.1 > 16) = false := by simpa using h2
          have hh := Lib.hid (rdHead_ok he h0 h2)
          clear he
          go_wp2
          go_meet
          rw [hh.out]
          exact ⟨h1, m1⟩
    · have he' : (d.i32.2.e != 0) = true := by simp [he]
      have hh := Lib.hid (rdHead_err he)
      clear he
      go_wp2
      go_meet
      rw [hh.out]
      exact ⟨h1, m1⟩
  case rest =>
    obtain ⟨hc, hm⟩ := hcut
    clear c2 f2 h1 m1
    go_wp2_with fail
    go_loopg [6, 7] (d.i32.1.toNat) (fun gk v6 v7 wr => ∃ (k : Nat) (out : List ProdPart) (dk : DS) (A : Option Addr) (c : Nat), v7 = .int .i32 k ∧ v6 = .slice A out.length c ∧ Hid (out.length = k) ∧ k + gk ≤ 2147483647 ∧ Hid (gk + k = d.i32.1.toNat) ∧ kProdPart.R 128 wr w.heap.size (fun _ => True) (.slice A out.length c) out ∧ Cl wr p g bx rv dk ∧ Mod (DecS p g) w wr ∧ Hid (rdGo rdProdPart gk out dk = rdList rdProdPart d) ∧ Hid (dk.e = 0 → d.i32.1 ≤ 16))
    case atStart => exact ⟨0, [], rdHead d, none, 0, rfl, rfl, rfl, by omega, by simp [Hid], Kd.R_nil _ _ _ _ _, hc, hm, rfl, rdHead_le d⟩
    case round =>
      obtain ⟨k, out, dk, A, c, rfl, rfl, hok, hk2, hgk, ho, hcr, hmr, heq, hle⟩ := hrel
      clear hc hm
      obtain ⟨q, hbk⟩ := hcr.dec.blk
      have c2 : wr.cell? ⟨p, 2, none⟩ = _ := blk_cell hbk 2
      simp at c2
      clear hbk
      by_cases hlt : (k : Int) < d.i32.1
      · have hlt' : decide ((k : Int) < d.i32.1) = true := by simpa using hlt
        by_cases he : dk.e = 0
        · have he' : (dk.e == 0) = true := by simp [he]
          have hn16 := hle.out he
          obtain ⟨j, rfl⟩ : ∃ j, gk = j + 1 := ⟨gk - 1, by have := hgk.out; omega⟩
          have hstep : Hid (rdGo rdProdPart j (out ++ [(rdProdPart dk).1]) (rdProdPart dk).2 = rdList rdProdPart d) := Lib.hid (by rw [← heq.out]; exact (rdGo_step rdProdPart j out dk he).symm)
          clear he heq
          go_wp2_with fail
          refine (cl_ProdPart wr p g bx rv dk hcr).mono ?_
          rintro e w2 ⟨cs, rfl, kv, hc2, mn⟩
          obtain ⟨A0, c0, rfl, g0⟩ := kProdPart_openM kv
          have ho2 := R_mod ho mn (fun q hq => h.new hq)
          have hlen : (out.length + 1) * 40 ≤ 140737488355328 := by have := hok.out; omega
          have HLEN := Lib.hid hlen
          clear hlen
          go_wp2_with (at_builtin; refine Kd.R_append kProdPart (w0 := w2) w.heap.size rfl (.tmp 40) (.tmp 43) 120 128 (.agg #[.int .i32 0, .bool false, .slice none 0 0]) 40 rfl Tryz.underlying120 info_ProdPart rfl (by decide) (by decide) _ out (rdProdPart dk).1 [.int .i32 (rdProdPart dk).1.index, .bool (rdProdPart dk).1.recs.null, .slice A0 (rdProdPart dk).1.recs.b.length c0] (fun _ => True) (fun q => some q ≠ (Value.slice A out.length c).ownBlock) rfl rfl (M_fresh kv ho (Nat.le_refl _) hmr.size) (fun q hq => ⟨trivial, hq⟩) (fun _ _ => trivial) ho2 (Below.refl _ _) (Nat.le_trans hmr.size mn.size) HLEN.out ?_; intro v1 w3 ho3 hb3 hg3 hat3)
          obtain ⟨A', c', rfl⟩ := Kd.R_slice ho3
          have hc3 : Cl w3 p g bx rv (rdProdPart dk).2 := hc2.grown hg3 (fun q hq => by obtain ⟨cs, hcs⟩ := R_owntyped ho2 q hq; exact ⟨cs, _, hcs, by decide, by decide, by decide, by decide⟩)
          have hm3 : Mod (DecS p g) w w3 := (hmr.trans mn).grown hg3 (fun q hq => R_ownge ho2 q hq)
          clear hat3 hb3 hg3
          go_wp2
          go_roundg j
          case measure => omega
          case rel => exact ⟨k + 1, out ++ [(rdProdPart dk).1], (rdProdPart dk).2, A', c', by go_num, by simp, Lib.hid (by have := hok.out; simp [this]), by omega, Lib.hid (by have := hgk.out; omega), ho3, hc3, hm3, hstep, fun _ => hn16⟩
        · have he' : (dk.e == 0) = false := by simp [he]
          have hend : Hid (rdList rdProdPart d = (out, dk)) := Lib.hid (by rw [← heq.out]; exact rdGo_stop rdProdPart gk out dk he)
          clear he heq
          go_wp2
          go_ret
          rw [hend.out]
          exact ⟨A, c, rfl, ho, hcr, hmr⟩
      · have hlt' : decide ((k : Int) < d.i32.1) = false := by simpa using hlt
        have hend : Hid (rdList rdProdPart d = (out, dk)) := Lib.hid (by
          rw [← heq.out]
          have := hgk.out
          rw [show gk = 0 from by omega]
          rfl)
        clear heq
        go_wp2
        go_ret
        rw [hend.out]
        exact ⟨A, c, rfl, ho, hcr, hmr⟩

end Go.Proofs.YteckmgmcfngddaaGreat
end

section
/- The reader of a part: ProdTopic. -/
set_option linter.unusedVariables false
set_option linter.unusedSimpArgs false
namespace Go.Proofs.YteckmgmcfngddaaGreat
open Go.RowKit Go.Proofs.YteckmgmcfngddaaGreatW.PrintWords

def rdProdTopic (d : DS) : ProdTopic × DS :=
  let r0 := d.str
  let r1 := (rdList rdProdPart r0.2)
  (⟨r0.1, r1.1⟩, r1.2)

set_option maxRecDepth 100000 in
set_option maxHeartbeats 6400000 in
theorem cl_ProdTopic (w : World) (p g bx : Nat) (rv : Value) (d : DS) (h : Cl w p g bx rv d) :
    Calls Tryz.prog 60 #[.pointer (some ⟨bx, 0, none⟩)] w (ClPostM kProdTopic p g bx rv (rdProdTopic d).1 (rdProdTopic d).2 w) := by
  have hmf : ∀ (fn : Fn) (first cap : Array Value) (w : World), (Instr.makeFunc fn first cap).run Tryz.prog w = .ok (.func fn first cap) w := fun _ _ _ _ => rfl
  go_enter Tryz.func60, Tryz.ntmps60
  go_wp2_with (first | ((with_reducible refine gate_dst (N := 1) rfl ?_); refine box_event ?hg (N := 1) ?hd (cs := #[.string ⟨#[]⟩, .slice none 0 0]) (t := 122) ?hr ?_; (case hd => rfl); (case hg => rfl); (case hr => first | (go_simp; done) | (go_simp; rfl)); intro gb hgb w0 kgb bgb; have hc0 := h.below bgb; have hm0 : Mod (DecS p g) w w0 := Mod.of_below bgb; have hg0 : Hid (w0.heap[gb]? = some (.cells #[.string ⟨#[]⟩, .slice none 0 0] 122 (0, 0))) := kgb; have hc := h.below bgb; have hbx := blk_ne hc.box kgb (by decide); have hngb : Hid (¬ DecS p g gb) := h.new (Nat.le_of_eq hgb.symm); have hsgb : Hid (w.heap.size ≤ gb) := Nat.le_of_eq hgb.symm; have hg : Hid (w0.heap[gb]? = some (.cells #[.string ⟨#[]⟩, .slice none 0 0] 122 (0, 0))) := kgb; have hm : Mod (DecS p g) w w0 := (Mod.of_below bgb); have cx := hc.cell; clear hgb kgb bgb))
  refine (cl_str w0 p g bx rv d hc).mono ?_
  rintro e w1 ⟨rfl, hc2, mn⟩
  have hg := hid_mod hg mn hngb
  have hm := hm.trans mn
  have hc := hc2
  have cx := hc.cell
  clear hc2 mn
  go_wp2_with (first | ((with_reducible refine gate_dst (N := 2) rfl ?_); refine box_event ?hg (N := 2) ?hd (cs := #[.string ⟨#[]⟩, .slice none 0 0]) (t := 122) ?hr ?_; (case hd => rfl); (case hg => rfl); (case hr => first | (go_simp; done) | (go_simp; rfl)); intro gt hgt wt kgt bgt; have hc := hc.below bgt; have hbt := blk_ne hc.box kgt (by decide); have hst : Hid (w.heap.size ≤ gt) := Nat.le_trans hm.size (Nat.le_of_eq hgt.symm); have hgt2 : Hid (gb ≠ gt) := Nat.ne_of_lt (Nat.lt_of_lt_of_le (blk_lt hg.out) (Nat.le_of_eq hgt.symm)); have hnt : Hid (¬ DecS p g gt) := h.new hst.out; have hg := hid_mod hg (Mod.of_below (S := fun _ => False) bgt) (Lib.hid id); have hm := hm.trans (Mod.of_below bgt); have ht : Hid (wt.heap[gt]? = some (.cells #[.string ⟨#[]⟩, .slice none 0 0] 122 (0, 0))) := kgt; clear kgt hgt bgt; have ft := fun i => blk_frozen ht.out i; have t0 : wt.cell? ⟨gt, 0, none⟩ = _ := blk_cell ht.out 0; have t1 : wt.cell? ⟨gt, 1, none⟩ = _ := blk_cell ht.out 1; simp at t0 t1; have cx : ((wt.setCell ⟨gt, 0, none⟩ (.string (d.str.1))).setCell ⟨gt, 1, none⟩ (.slice none 0 0)).cell? ⟨bx, 0, none⟩ = some (.pointer (some ⟨p, 0, none⟩)) := (cell_far hbt).trans ((cell_far hbt).trans (hc.cell))))
  have hc1 : Cl (((wt.setCell ⟨gt, 0, none⟩ (.string (d.str.1))).setCell ⟨gt, 1, none⟩ (.slice none 0 0))) p g bx rv d.str.2 := ((hc.far ht.out (by decide) (by decide) (by decide) (by decide) 0 _).far (hid_set ht 0 _).out (by decide) (by decide) (by decide) (by decide) 1 _)
  have hg1 : Hid ((((wt.setCell ⟨gt, 0, none⟩ (.string (d.str.1))).setCell ⟨gt, 1, none⟩ (.slice none 0 0))).heap[gb]? = some (.cells #[.string ⟨#[]⟩, .slice none 0 0] 122 (0, 0))) := (hid_far (hid_far hg hgt2) hgt2)
  have ht1 : Hid ((((wt.setCell ⟨gt, 0, none⟩ (.string (d.str.1))).setCell ⟨gt, 1, none⟩ (.slice none 0 0))).heap[gt]? = some (.cells #[.string (d.str.1), .slice none 0 0] 122 (0, 0))) := hid_cast (hid_set (hid_set ht 0 _) 1 _) rfl
  have hm1 : Mod (DecS p g) w (((wt.setCell ⟨gt, 0, none⟩ (.string (d.str.1))).setCell ⟨gt, 1, none⟩ (.slice none 0 0))) := (modFar (modFar hm hst 0 _) hst 1 _)
  generalize ((wt.setCell ⟨gt, 0, none⟩ (.string (d.str.1))).setCell ⟨gt, 1, none⟩ (.slice none 0 0)) = wc at *
  replace hc := hc1
  replace hg := hg1
  replace ht := ht1
  replace hm := hm1
  clear hc1 hg1 ht1 hm1
  go_wp2_with fail
  have hbparts : Hid (w.heap.size ≤ wc.heap.size) := hm.size
  refine (cl_list_ProdPart wc p g bx rv d.str.2 hc).mono ?_
  rintro e wparts_0 ⟨Aparts, cparts, rfl, rparts, hc2, mn⟩
  replace hg := hid_mod hg mn hngb
  replace ht := hid_mod ht mn hnt
  replace hm := hm.trans mn
  replace hc := hc2
  have cx := hc.cell
  clear hc2 mn
  have ft := fun i => blk_frozen ht.out i
  have t1 : wparts_0.cell? ⟨gt, 1, none⟩ = _ := blk_cell ht.out 1
  simp at t1
  have cx1 : (wparts_0.setCell ⟨gt, 1, none⟩ (.slice Aparts (rdList rdProdPart d.str.2).1.length cparts)).cell? ⟨bx, 0, none⟩ = some (.pointer (some ⟨p, 0, none⟩)) := (cell_far hbt).trans (hc.cell)
  have hc1 : Cl (wparts_0.setCell ⟨gt, 1, none⟩ (.slice Aparts (rdList rdProdPart d.str.2).1.length cparts)) p g bx rv ((rdList rdProdPart d.str.2).2) := (hc.far ht.out (by decide) (by decide) (by decide) (by decide) 1 _)
  have hg1 : Hid ((wparts_0.setCell ⟨gt, 1, none⟩ (.slice Aparts (rdList rdProdPart d.str.2).1.length cparts)).heap[gb]? = some (.cells #[.string ⟨#[]⟩, .slice none 0 0] 122 (0, 0))) := (hid_far hg hgt2)
  have ht1 : Hid ((wparts_0.setCell ⟨gt, 1, none⟩ (.slice Aparts (rdList rdProdPart d.str.2).1.length cparts)).heap[gt]? = some (.cells #[.string (d.str.1), .slice Aparts (rdList rdProdPart d.str.2).1.length cparts] 122 (0, 0))) := hid_cast (hid_set ht 1 (.slice Aparts (rdList rdProdPart d.str.2).1.length cparts)) rfl
  have hm1 : Mod (DecS p g) w (wparts_0.setCell ⟨gt, 1, none⟩ (.slice Aparts (rdList rdProdPart d.str.2).1.length cparts)) := (modFar hm hst 1 _)
  have rparts1 := (Kd.R_set rparts ht.out (by decide) 1 (.slice Aparts (rdList rdProdPart d.str.2).1.length cparts))
  replace hc := hc1
  replace hg := hg1
  replace ht := ht1
  replace hm := hm1
  replace rparts := rparts1
  clear hc1 hg1 ht1 hm1 rparts1
  have fg := fun i => blk_frozen hg.out i
  have t0 : (wparts_0.setCell ⟨gt, 1, none⟩ (.slice Aparts (rdList rdProdPart d.str.2).1.length cparts)).cell? ⟨gt, 0, none⟩ = _ := blk_cell ht.out 0
  have z0 : (wparts_0.setCell ⟨gt, 1, none⟩ (.slice Aparts (rdList rdProdPart d.str.2).1.length cparts)).cell? ⟨gb, 0, none⟩ = _ := blk_cell hg.out 0
  have t1 : (wparts_0.setCell ⟨gt, 1, none⟩ (.slice Aparts (rdList rdProdPart d.str.2).1.length cparts)).cell? ⟨gt, 1, none⟩ = _ := blk_cell ht.out 1
  have z1 : (wparts_0.setCell ⟨gt, 1, none⟩ (.slice Aparts (rdList rdProdPart d.str.2).1.length cparts)).cell? ⟨gb, 1, none⟩ = _ := blk_cell hg.out 1
  simp at t0 z0 t1 z1
  go_wp2
  have erd : rdProdTopic d = (⟨d.str.1, (rdList rdProdPart d.str.2).1⟩, (rdList rdProdPart d.str.2).2) := by simp only [rdProdTopic, Bool.false_eq_true, if_true, if_false]
  rw [erd]
  refine bodyPost_ret (v := .agg #[.string (d.str.1), .slice Aparts (rdList rdProdPart d.str.2).1.length cparts]) (by simp [results, Tryz.results60, go_sem, z0, z1]) rfl ⟨[.string (d.str.1), .slice Aparts (rdList rdProdPart d.str.2).1.length cparts], rfl, ?_, ?_, ?_⟩
  · exact kProdTopic_mkM _ _ _ (⟨d.str.1, (rdList rdProdPart d.str.2).1⟩ : ProdTopic) (Kd.R_lower (Kd.R_set (Kd.R_set rparts hg.out (by decide) 0 _) (hid_set hg 0 _).out (by decide) 1 _) hbparts.out)
  · exact ((hc.far hg.out (by decide) (by decide) (by decide) (by decide) 0 _).far (hid_set hg 0 _).out (by decide) (by decide) (by decide) (by decide) 1 _)
  · exact (modFar (modFar hm hsgb 0 _) hsgb 1 _)

end Go.Proofs.YteckmgmcfngddaaGreat
end

section
/- A list of parts: ProdTopic. -/
set_option linter.unusedVariables false
set_option linter.unusedSimpArgs false
namespace Go.Proofs.YteckmgmcfngddaaGreat
open Go.RowKit Go.Proofs.YteckmgmcfngddaaGreatW.PrintWords

theorem info_ProdTopic : (Tryz.prog.info? 122).map (fun i => (i.zero, i.size, i.bytes)) = some (some (.agg #[.string ⟨#[]⟩, .slice none 0 0]), 2, 40) := by kernel_rfl
set_option maxRecDepth 100000 in
set_option maxHeartbeats 6400000 in
theorem cl_list_ProdTopic (w : World) (p g bx : Nat) (rv : Value) (d : DS) (h : Cl w p g bx rv d) :
    Calls Tryz.prog 59 #[.pointer (some ⟨p, 0, none⟩), .func (.func 60) #[] #[.pointer (some ⟨bx, 0, none⟩)]] w (ClPostR kProdTopic 122 p g bx rv (rdList rdProdTopic d).1 (rdList rdProdTopic d).2 w) := by
  obtain ⟨r0, r1⟩ := d.i32_range
  go_enter Tryz.func59, Tryz.ntmps59
  go_wp2_with fail
  refine (cl_i32 w p g bx rv d h).mono ?_
  rintro e w1 ⟨rfl, h1, m1⟩
  obtain ⟨q, hbk⟩ := h1.dec.blk
  have c2 : w1.cell? ⟨p, 2, none⟩ = _ := blk_cell hbk 2
  have f2 := blk_frozen hbk 2
  simp at c2
  clear hbk
  go_upto_block 0 with fail
  go_cut [10] (fun v10 wx => Cl wx p g bx rv (rdHead d) ∧ Mod (DecS p g) w wx)
  case first =>
    by_cases he : d.i32.2.e = 0
    · have he' : (d.i32.2.e != 0) = false := by simp [he]
      by_cases h0 : d.i32.1 < 0
      · have h0' : decide (d.i32.1 < 0) = true := by simpa using h0
        have hh := Lib.hid (rdHead_neg he h0)
        clear he
        go_wp2
        go_meet
        rw [hh.out]
        exact ⟨h1.failed 5 (by decide), m1.trans (mod_dec' p g 0 _)⟩
      · have h0' : decide (d.i32.1 < 0) = false := by simpa using h0
        by_cases h2 : d.i32.1 > 16
        · have h2' : decide (d.i32.1 > 16) = true := by simpa using h2
          have hh := Lib.hid (rdHead_big he h0 h2)
          clear he
          go_wp2
          go_meet
          rw [hh.out]
          exact ⟨h1.failed 9 (by decide), m1.trans (mod_dec' p g 0 _)⟩
        · have h2' : decide (d.i32.1 > 16) = false := by simpa using h2
          have hh := Lib.hid (rdHead_ok he h0 h2)
          clear he
          go_wp2
          go_meet
          rw [hh.out]
          exact ⟨h1, m1⟩
    · have he' : (d.i32.2.e != 0) = true := by simp [he]
      have hh := Lib.hid (rdHead_err he)
      clear he
      go_wp2
      go_meet
      rw [hh.out]
      exact ⟨h1, m1⟩
  case rest =>
    obtain ⟨hc, hm⟩ := hcut
    clear c2 f2 h1 m1
    go_wp2_with fail
    go_loopg [6, 7] (d.i32.1.toNat) (fun gk v6 v7 wr => ∃ (k : Nat) (out : List ProdTopic) (dk : DS) (A : Option Addr) (c : Nat), v7 = .int .i32 k ∧ v6 = .slice A out.length c ∧ Hid (out.length = k) ∧ k + gk ≤ 2147483647 ∧ Hid (gk + k = d.i32.1.toNat) ∧ kProdTopic.R 122 wr w.heap.size (fun _ => True) (.slice A out.length c) out ∧ Cl wr p g bx rv dk ∧ Mod (DecS p g) w wr ∧ Hid (rdGo rdProdTopic gk out dk = rdList rdProdTopic d) ∧ Hid (dk.e = 0 → d.i32.1 ≤ 16))
    case atStart => exact ⟨0, [], rdHead d, none, 0, rfl, rfl, rfl, by omega, by simp [Hid], Kd.R_nil _ _ _ _ _, hc, hm, rfl, rdHead_le d⟩
    case round =>
      obtain ⟨k, out, dk, A, c, rfl, rfl, hok, hk2, hgk, ho, hcr, hmr, heq, hle⟩ := hrel
      clear hc hm
      obtain ⟨q, hbk⟩ := hcr.dec.blk
      have c2 : wr.cell? ⟨p, 2, none⟩ = _ := blk_cell hbk 2
      simp at c2
      clear hbk
      by_cases hlt : (k : Int) < d.i32.1
      · have hlt' : decide ((k : Int) < d.i32.1) = true := by simpa using hlt
        by_cases he : dk.e = 0
        · have he' : (dk.e == 0) = true := by simp [he]
          have hn16 := hle.out he
          obtain ⟨j, rfl⟩ : ∃ j, gk = j + 1 := ⟨gk - 1, by have := hgk.out; omega⟩
          have hstep : Hid (rdGo rdProdTopic j (out ++ [(rdProdTopic dk).1]) (rdProdTopic dk).2 = rdList rdProdTopic d) := Lib.hid (by rw [← heq.out]; exact (rdGo_step rdProdTopic j out dk he).symm)
          clear he heq
          go_wp2_with fail
          refine (cl_ProdTopic wr p g bx rv dk hcr).mono ?_
          rintro e w2 ⟨cs, rfl, kv, hc2, mn⟩
          obtain ⟨A0, c0, rfl, g0⟩ := kProdTopic_openM kv
          have ho2 := R_mod ho mn (fun q hq => h.new hq)
          have hlen : (out.length + 1) * 40 ≤ 140737488355328 := by have := hok.out; omega
          have HLEN := Lib.hid hlen
          clear hlen
          go_wp2_with (at_builtin; refine Kd.R_append kProdTopic (w0 := w2) w.heap.size rfl (.tmp 40) (.tmp 43) 31 122 (.agg #[.string ⟨#[]⟩, .slice none 0 0]) 40 rfl Tryz.underlying31 info_ProdTopic rfl (by decide) (by decide) _ out (rdProdTopic dk).1 [.string (rdProdTopic dk).1.name, .slice A0 (rdProdTopic dk).1.parts.length c0] (fun _ => True) (fun q => some q ≠ (Value.slice A out.length c).ownBlock) rfl rfl (M_fresh kv ho (Nat.le_refl _) hmr.size) (fun q hq => ⟨trivial, hq⟩) (fun _ _ => trivial) ho2 (Below.refl _ _) (Nat.le_trans hmr.size mn.size) HLEN.out ?_; intro v1 w3 ho3 hb3 hg3 hat3)
          obtain ⟨A', c', rfl⟩ := Kd.R_slice ho3
          have hc3 : Cl w3 p g bx rv (rdProdTopic dk).2 := hc2.grown hg3 (fun q hq => by obtain ⟨cs, hcs⟩ := R_owntyped ho2 q hq; exact ⟨cs, _, hcs, by decide, by decide, by decide, by decide⟩)
          have hm3 : Mod (DecS p g) w w3 := (hmr.trans mn).grown hg3 (fun q hq => R_ownge ho2 q hq)
          clear hat3 hb3 hg3
          go_wp2
          go_roundg j
          case measure => omega
          case rel => exact ⟨k + 1, out ++ [(rdProdTopic dk).1], (rdProdTopic dk).2, A', c', by go_num, by simp, Lib.hid (by have := hok.out; simp [this]), by omega, Lib.hid (by have := hgk.out; omega), ho3, hc3, hm3, hstep, fun _ => hn16⟩
        · have he' : (dk.e == 0) = false := by simp [he]
          have hend : Hid (rdList rdProdTopic d = (out, dk)) := Lib.hid (by rw [← heq.out]; exact rdGo_stop rdProdTopic gk out dk he)
          clear he heq
          go_wp2
          go_ret
          rw [hend.out]
          exact ⟨A, c, rfl, ho, hcr, hmr⟩
      · have hlt' : decide ((k : Int) < d.i32.1) = false := by simpa using hlt
        have hend : Hid (rdList rdProdTopic d = (out, dk)) := Lib.hid (by
          rw [← heq.out]
          have := hgk.out
          rw [show gk = 0 from by omega]
          rfl)
        clear heq
        go_wp2
        go_ret
        rw [hend.out]
        exact ⟨A, c, rfl, ho, hcr, hmr⟩

end Go.Proofs.YteckmgmcfngddaaGreat
end

section
/- The message ProdReq read. -/
set_option linter.unusedVariables false
set_option linter.unusedSimpArgs false
namespace Go.Proofs.YteckmgmcfngddaaGreat
open Go.RowKit Go.Proofs.YteckmgmcfngddaaGreatW.PrintWords

def rdProdReq (d : DS) : ProdReq × DS :=
  let r0 := if d.has 3 3 = true then d.nameV else (⟨false, ⟨#[]⟩⟩, d)
  let r1 := r0.2.i16
  let r2 := r1.2.i32
  let r3 := (rdList rdProdTopic r2.2)
  (⟨r0.1, r1.1, r2.1, r3.1⟩, r3.2)

set_option maxRecDepth 100000 in
set_option maxHeartbeats 6400000 in
theorem dec_ProdReq (w : World) (v : Int) (A : Option Addr) (c : Nat) (xs : List Int) (hr : ReadsInt w .u8 A xs.length xs) (hl : xs.length ≤ 140737488355328) :
    Calls Tryz.prog 13 #[.int .i64 v, .slice A xs.length c] w (DecPost kProdReq (decFin (⟨⟨false, ⟨#[]⟩⟩, 0, 0, []⟩ : ProdReq) (rdProdReq (DS.new v xs))) w) := by
  have hmf : ∀ (fn : Fn) (first cap : Array Value) (w : World), (Instr.makeFunc fn first cap).run Tryz.prog w = .ok (.func fn first cap) w := fun _ _ _ _ => rfl
  have HR := Lib.hid hr
  clear hr
  go_enter Tryz.func13, Tryz.ntmps13
  go_wp2_with (first | ((with_reducible refine gate_dst (N := 4) rfl ?_); refine box_event ?hg (N := 4) ?hd (cs := #[.bool false, .string ⟨#[]⟩, .int .i16 0, .int .i32 0, .slice none 0 0]) (t := 33) ?hr ?_; (case hd => rfl); (case hg => rfl); (case hr => first | (go_simp; done) | (go_simp; rfl)); intro gb hgb wg kgb bgb; have hgg : Hid (wg.heap[gb]? = some (.cells #[.bool false, .string ⟨#[]⟩, .int .i16 0, .int .i32 0, .slice none 0 0] 33 (0, 0))) := kgb; have hsgb : Hid (w.heap.size ≤ gb) := Nat.le_of_eq hgb.symm; clear kgb hgb))
  refine (newDec wg v A c xs (HR.out.below bgb) hl).mono ?_
  rintro e wn ⟨p, g, rv, rfl, hd0, hpw, hgw, bn⟩
  have hlb : (DS.new v xs).b.length ≤ 140737488355328 := hl
  generalize DS.new v xs = d at *
  have hgn := hid_mod hgg (Mod.of_below (S := fun _ => False) bn) (Lib.hid id)
  have hgbw := blk_lt hgg.out
  have hngb : Hid (¬ DecS p g gb) := fun hs => by rcases hs with rfl | rfl <;> omega
  have hbn : Below w.heap.size w wn := bgb.trans (bn.mono bgb.size)
  go_wp2_with (first
    | ((with_reducible refine gate_dst (N := 6) rfl ?_); refine box_event ?hg (N := 6) ?hd (cs := #[.pointer none]) (t := 113) ?hr ?_; (case hd => rfl); (case hg => rfl); (case hr => first | (go_simp; done) | (go_simp; rfl)); intro bx hbx wx kbx bbx; have hd1 := hd0.below bbx; have hnx : ¬ DecS p g bx := hd0.new (Nat.le_of_eq hbx.symm); have hgx := hid_mod hgn (Mod.of_below (S := fun _ => False) bbx) (Lib.hid id); have hgbx : Hid (gb ≠ bx) := Nat.ne_of_lt (Nat.lt_of_lt_of_le (blk_lt hgn.out) (Nat.le_of_eq hbx.symm)); have hcb : Cl (wx.setCell ⟨bx, 0, none⟩ (.pointer (some ⟨p, 0, none⟩))) p g bx rv d := ⟨hd1.far kbx (by decide) (by decide) (by decide) 0 _, by simpa using blk_set kbx 0 (.pointer (some ⟨p, 0, none⟩)), fun e => hnx (.inl e), fun e => hnx (.inr e), hlb⟩; have hgB : Hid ((wx.setCell ⟨bx, 0, none⟩ (.pointer (some ⟨p, 0, none⟩))).heap[gb]? = some (.cells #[.bool false, .string ⟨#[]⟩, .int .i16 0, .int .i32 0, .slice none 0 0] 33 (0, 0))) := hid_far hgx hgbx; have hbw : Below w.heap.size w (wx.setCell ⟨bx, 0, none⟩ (.pointer (some ⟨p, 0, none⟩))) := (hbn.trans (bbx.mono hbn.size)).setCell (p := ⟨bx, 0, none⟩) (Nat.le_trans hbn.size (Nat.le_of_eq hbx.symm)) _; have hbxgb : bx ≠ gb := fun e => hgbx.out e.symm; have fx := fun i => blk_frozen kbx i; have x0 : wx.cell? ⟨bx, 0, none⟩ = _ := blk_cell kbx 0; simp at x0; have cx : (wx.setCell ⟨bx, 0, none⟩ (.pointer (some ⟨p, 0, none⟩))).cell? ⟨bx, 0, none⟩ = some (.pointer (some ⟨p, 0, none⟩)) := hcb.cell; clear kbx hbx)
    | ((with_reducible refine gate_dst (N := 7) rfl ?_); refine box_event ?hg (N := 7) ?hd (cs := #[.bool false, .string ⟨#[]⟩, .int .i16 0, .int .i32 0, .slice none 0 0]) (t := 33) ?hr ?_; (case hd => rfl); (case hg => rfl); (case hr => first | (go_simp; done) | (go_simp; rfl)); intro gt hgt wt kgt bgt; have hc := hcb.below bgt; have hbt := blk_ne hc.box kgt (by decide); have hst : Hid ((wx.setCell ⟨bx, 0, none⟩ (.pointer (some ⟨p, 0, none⟩))).heap.size ≤ gt) := Nat.le_of_eq hgt.symm; have hgt2 : Hid (gb ≠ gt) := Nat.ne_of_lt (Nat.lt_of_lt_of_le (blk_lt hgB.out) (Nat.le_of_eq hgt.symm)); have hnt : Hid (¬ DecS p g gt) := hcb.new hst.out; have hg := hid_mod hgB (Mod.of_below (S := fun _ => False) bgt) (Lib.hid id); have hm : Mod (DecS p g) (wx.setCell ⟨bx, 0, none⟩ (.pointer (some ⟨p, 0, none⟩))) wt := Mod.of_below bgt; have ht : Hid (wt.heap[gt]? = some (.cells #[.bool false, .string ⟨#[]⟩, .int .i16 0, .int .i32 0, .slice none 0 0] 33 (0, 0))) := kgt; have cx := hc.cell; clear kgt hgt bgt))
  generalize (wx.setCell ⟨bx, 0, none⟩ (.pointer (some ⟨p, 0, none⟩))) = wb at *
  have h := hcb
  go_wp2_with fail
  refine (cl_has wt p g bx rv d 3 3 hc).mono ?_
  rintro e wh0 ⟨rfl, hc2, mn⟩
  replace hg := hid_mod hg mn hngb
  replace ht := hid_mod ht mn hnt
  replace hm := hm.trans mn
  replace hc := hc2
  have cx := hc.cell
  clear hc2 mn
  cases hh0 : d.has 3 3
  · -- no
    go_wp2_with fail
    refine (cl_i16 wh0 p g bx rv d hc).mono ?_
    rintro e wacks_1 ⟨rfl, hc2, mn⟩
    replace hg := hid_mod hg mn hngb
    replace ht := hid_mod ht mn hnt
    replace hm := hm.trans mn
    replace hc := hc2
    have cx := hc.cell
    clear hc2 mn
    have ft := fun i => blk_frozen ht.out i
    have t2 : wacks_1.cell? ⟨gt, 2, none⟩ = _ := blk_cell ht.out 2
    simp at t2
    have cx1 : (wacks_1.setCell ⟨gt, 2, none⟩ (.int .i16 (d.i16.1))).cell? ⟨bx, 0, none⟩ = some (.pointer (some ⟨p, 0, none⟩)) := (cell_far hbt).trans (hc.cell)
    have hc1 : Cl (wacks_1.setCell ⟨gt, 2, none⟩ (.int .i16 (d.i16.1))) p g bx rv d.i16.2 := (hc.far ht.out (by decide) (by decide) (by decide) (by decide) 2 _)
    have hg1 : Hid ((wacks_1.setCell ⟨gt, 2, none⟩ (.int .i16 (d.i16.1))).heap[gb]? = some (.cells #[.bool false, .string ⟨#[]⟩, .int .i16 0, .int .i32 0, .slice none 0 0] 33 (0, 0))) := (hid_far hg hgt2)
    have ht1 : Hid ((wacks_1.setCell ⟨gt, 2, none⟩ (.int .i16 (d.i16.1))).heap[gt]? = some (.cells #[.bool false, .string ⟨#[]⟩, .int .i16 (d.i16.1), .int .i32 0, .slice none 0 0] 33 (0, 0))) := hid_cast (hid_set ht 2 (.int .i16 (d.i16.1))) rfl
    have hm1 : Mod (DecS p g) wb (wacks_1.setCell ⟨gt, 2, none⟩ (.int .i16 (d.i16.1))) := (modFar hm hst 2 _)
    replace hc := hc1
    replace hg := hg1
    replace ht := ht1
    replace hm := hm1
    clear hc1 hg1 ht1 hm1
    go_wp2_with fail
    refine (cl_i32 (wacks_1.setCell ⟨gt, 2, none⟩ (.int .i16 (d.i16.1))) p g bx rv d.i16.2 hc).mono ?_
    rintro e wwait_2 ⟨rfl, hc2, mn⟩
    replace hg := hid_mod hg mn hngb
    replace ht := hid_mod ht mn hnt
    replace hm := hm.trans mn
    replace hc := hc2
    have cx := hc.cell
    clear hc2 mn
    have ft := fun i => blk_frozen ht.out i
    have t3 : wwait_2.cell? ⟨gt, 3, none⟩ = _ := blk_cell ht.out 3
    simp at t3
    have cx1 : (wwait_2.setCell ⟨gt, 3, none⟩ (.int .i32 (d.i16.2.i32.1))).cell? ⟨bx, 0, none⟩ = some (.pointer (some ⟨p, 0, none⟩)) := (cell_far hbt).trans (hc.cell)
    have hc1 : Cl (wwait_2.setCell ⟨gt, 3, none⟩ (.int .i32 (d.i16.2.i32.1))) p g bx rv d.i16.2.i32.2 := (hc.far ht.out (by decide) (by decide) (by decide) (by decide) 3 _)
    have hg1 : Hid ((wwait_2.setCell ⟨gt, 3, none⟩ (.int .i32 (d.i16.2.i32.1))).heap[gb]? = some (.cells #[.bool false, .string ⟨#[]⟩, .int .i16 0, .int .i32 0, .slice none 0 0] 33 (0, 0))) := (hid_far hg hgt2)
    have ht1 : Hid ((wwait_2.setCell ⟨gt, 3, none⟩ (.int .i32 (d.i16.2.i32.1))).heap[gt]? = some (.cells #[.bool false, .string ⟨#[]⟩, .int .i16 (d.i16.1), .int .i32 (d.i16.2.i32.1), .slice none 0 0] 33 (0, 0))) := hid_cast (hid_set ht 3 (.int .i32 (d.i16.2.i32.1))) rfl
    have hm1 : Mod (DecS p g) wb (wwait_2.setCell ⟨gt, 3, none⟩ (.int .i32 (d.i16.2.i32.1))) := (modFar hm hst 3 _)
    replace hc := hc1
    replace hg := hg1
    replace ht := ht1
    replace hm := hm1
    clear hc1 hg1 ht1 hm1
    go_wp2_with fail
    have hbtopics : Hid (wb.heap.size ≤ (wwait_2.setCell ⟨gt, 3, none⟩ (.int .i32 (d.i16.2.i32.1))).heap.size) := hm.size
    refine (cl_list_ProdTopic (wwait_2.setCell ⟨gt, 3, none⟩ (.int .i32 (d.i16.2.i32.1))) p g bx rv d.i16.2.i32.2 hc).mono ?_
    rintro e wtopics_3 ⟨Atopics, ctopics, rfl, rtopics, hc2, mn⟩
    replace hg := hid_mod hg mn hngb
    replace ht := hid_mod ht mn hnt
    replace hm := hm.trans mn
    replace hc := hc2
    have cx := hc.cell
    clear hc2 mn
    have ft := fun i => blk_frozen ht.out i
    have t4 : wtopics_3.cell? ⟨gt, 4, none⟩ = _ := blk_cell ht.out 4
    simp at t4
    have cx1 : (wtopics_3.setCell ⟨gt, 4, none⟩ (.slice Atopics (rdList rdProdTopic d.i16.2.i32.2).1.length ctopics)).cell? ⟨bx, 0, none⟩ = some (.pointer (some ⟨p, 0, none⟩)) := (cell_far hbt).trans (hc.cell)
    have hc1 : Cl (wtopics_3.setCell ⟨gt, 4, none⟩ (.slice Atopics (rdList rdProdTopic d.i16.2.i32.2).1.length ctopics)) p g bx rv ((rdList rdProdTopic d.i16.2.i32.2).2) := (hc.far ht.out (by decide) (by decide) (by decide) (by decide) 4 _)
    have hg1 : Hid ((wtopics_3.setCell ⟨gt, 4, none⟩ (.slice Atopics (rdList rdProdTopic d.i16.2.i32.2).1.length ctopics)).heap[gb]? = some (.cells #[.bool false, .string ⟨#[]⟩, .int .i16 0, .int .i32 0, .slice none 0 0] 33 (0, 0))) := (hid_far hg hgt2)
    have ht1 : Hid ((wtopics_3.setCell ⟨gt, 4, none⟩ (.slice Atopics (rdList rdProdTopic d.i16.2.i32.2).1.length ctopics)).heap[gt]? = some (.cells #[.bool false, .string ⟨#[]⟩, .int .i16 (d.i16.1), .int .i32 (d.i16.2.i32.1), .slice Atopics (rdList rdProdTopic d.i16.2.i32.2).1.length ctopics] 33 (0, 0))) := hid_cast (hid_set ht 4 (.slice Atopics (rdList rdProdTopic d.i16.2.i32.2).1.length ctopics)) rfl
    have hm1 : Mod (DecS p g) wb (wtopics_3.setCell ⟨gt, 4, none⟩ (.slice Atopics (rdList rdProdTopic d.i16.2.i32.2).1.length ctopics)) := (modFar hm hst 4 _)
    have rtopics1 := (Kd.R_set rtopics ht.out (by decide) 4 (.slice Atopics (rdList rdProdTopic d.i16.2.i32.2).1.length ctopics))
    replace hc := hc1
    replace hg := hg1
    replace ht := ht1
    replace hm := hm1
    replace rtopics := rtopics1
    clear hc1 hg1 ht1 hm1 rtopics1
    go_wp2_with fail
    refine (cl_end (wtopics_3.setCell ⟨gt, 4, none⟩ (.slice Atopics (rdList rdProdTopic d.i16.2.i32.2).1.length ctopics)) p g bx rv ((rdList rdProdTopic d.i16.2.i32.2).2) hc).mono ?_
    rintro e we ⟨rfl, mn⟩
    replace hg := hid_mod hg mn hngb
    replace ht := hid_mod ht mn hnt
    replace hm := hm.trans mn
    replace rtopics := R_mod rtopics mn (fun k hk => h.new (Nat.le_trans hbtopics.out hk))
    have fg := fun i => blk_frozen hg.out i
    have t0 : we.cell? ⟨gt, 0, none⟩ = _ := blk_cell ht.out 0
    have z0 : we.cell? ⟨gb, 0, none⟩ = _ := blk_cell hg.out 0
    have t1 : we.cell? ⟨gt, 1, none⟩ = _ := blk_cell ht.out 1
    have z1 : we.cell? ⟨gb, 1, none⟩ = _ := blk_cell hg.out 1
    have t2 : we.cell? ⟨gt, 2, none⟩ = _ := blk_cell ht.out 2
    have z2 : we.cell? ⟨gb, 2, none⟩ = _ := blk_cell hg.out 2
    have t3 : we.cell? ⟨gt, 3, none⟩ = _ := blk_cell ht.out 3
    have z3 : we.cell? ⟨gb, 3, none⟩ = _ := blk_cell hg.out 3
    have t4 : we.cell? ⟨gt, 4, none⟩ = _ := blk_cell ht.out 4
    have z4 : we.cell? ⟨gb, 4, none⟩ = _ := blk_cell hg.out 4
    simp at t0 z0 t1 z1 t2 z2 t3 z3 t4 z4
    have erd : rdProdReq d = (⟨⟨false, ⟨#[]⟩⟩, d.i16.1, d.i16.2.i32.1, (rdList rdProdTopic d.i16.2.i32.2).1⟩, (rdList rdProdTopic d.i16.2.i32.2).2) := by simp only [rdProdReq, hh0, Bool.false_eq_true, if_true, if_false]
    have hbe : Below w.heap.size w we := Below.mod hbw hbw.size hm (fun i hi hs => by have := bgb.size; rcases hs with rfl | rfl <;> omega)
    by_cases hfin : ((rdList rdProdTopic d.i16.2.i32.2).2).fin = 0
    · have hf1 : (((rdList rdProdTopic d.i16.2.i32.2).2).fin != 0) = false := by simp [hfin]
      have edc : Hid (decFin (⟨⟨false, ⟨#[]⟩⟩, 0, 0, []⟩ : ProdReq) (rdProdReq d) = (⟨⟨false, ⟨#[]⟩⟩, d.i16.1, d.i16.2.i32.1, (rdList rdProdTopic d.i16.2.i32.2).1⟩, 0)) := Lib.hid (by rw [erd]; exact decFin_ok hfin)
      clear hfin erd
      go_wp2
      refine bodyPost_ret (v := .tuple #[.agg #[.bool false, .string ⟨#[]⟩, .int .i16 (d.i16.1), .int .i32 (d.i16.2.i32.1), .slice Atopics (rdList rdProdTopic d.i16.2.i32.2).1.length ctopics], .int .i64 (0)]) (by simp [results, Tryz.results13, go_sem, z0, z1, z2, z3, z4]) rfl ?_
      rw [edc.out]
      exact ⟨[.bool false, .string ⟨#[]⟩, .int .i16 (d.i16.1), .int .i32 (d.i16.2.i32.1), .slice Atopics (rdList rdProdTopic d.i16.2.i32.2).1.length ctopics], rfl, kProdReq_mkM _ _ _ (⟨⟨false, ⟨#[]⟩⟩, d.i16.1, d.i16.2.i32.1, (rdList rdProdTopic d.i16.2.i32.2).1⟩ : ProdReq) (Kd.R_lower (Kd.R_set (Kd.R_set (Kd.R_set (Kd.R_set (Kd.R_set rtopics hg.out (by decide) 0 _) (hid_set hg 0 _).out (by decide) 1 _) (hid_set (hid_set hg 0 _) 1 _).out (by decide) 2 _) (hid_set (hid_set (hid_set hg 0 _) 1 _) 2 _).out (by decide) 3 _) (hid_set (hid_set (hid_set (hid_set hg 0 _) 1 _) 2 _) 3 _).out (by decide) 4 _) (Nat.le_trans hbw.size hbtopics.out)), (Below.setCell (Below.setCell (Below.setCell (Below.setCell (Below.setCell hbe (p := ⟨gb, 0, none⟩) hsgb.out _) (p := ⟨gb, 1, none⟩) hsgb.out _) (p := ⟨gb, 2, none⟩) hsgb.out _) (p := ⟨gb, 3, none⟩) hsgb.out _) (p := ⟨gb, 4, none⟩) hsgb.out _)⟩
    · have hf1 : (((rdList rdProdTopic d.i16.2.i32.2).2).fin != 0) = true := by simp [hfin]
      have edc : Hid (decFin (⟨⟨false, ⟨#[]⟩⟩, 0, 0, []⟩ : ProdReq) (rdProdReq d) = (⟨⟨false, ⟨#[]⟩⟩, 0, 0, []⟩, ((rdList rdProdTopic d.i16.2.i32.2).2).fin)) := Lib.hid (by rw [erd]; exact decFin_bad hfin)
      clear hfin erd
      go_wp2
      refine bodyPost_ret (v := .tuple #[.agg #[.bool false, .string ⟨#[]⟩, .int .i16 0, .int .i32 0, .slice none 0 0], .int .i64 (((rdList rdProdTopic d.i16.2.i32.2).2).fin)]) (by simp [results, Tryz.results13, go_sem, z0, z1, z2, z3, z4]) rfl ?_
      rw [edc.out]
      exact ⟨[.bool false, .string ⟨#[]⟩, .int .i16 0, .int .i32 0, .slice none 0 0], rfl, kProdReq_mkM _ _ _ (⟨⟨false, ⟨#[]⟩⟩, 0, 0, []⟩ : ProdReq) (Kd.R_nil _ _ _ _ _), (Below.setCell (Below.setCell (Below.setCell (Below.setCell (Below.setCell hbe (p := ⟨gb, 0, none⟩) hsgb.out _) (p := ⟨gb, 1, none⟩) hsgb.out _) (p := ⟨gb, 2, none⟩) hsgb.out _) (p := ⟨gb, 3, none⟩) hsgb.out _) (p := ⟨gb, 4, none⟩) hsgb.out _)⟩
  · -- yes
    go_wp2_with fail
    refine (cl_nameV wh0 p g bx rv d hc).mono ?_
    rintro e wtxn_0 ⟨rfl, hc2, mn⟩
    replace hg := hid_mod hg mn hngb
    replace ht := hid_mod ht mn hnt
    replace hm := hm.trans mn
    replace hc := hc2
    have cx := hc.cell
    clear hc2 mn
    have ft := fun i => blk_frozen ht.out i
    have t0 : wtxn_0.cell? ⟨gt, 0, none⟩ = _ := blk_cell ht.out 0
    have t1 : wtxn_0.cell? ⟨gt, 1, none⟩ = _ := blk_cell ht.out 1
    simp at t0 t1
    have cx1 : ((wtxn_0.setCell ⟨gt, 0, none⟩ (.bool d.nameV.1.null)).setCell ⟨gt, 1, none⟩ (.string d.nameV.1.s)).cell? ⟨bx, 0, none⟩ = some (.pointer (some ⟨p, 0, none⟩)) := (cell_far hbt).trans ((cell_far hbt).trans (hc.cell))
    have hc1 : Cl ((wtxn_0.setCell ⟨gt, 0, none⟩ (.bool d.nameV.1.null)).setCell ⟨gt, 1, none⟩ (.string d.nameV.1.s)) p g bx rv d.nameV.2 := ((hc.far ht.out (by decide) (by decide) (by decide) (by decide) 0 _).far (hid_set ht 0 (.bool d.nameV.1.null)).out (by decide) (by decide) (by decide) (by decide) 1 _)
    have hg1 : Hid (((wtxn_0.setCell ⟨gt, 0, none⟩ (.bool d.nameV.1.null)).setCell ⟨gt, 1, none⟩ (.string d.nameV.1.s)).heap[gb]? = some (.cells #[.bool false, .string ⟨#[]⟩, .int .i16 0, .int .i32 0, .slice none 0 0] 33 (0, 0))) := (hid_far (hid_far hg hgt2) hgt2)
    have ht1 : Hid (((wtxn_0.setCell ⟨gt, 0, none⟩ (.bool d.nameV.1.null)).setCell ⟨gt, 1, none⟩ (.string d.nameV.1.s)).heap[gt]? = some (.cells #[.bool d.nameV.1.null, .string d.nameV.1.s, .int .i16 0, .int .i32 0, .slice none 0 0] 33 (0, 0))) := hid_cast (hid_set (hid_set ht 0 (.bool d.nameV.1.null)) 1 (.string d.nameV.1.s)) rfl
    have hm1 : Mod (DecS p g) wb ((wtxn_0.setCell ⟨gt, 0, none⟩ (.bool d.nameV.1.null)).setCell ⟨gt, 1, none⟩ (.string d.nameV.1.s)) := (modFar (modFar hm hst 0 _) hst 1 _)
    replace hc := hc1
    replace hg := hg1
    replace ht := ht1
    replace hm := hm1
    clear hc1 hg1 ht1 hm1
    go_wp2_with fail
    refine (cl_i16 ((wtxn_0.setCell ⟨gt, 0, none⟩ (.bool d.nameV.1.null)).setCell ⟨gt, 1, none⟩ (.string d.nameV.1.s)) p g bx rv d.nameV.2 hc).mono ?_
    rintro e wacks_1 ⟨rfl, hc2, mn⟩
    replace hg := hid_mod hg mn hngb
    replace ht := hid_mod ht mn hnt
    replace hm := hm.trans mn
    replace hc := hc2
    have cx := hc.cell
    clear hc2 mn
    have ft := fun i => blk_frozen ht.out i
    have t2 : wacks_1.cell? ⟨gt, 2, none⟩ = _ := blk_cell ht.out 2
    simp at t2
    have cx1 : (wacks_1.setCell ⟨gt, 2, none⟩ (.int .i16 (d.nameV.2.i16.1))).cell? ⟨bx, 0, none⟩ = some (.pointer (some ⟨p, 0, none⟩)) := (cell_far hbt).trans (hc.cell)
    have hc1 : Cl (wacks_1.setCell ⟨gt, 2, none⟩ (.int .i16 (d.nameV.2.i16.1))) p g bx rv d.nameV.2.i16.2 := (hc.far ht.out (by decide) (by decide) (by decide) (by decide) 2 _)
    have hg1 : Hid ((wacks_1.setCell ⟨gt, 2, none⟩ (.int .i16 (d.nameV.2.i16.1))).heap[gb]? = some (.cells #[.bool false, .string ⟨#[]⟩, .int .i16 0, .int .i32 0, .slice none 0 0] 33 (0, 0))) := (hid_far hg hgt2)
    have ht1 : Hid ((wacks_1.setCell ⟨gt, 2, none⟩ (.int .i16 (d.nameV.2.i16.1))).heap[gt]? = some (.cells #[.bool d.nameV.1.null, .string d.nameV.1.s, .int .i16 (d.nameV.2.i16.1), .int .i32 0, .slice none 0 0] 33 (0, 0))) := hid_cast (hid_set ht 2 (.int .i16 (d.nameV.2.i16.1))) rfl
    have hm1 : Mod (DecS p g) wb (wacks_1.setCell ⟨gt, 2, none⟩ (.int .i16 (d.nameV.2.i16.1))) := (modFar hm hst 2 _)
    replace hc := hc1
    replace hg := hg1
    replace ht := ht1
    replace hm := hm1
    clear hc1 hg1 ht1 hm1
    go_wp2_with fail
    refine (cl_i32 (wacks_1.setCell ⟨gt, 2, none⟩ (.int .i16 (d.nameV.2.i16.1))) p g bx rv d.nameV.2.i16.2 hc).mono ?_
    rintro e wwait_2 ⟨rfl, hc2, mn⟩
    replace hg := hid_mod hg mn hngb
    replace ht := hid_mod ht mn hnt
    replace hm := hm.trans mn
    replace hc := hc2
    have cx := hc.cell
    clear hc2 mn
    have ft := fun i => blk_frozen ht.out i
    have t3 : wwait_2.cell? ⟨gt, 3, none⟩ = _ := blk_cell ht.out 3
    simp at t3
    have cx1 : (wwait_2.setCell ⟨gt, 3, none⟩ (.int .i32 (d.nameV.2.i16.2.i32.1))).cell? ⟨bx, 0, none⟩ = some (.pointer (some ⟨p, 0, none⟩)) := (cell_far hbt).trans (hc.cell)
    have hc1 : Cl (wwait_2.setCell ⟨gt, 3, none⟩ (.int .i32 (d.nameV.2.i16.2.i32.1))) p g bx rv d.nameV.2.i16.2.i32.2 := (hc.far ht.out (by decide) (by decide) (by decide) (by decide) 3 _)
    have hg1 : Hid ((wwait_2.setCell ⟨gt, 3, none⟩ (.int .i32 (d.nameV.2.i16.2.i32.1))).heap[gb]? = some (.cells #[.bool false, .string ⟨#[]⟩, .int .i16 0, .int .i32 0, .slice none 0 0] 33 (0, 0))) := (hid_far hg hgt2)
    have ht1 : Hid ((wwait_2.setCell ⟨gt, 3, none⟩ (.int .i32 (d.nameV.2.i16.2.i32.1))).heap[gt]? = some (.cells #[.bool d.nameV.1.null, .string d.nameV.1.s, .int .i16 (d.nameV.2.i16.1), .int .i32 (d.nameV.2.i16.2.i32.1), .slice none 0 0] 33 (0, 0))) := hid_cast (hid_set ht 3 (.int .i32 (d.nameV.2.i16.2.i32.1))) rfl
    have hm1 : Mod (DecS p g) wb (wwait_2.setCell ⟨gt, 3, none⟩ (.int .i32 (d.nameV.2.i16.2.i32.1))) := (modFar hm hst 3 _)
    replace hc := hc1
    replace hg := hg1
    replace ht := ht1
    replace hm := hm1
    clear hc1 hg1 ht1 hm1
    go_wp2_with fail
    have hbtopics : Hid (wb.heap.size ≤ (wwait_2.setCell ⟨gt, 3, none⟩ (.int .i32 (d.nameV.2.i16.2.i32.1))).heap.size) := hm.size
    refine (cl_list_ProdTopic (wwait_2.setCell ⟨gt, 3, none⟩ (.int .i32 (d.nameV.2.i16.2.i32.1))) p g bx rv d.nameV.2.i16.2.i32.2 hc).mono ?_
    rintro e wtopics_3 ⟨Atopics, ctopics, rfl, rtopics, hc2, mn⟩
    replace hg := hid_mod hg mn hngb
    replace ht := hid_mod ht mn hnt
    replace hm := hm.trans mn
    replace hc := hc2
    have cx := hc.cell
    clear hc2 mn
    have ft := fun i => blk_frozen ht.out i
    have t4 : wtopics_3.cell? ⟨gt, 4, none⟩ = _ := blk_cell ht.out 4
    simp at t4
    have cx1 : (wtopics_3.setCell ⟨gt, 4, none⟩ (.slice Atopics (rdList rdProdTopic d.nameV.2.i16.2.i32.2).1.length ctopics)).cell? ⟨bx, 0, none⟩ = some (.pointer (some ⟨p, 0, none⟩)) := (cell_far hbt).trans (hc.cell)
    have hc1 : Cl (wtopics_3.setCell ⟨gt, 4, none⟩ (.slice Atopics (rdList rdProdTopic d.nameV.2.i16.2.i32.2).1.length ctopics)) p g bx rv ((rdList rdProdTopic d.nameV.2.i16.2.i32.2).2) := (hc.far ht.out (by decide) (by decide) (by decide) (by decide) 4 _)
    have hg1 : Hid ((wtopics_3.setCell ⟨gt, 4, none⟩ (.slice Atopics (rdList rdProdTopic d.nameV.2.i16.2.i32.2).1.length ctopics)).heap[gb]? = some (.cells #[.bool false, .string ⟨#[]⟩, .int .i16 0, .int .i32 0, .slice none 0 0] 33 (0, 0))) := (hid_far hg hgt2)
    have ht1 : Hid ((wtopics_3.setCell ⟨gt, 4, none⟩ (.slice Atopics (rdList rdProdTopic d.nameV.2.i16.2.i32.2).1.length ctopics)).heap[gt]? = some (.cells #[.bool d.nameV.1.null, .string d.nameV.1.s, .int .i16 (d.nameV.2.i16.1), .int .i32 (d.nameV.2.i16.2.i32.1), .slice Atopics (rdList rdProdTopic d.nameV.2.i16.2.i32.2).1.length ctopics] 33 (0, 0))) := hid_cast (hid_set ht 4 (.slice Atopics (rdList rdProdTopic d.nameV.2.i16.2.i32.2).1.length ctopics)) rfl
    have hm1 : Mod (DecS p g) wb (wtopics_3.setCell ⟨gt, 4, none⟩ (.slice Atopics (rdList rdProdTopic d.nameV.2.i16.2.i32.2).1.length ctopics)) := (modFar hm hst 4 _)
    have rtopics1 := (Kd.R_set rtopics ht.out (by decide) 4 (.slice Atopics (rdList rdProdTopic d.nameV.2.i16.2.i32.2).1.length ctopics))
    replace hc := hc1
    replace hg := hg1
    replace ht := ht1
    replace hm := hm1
    replace rtopics := rtopics1
    clear hc1 hg1 ht1 hm1 rtopics1
    go_wp2_with fail
    refine (cl_end (wtopics_3.setCell ⟨gt, 4, none⟩ (.slice Atopics (rdList rdProdTopic d.nameV.2.i16.2.i32.2).1.length ctopics)) p g bx rv ((rdList rdProdTopic d.nameV.2.i16.2.i32.2).2) hc).mono ?_
    rintro e we ⟨rfl, mn⟩
    replace hg := hid_mod hg mn hngb
    replace ht := hid_mod ht mn hnt
    replace hm := hm.trans mn
    replace rtopics := R_mod rtopics mn (fun k hk => h.new (Nat.le_trans hbtopics.out hk))
    have fg := fun i => blk_frozen hg.out i
    have t0 : we.cell? ⟨gt, 0, none⟩ = _ := blk_cell ht.out 0
    have z0 : we.cell? ⟨gb, 0, none⟩ = _ := blk_cell hg.out 0
    have t1 : we.cell? ⟨gt, 1, none⟩ = _ := blk_cell ht.out 1
    have z1 : we.cell? ⟨gb, 1, none⟩ = _ := blk_cell hg.out 1
    have t2 : we.cell? ⟨gt, 2, none⟩ = _ := blk_cell ht.out 2
    have z2 : we.cell? ⟨gb, 2, none⟩ = _ := blk_cell hg.out 2
    have t3 : we.cell? ⟨gt, 3, none⟩ = _ := blk_cell ht.out 3
    have z3 : we.cell? ⟨gb, 3, none⟩ = _ := blk_cell hg.out 3
    have t4 : we.cell? ⟨gt, 4, none⟩ = _ := blk_cell ht.out 4
    have z4 : we.cell? ⟨gb, 4, none⟩ = _ := blk_cell hg.out 4
    simp at t0 z0 t1 z1 t2 z2 t3 z3 t4 z4
    have erd : rdProdReq d = (⟨d.nameV.1, d.nameV.2.i16.1, d.nameV.2.i16.2.i32.1, (rdList rdProdTopic d.nameV.2.i16.2.i32.2).1⟩, (rdList rdProdTopic d.nameV.2.i16.2.i32.2).2) := by simp only [rdProdReq, hh0, Bool.false_eq_true, if_true, if_false]
    have hbe : Below w.heap.size w we := Below.mod hbw hbw.size hm (fun i hi hs => by have := bgb.size; rcases hs with rfl | rfl <;> omega)
    by_cases hfin : ((rdList rdProdTopic d.nameV.2.i16.2.i32.2).2).fin = 0
    · have hf1 : (((rdList rdProdTopic d.nameV.2.i16.2.i32.2).2).fin != 0) = false := by simp [hfin]
      have edc : Hid (decFin (⟨⟨false, ⟨#[]⟩⟩, 0, 0, []⟩ : ProdReq) (rdProdReq d) = (⟨d.nameV.1, d.nameV.2.i16.1, d.nameV.2.i16.2.i32.1, (rdList rdProdTopic d.nameV.2.i16.2.i32.2).1⟩, 0)) := Lib.hid (by rw [erd]; exact decFin_ok hfin)
      clear hfin erd
      go_wp2
      refine bodyPost_ret (v := .tuple #[.agg #[.bool d.nameV.1.null, .string d.nameV.1.s, .int .i16 (d.nameV.2.i16.1), .int .i32 (d.nameV.2.i16.2.i32.1), .slice Atopics (rdList rdProdTopic d.nameV.2.i16.2.i32.2).1.length ctopics], .int .i64 (0)]) (by simp [results, Tryz.results13, go_sem, z0, z1, z2, z3, z4]) rfl ?_
      rw [edc.out]
      exact ⟨[.bool d.nameV.1.null, .string d.nameV.1.s, .int .i16 (d.nameV.2.i16.1), .int .i32 (d.nameV.2.i16.2.i32.1), .slice Atopics (rdList rdProdTopic d.nameV.2.i16.2.i32.2).1.length ctopics], rfl, kProdReq_mkM _ _ _ (⟨d.nameV.1, d.nameV.2.i16.1, d.nameV.2.i16.2.i32.1, (rdList rdProdTopic d.nameV.2.i16.2.i32.2).1⟩ : ProdReq) (Kd.R_lower (Kd.R_set (Kd.R_set (Kd.R_set (Kd.R_set (Kd.R_set rtopics hg.out (by decide) 0 _) (hid_set hg 0 _).out (by decide) 1 _) (hid_set (hid_set hg 0 _) 1 _).out (by decide) 2 _) (hid_set (hid_set (hid_set hg 0 _) 1 _) 2 _).out (by decide) 3 _) (hid_set (hid_set (hid_set (hid_set hg 0 _) 1 _) 2 _) 3 _).out (by decide) 4 _) (Nat.le_trans hbw.size hbtopics.out)), (Below.setCell (Below.setCell (Below.setCell (Below.setCell (Below.setCell hbe (p := ⟨gb, 0, none⟩) hsgb.out _) (p := ⟨gb, 1, none⟩) hsgb.out _) (p := ⟨gb, 2, none⟩) hsgb.out _) (p := ⟨gb, 3, none⟩) hsgb.out _) (p := ⟨gb, 4, none⟩) hsgb.out _)⟩
    · have hf1 : (((rdList rdProdTopic d.nameV.2.i16.2.i32.2).2).fin != 0) = true := by simp [hfin]
      have edc : Hid (decFin (⟨⟨false, ⟨#[]⟩⟩, 0, 0, []⟩ : ProdReq) (rdProdReq d) = (⟨⟨false, ⟨#[]⟩⟩, 0, 0, []⟩, ((rdList rdProdTopic d.nameV.2.i16.2.i32.2).2).fin)) := Lib.hid (by rw [erd]; exact decFin_bad hfin)
      clear hfin erd
      go_wp2
      refine bodyPost_ret (v := .tuple #[.agg #[.bool false, .string ⟨#[]⟩, .int .i16 0, .int .i32 0, .slice none 0 0], .int .i64 (((rdList rdProdTopic d.nameV.2.i16.2.i32.2).2).fin)]) (by simp [results, Tryz.results13, go_sem, z0, z1, z2, z3, z4]) rfl ?_
      rw [edc.out]
      exact ⟨[.bool false, .string ⟨#[]⟩, .int .i16 0, .int .i32 0, .slice none 0 0], rfl, kProdReq_mkM _ _ _ (⟨⟨false, ⟨#[]⟩⟩, 0, 0, []⟩ : ProdReq) (Kd.R_nil _ _ _ _ _), (Below.setCell (Below.setCell (Below.setCell (Below.setCell (Below.setCell hbe (p := ⟨gb, 0, none⟩) hsgb.out _) (p := ⟨gb, 1, none⟩) hsgb.out _) (p := ⟨gb, 2, none⟩) hsgb.out _) (p := ⟨gb, 3, none⟩) hsgb.out _) (p := ⟨gb, 4, none⟩) hsgb.out _)⟩

end Go.Proofs.YteckmgmcfngddaaGreat
end

section
/- The reader of a part: FetchPart. -/
set_option linter.unusedVariables false
set_option linter.unusedSimpArgs false
namespace Go.Proofs.YteckmgmcfngddaaGreat
open Go.RowKit Go.Proofs.YteckmgmcfngddaaGreatW.PrintWords

def rdFetchPart (d : DS) : FetchPart × DS :=
  let r0 := d.i32
  let r1 := if r0.2.has 3 3 = true then r0.2.i32 else (0, r0.2)
  let r2 := r1.2.i64
  let r3 := r2.2.i32
  (⟨r0.1, r2.1, r1.1, r3.1⟩, r3.2)

set_option maxRecDepth 100000 in
set_option maxHeartbeats 6400000 in
theorem cl_FetchPart (w : World) (p g bx : Nat) (rv : Value) (d : DS) (h : Cl w p g bx rv d) :
    Calls Tryz.prog 121 #[.pointer (some ⟨bx, 0, none⟩)] w (ClPostM kFetchPart p g bx rv (rdFetchPart d).1 (rdFetchPart d).2 w) := by
  have hmf : ∀ (fn : Fn) (first cap : Array Value) (w : World), (Instr.makeFunc fn first cap).run Tryz.prog w = .ok (.func fn first cap) w := fun _ _ _ _ => rfl
  go_enter Tryz.func121, Tryz.ntmps121
  go_wp2_with (first | ((with_reducible refine gate_dst (N := 1) rfl ?_); refine box_event ?hg (N := 1) ?hd (cs := #[.int .i32 0, .int .i64 0, .int .i32 0, .int .i32 0]) (t := 212) ?hr ?_; (case hd => rfl); (case hg => rfl); (case hr => first | (go_simp; done) | (go_simp; rfl)); intro gb hgb w0 kgb bgb; have hc0 := h.below bgb; have hm0 : Mod (DecS p g) w w0 := Mod.of_below bgb; have hg0 : Hid (w0.heap[gb]? = some (.cells #[.int .i32 0, .int .i64 0, .int .i32 0, .int .i32 0] 212 (0, 0))) := kgb; have hc := h.below bgb; have hbx := blk_ne hc.box kgb (by decide); have hngb : Hid (¬ DecS p g gb) := h.new (Nat.le_of_eq hgb.symm); have hsgb : Hid (w.heap.size ≤ gb) := Nat.le_of_eq hgb.symm; have hg : Hid (w0.heap[gb]? = some (.cells #[.int .i32 0, .int .i64 0, .int .i32 0, .int .i32 0] 212 (0, 0))) := kgb; have hm : Mod (DecS p g) w w0 := (Mod.of_below bgb); have cx := hc.cell; clear hgb kgb bgb))
  refine (cl_i32 w0 p g bx rv d hc).mono ?_
  rintro e w1 ⟨rfl, hc2, mn⟩
  have hg := hid_mod hg mn hngb
  have hm := hm.trans mn
  have hc := hc2
  have cx := hc.cell
  clear hc2 mn
  go_wp2_with (first | ((with_reducible refine gate_dst (N := 2) rfl ?_); refine box_event ?hg (N := 2) ?hd (cs := #[.int .i32 0, .int .i64 0, .int .i32 0, .int .i32 0]) (t := 212) ?hr ?_; (case hd => rfl); (case hg => rfl); (case hr => first | (go_simp; done) | (go_simp; rfl)); intro gt hgt wt kgt bgt; have hc := hc.below bgt; have hbt := blk_ne hc.box kgt (by decide); have hst : Hid (w.heap.size ≤ gt) := Nat.le_trans hm.size (Nat.le_of_eq hgt.symm); have hgt2 : Hid (gb ≠ gt) := Nat.ne_of_lt (Nat.lt_of_lt_of_le (blk_lt hg.out) (Nat.le_of_eq hgt.symm)); have hnt : Hid (¬ DecS p g gt) := h.new hst.out; have hg := hid_mod hg (Mod.of_below (S := fun _ => False) bgt) (Lib.hid id); have hm := hm.trans (Mod.of_below bgt); have ht : Hid (wt.heap[gt]? = some (.cells #[.int .i32 0, .int .i64 0, .int .i32 0, .int .i32 0] 212 (0, 0))) := kgt; clear kgt hgt bgt; have ft := fun i => blk_frozen ht.out i; have t0 : wt.cell? ⟨gt, 0, none⟩ = _ := blk_cell ht.out 0; have t1 : wt.cell? ⟨gt, 1, none⟩ = _ := blk_cell ht.out 1; have t2 : wt.cell? ⟨gt, 2, none⟩ = _ := blk_cell ht.out 2; have t3 : wt.cell? ⟨gt, 3, none⟩ = _ := blk_cell ht.out 3; simp at t0 t1 t2 t3; have cx : ((((wt.setCell ⟨gt, 0, none⟩ (.int .i32 (d.i32.1))).setCell ⟨gt, 1, none⟩ (.int .i64 0)).setCell ⟨gt, 2, none⟩ (.int .i32 0)).setCell ⟨gt, 3, none⟩ (.int .i32 0)).cell? ⟨bx, 0, none⟩ = some (.pointer (some ⟨p, 0, none⟩)) := (cell_far hbt).trans ((cell_far hbt).trans ((cell_far hbt).trans ((cell_far hbt).trans (hc.cell))))))
  have hc1 : Cl (((((wt.setCell ⟨gt, 0, none⟩ (.int .i32 (d.i32.1))).setCell ⟨gt, 1, none⟩ (.int .i64 0)).setCell ⟨gt, 2, none⟩ (.int .i32 0)).setCell ⟨gt, 3, none⟩ (.int .i32 0))) p g bx rv d.i32.2 := ((((hc.far ht.out (by decide) (by decide) (by decide) (by decide) 0 _).far (hid_set ht 0 _).out (by decide) (by decide) (by decide) (by decide) 1 _).far (hid_set (hid_set ht 0 _) 1 _).out (by decide) (by decide) (by decide) (by decide) 2 _).far (hid_set (hid_set (hid_set ht 0 _) 1 _) 2 _).out (by decide) (by decide) (by decide) (by decide) 3 _)
  have hg1 : Hid ((((((wt.setCell ⟨gt, 0, none⟩ (.int .i32 (d.i32.1))).setCell ⟨gt, 1, none⟩ (.int .i64 0)).setCell ⟨gt, 2, none⟩ (.int .i32 0)).setCell ⟨gt, 3, none⟩ (.int .i32 0))).heap[gb]? = some (.cells #[.int .i32 0, .int .i64 0, .int .i32 0, .int .i32 0] 212 (0, 0))) := (hid_far (hid_far (hid_far (hid_far hg hgt2) hgt2) hgt2) hgt2)
  have ht1 : Hid ((((((wt.setCell ⟨gt, 0, none⟩ (.int .i32 (d.i32.1))).setCell ⟨gt, 1, none⟩ (.int .i64 0)).setCell ⟨gt, 2, none⟩ (.int .i32 0)).setCell ⟨gt, 3, none⟩ (.int .i32 0))).heap[gt]? = some (.cells #[.int .i32 (d.i32.1), .int .i64 0, .int .i32 0, .int .i32 0] 212 (0, 0))) := hid_cast (hid_set (hid_set (hid_set (hid_set ht 0 _) 1 _) 2 _) 3 _) rfl
  have hm1 : Mod (DecS p g) w (((((wt.setCell ⟨gt, 0, none⟩ (.int .i32 (d.i32.1))).setCell ⟨gt, 1, none⟩ (.int .i64 0)).setCell ⟨gt, 2, none⟩ (.int .i32 0)).setCell ⟨gt, 3, none⟩ (.int .i32 0))) := (modFar (modFar (modFar (modFar hm hst 0 _) hst 1 _) hst 2 _) hst 3 _)
  generalize ((((wt.setCell ⟨gt, 0, none⟩ (.int .i32 (d.i32.1))).setCell ⟨gt, 1, none⟩ (.int .i64 0)).setCell ⟨gt, 2, none⟩ (.int .i32 0)).setCell ⟨gt, 3, none⟩ (.int .i32 0)) = wc at *
  replace hc := hc1
  replace hg := hg1
  replace ht := ht1
  replace hm := hm1
  clear hc1 hg1 ht1 hm1
  go_wp2_with fail
  refine (cl_has wc p g bx rv d.i32.2 3 3 hc).mono ?_
  rintro e wh0 ⟨rfl, hc2, mn⟩
  replace hg := hid_mod hg mn hngb
  replace ht := hid_mod ht mn hnt
  replace hm := hm.trans mn
  replace hc := hc2
  have cx := hc.cell
  clear hc2 mn
  cases hh0 : d.i32.2.has 3 3
  · -- no
    go_wp2_with fail
    refine (cl_i64 wh0 p g bx rv d.i32.2 hc).mono ?_
    rintro e woffset_1 ⟨rfl, hc2, mn⟩
    replace hg := hid_mod hg mn hngb
    replace ht := hid_mod ht mn hnt
    replace hm := hm.trans mn
    replace hc := hc2
    have cx := hc.cell
    clear hc2 mn
    have ft := fun i => blk_frozen ht.out i
    have t1 : woffset_1.cell? ⟨gt, 1, none⟩ = _ := blk_cell ht.out 1
    simp at t1
    have cx1 : (woffset_1.setCell ⟨gt, 1, none⟩ (.int .i64 (d.i32.2.i64.1))).cell? ⟨bx, 0, none⟩ = some (.pointer (some ⟨p, 0, none⟩)) := (cell_far hbt).trans (hc.cell)
    have hc1 : Cl (woffset_1.setCell ⟨gt, 1, none⟩ (.int .i64 (d.i32.2.i64.1))) p g bx rv d.i32.2.i64.2 := (hc.far ht.out (by decide) (by decide) (by decide) (by decide) 1 _)
    have hg1 : Hid ((woffset_1.setCell ⟨gt, 1, none⟩ (.int .i64 (d.i32.2.i64.1))).heap[gb]? = some (.cells #[.int .i32 0, .int .i64 0, .int .i32 0, .int .i32 0] 212 (0, 0))) := (hid_far hg hgt2)
    have ht1 : Hid ((woffset_1.setCell ⟨gt, 1, none⟩ (.int .i64 (d.i32.2.i64.1))).heap[gt]? = some (.cells #[.int .i32 (d.i32.1), .int .i64 (d.i32.2.i64.1), .int .i32 0, .int .i32 0] 212 (0, 0))) := hid_cast (hid_set ht 1 (.int .i64 (d.i32.2.i64.1))) rfl
    have hm1 : Mod (DecS p g) w (woffset_1.setCell ⟨gt, 1, none⟩ (.int .i64 (d.i32.2.i64.1))) := (modFar hm hst 1 _)
    replace hc := hc1
    replace hg := hg1
    replace ht := ht1
    replace hm := hm1
    clear hc1 hg1 ht1 hm1
    go_wp2_with fail
    refine (cl_i32 (woffset_1.setCell ⟨gt, 1, none⟩ (.int .i64 (d.i32.2.i64.1))) p g bx rv d.i32.2.i64.2 hc).mono ?_
    rintro e wmax_2 ⟨rfl, hc2, mn⟩
    replace hg := hid_mod hg mn hngb
    replace ht := hid_mod ht mn hnt
    replace hm := hm.trans mn
    replace hc := hc2
    have cx := hc.cell
    clear hc2 mn
    have ft := fun i => blk_frozen ht.out i
    have t3 : wmax_2.cell? ⟨gt, 3, none⟩ = _ := blk_cell ht.out 3
    simp at t3
    have cx1 : (wmax_2.setCell ⟨gt, 3, none⟩ (.int .i32 (d.i32.2.i64.2.i32.1))).cell? ⟨bx, 0, none⟩ = some (.pointer (some ⟨p, 0, none⟩)) := (cell_far hbt).trans (hc.cell)
    have hc1 : Cl (wmax_2.setCell ⟨gt, 3, none⟩ (.int .i32 (d.i32.2.i64.2.i32.1))) p g bx rv d.i32.2.i64.2.i32.2 := (hc.far ht.out (by decide) (by decide) (by decide) (by decide) 3 _)
    have hg1 : Hid ((wmax_2.setCell ⟨gt, 3, none⟩ (.int .i32 (d.i32.2.i64.2.i32.1))).heap[gb]? = some (.cells #[.int .i32 0, .int .i64 0, .int .i32 0, .int .i32 0] 212 (0, 0))) := (hid_far hg hgt2)
    have ht1 : Hid ((wmax_2.setCell ⟨gt, 3, none⟩ (.int .i32 (d.i32.2.i64.2.i32.1))).heap[gt]? = some (.cells #[.int .i32 (d.i32.1), .int .i64 (d.i32.2.i64.1), .int .i32 0, .int .i32 (d.i32.2.i64.2.i32.1)] 212 (0, 0))) := hid_cast (hid_set ht 3 (.int .i32 (d.i32.2.i64.2.i32.1))) rfl
    have hm1 : Mod (DecS p g) w (wmax_2.setCell ⟨gt, 3, none⟩ (.int .i32 (d.i32.2.i64.2.i32.1))) := (modFar hm hst 3 _)
    replace hc := hc1
    replace hg := hg1
    replace ht := ht1
    replace hm := hm1
    clear hc1 hg1 ht1 hm1
    have fg := fun i => blk_frozen hg.out i
    have t0 : (wmax_2.setCell ⟨gt, 3, none⟩ (.int .i32 (d.i32.2.i64.2.i32.1))).cell? ⟨gt, 0, none⟩ = _ := blk_cell ht.out 0
    have z0 : (wmax_2.setCell ⟨gt, 3, none⟩ (.int .i32 (d.i32.2.i64.2.i32.1))).cell? ⟨gb, 0, none⟩ = _ := blk_cell hg.out 0
    have t1 : (wmax_2.setCell ⟨gt, 3, none⟩ (.int .i32 (d.i32.2.i64.2.i32.1))).cell? ⟨gt, 1, none⟩ = _ := blk_cell ht.out 1
    have z1 : (wmax_2.setCell ⟨gt, 3, none⟩ (.int .i32 (d.i32.2.i64.2.i32.1))).cell? ⟨gb, 1, none⟩ = _ := blk_cell hg.out 1
    have t2 : (wmax_2.setCell ⟨gt, 3, none⟩ (.int .i32 (d.i32.2.i64.2.i32.1))).cell? ⟨gt, 2, none⟩ = _ := blk_cell ht.out 2
    have z2 : (wmax_2.setCell ⟨gt, 3, none⟩ (.int .i32 (d.i32.2.i64.2.i32.1))).cell? ⟨gb, 2, none⟩ = _ := blk_cell hg.out 2
    have t3 : (wmax_2.setCell ⟨gt, 3, none⟩ (.int .i32 (d.i32.2.i64.2.i32.1))).cell? ⟨gt, 3, none⟩ = _ := blk_cell ht.out 3
    have z3 : (wmax_2.setCell ⟨gt, 3, none⟩ (.int .i32 (d.i32.2.i64.2.i32.1))).cell? ⟨gb, 3, none⟩ = _ := blk_cell hg.out 3
    simp at t0 z0 t1 z1 t2 z2 t3 z3
    go_wp2
    have erd : rdFetchPart d = (⟨d.i32.1, d.i32.2.i64.1, 0, d.i32.2.i64.2.i32.1⟩, d.i32.2.i64.2.i32.2) := by simp only [rdFetchPart, hh0, Bool.false_eq_true, if_true, if_false]
    rw [erd]
    refine bodyPost_ret (v := .agg #[.int .i32 (d.i32.1), .int .i64 (d.i32.2.i64.1), .int .i32 0, .int .i32 (d.i32.2.i64.2.i32.1)]) (by simp [results, Tryz.results121, go_sem, z0, z1, z2, z3]) rfl ⟨[.int .i32 (d.i32.1), .int .i64 (d.i32.2.i64.1), .int .i32 0, .int .i32 (d.i32.2.i64.2.i32.1)], rfl, ?_, ?_, ?_⟩
    · exact kFetchPart_mkM _ _ _ (⟨d.i32.1, d.i32.2.i64.1, 0, d.i32.2.i64.2.i32.1⟩ : FetchPart)
    · exact ((((hc.far hg.out (by decide) (by decide) (by decide) (by decide) 0 _).far (hid_set hg 0 _).out (by decide) (by decide) (by decide) (by decide) 1 _).far (hid_set (hid_set hg 0 _) 1 _).out (by decide) (by decide) (by decide) (by decide) 2 _).far (hid_set (hid_set (hid_set hg 0 _) 1 _) 2 _).out (by decide) (by decide) (by decide) (by decide) 3 _)
    · exact (modFar (modFar (modFar (modFar hm hsgb 0 _) hsgb 1 _) hsgb 2 _) hsgb 3 _)
  · -- yes
    go_wp2_with fail
    refine (cl_i32 wh0 p g bx rv d.i32.2 hc).mono ?_
    rintro e wepoch_0 ⟨rfl, hc2, mn⟩
    replace hg := hid_mod hg mn hngb
    replace ht := hid_mod ht mn hnt
    replace hm := hm.trans mn
    replace hc := hc2
    have cx := hc.cell
    clear hc2 mn
    have ft := fun i => blk_frozen ht.out i
    have t2 : wepoch_0.cell? ⟨gt, 2, none⟩ = _ := blk_cell ht.out 2
    simp at t2
    have cx1 : (wepoch_0.setCell ⟨gt, 2, none⟩ (.int .i32 (d.i32.2.i32.1))).cell? ⟨bx, 0, none⟩ = some (.pointer (some ⟨p, 0, none⟩)) := (cell_far hbt).trans (hc.cell)
    have hc1 : Cl (wepoch_0.setCell ⟨gt, 2, none⟩ (.int .i32 (d.i32.2.i32.1))) p g bx rv d.i32.2.i32.2 := (hc.far ht.out (by decide) (by decide) (by decide) (by decide) 2 _)
    have hg1 : Hid ((wepoch_0.setCell ⟨gt, 2, none⟩ (.int .i32 (d.i32.2.i32.1))).heap[gb]? = some (.cells #[.int .i32 0, .int .i64 0, .int .i32 0, .int .i32 0] 212 (0, 0))) := (hid_far hg hgt2)
    have ht1 : Hid ((wepoch_0.setCell ⟨gt, 2, none⟩ (.int .i32 (d.i32.2.i32.1))).heap[gt]? = some (.cells #[.int .i32 (d.i32.1), .int .i64 0, .int .i32 (d.i32.2.i32.1), .int .i32 0] 212 (0, 0))) := hid_cast (hid_set ht 2 (.int .i32 (d.i32.2.i32.1))) rfl
    have hm1 : Mod (DecS p g) w (wepoch_0.setCell ⟨gt, 2, none⟩ (.int .i32 (d.i32.2.i32.1))) := (modFar hm hst 2 _)
    replace hc := hc1
    replace hg := hg1
    replace ht := ht1
    replace hm := hm1
    clear hc1 hg1 ht1 hm1
    go_wp2_with fail
    refine (cl_i64 (wepoch_0.setCell ⟨gt, 2, none⟩ (.int .i32 (d.i32.2.i32.1))) p g bx rv d.i32.2.i32.2 hc).mono ?_
    rintro e woffset_1 ⟨rfl, hc2, mn⟩
    replace hg := hid_mod hg mn hngb
    replace ht := hid_mod ht mn hnt
    replace hm := hm.trans mn
    replace hc := hc2
    have cx := hc.cell
    clear hc2 mn
    have ft := fun i => blk_frozen ht.out i
    have t1 : woffset_1.cell? ⟨gt, 1, none⟩ = _ := blk_cell ht.out 1
    simp at t1
    have cx1 : (woffset_1.setCell ⟨gt, 1, none⟩ (.int .i64 (d.i32.2.i32.2.i64.1))).cell? ⟨bx, 0, none⟩ = some (.pointer (some ⟨p, 0, none⟩)) := (cell_far hbt).trans (hc.cell)
    have hc1 : Cl (woffset_1.setCell ⟨gt, 1, none⟩ (.int .i64 (d.i32.2.i32.2.i64.1))) p g bx rv d.i32.2.i32.2.i64.2 := (hc.far ht.out (by decide) (by decide) (by decide) (by decide) 1 _)
    have hg1 : Hid ((woffset_1.setCell ⟨gt, 1, none⟩ (.int .i64 (d.i32.2.i32.2.i64.1))).heap[gb]? = some (.cells #[.int .i32 0, .int .i64 0, .int .i32 0, .int .i32 0] 212 (0, 0))) := (hid_far hg hgt2)
    have ht1 : Hid ((woffset_1.setCell ⟨gt, 1, none⟩ (.int .i64 (d.i32.2.i32.2.i64.1))).heap[gt]? = some (.cells #[.int .i32 (d.i32.1), .int .i64 (d.i32.2.i32.2.i64.1), .int .i32 (d.i32.2.i32.1), .int .i32 0] 212 (0, 0))) := hid_cast (hid_set ht 1 (.int .i64 (d.i32.2.i32.2.i64.1))) rfl
    have hm1 : Mod (DecS p g) w (woffset_1.setCell ⟨gt, 1, none⟩ (.int .i64 (d.i32.2.i32.2.i64.1))) := (modFar hm hst 1 _)
    replace hc := hc1
    replace hg := hg1
    replace ht := ht1
    replace hm := hm1
    clear hc1 hg1 ht1 hm1
    go_wp2_with fail
    refine (cl_i32 (woffset_1.setCell ⟨gt, 1, none⟩ (.int .i64 (d.i32.2.i32.2.i64.1))) p g bx rv d.i32.2.i32.2.i64.2 hc).mono ?_
    rintro e wmax_2 ⟨rfl, hc2, mn⟩
    replace hg := hid_mod hg mn hngb
    replace ht := hid_mod ht mn hnt
    replace hm := hm.trans mn
    replace hc := hc2
    have cx := hc.cell
    clear hc2 mn
    have ft := fun i => blk_frozen ht.out i
    have t3 : wmax_2.cell? ⟨gt, 3, none⟩ = _ := blk_cell ht.out 3
    simp at t3
    have cx1 : (wmax_2.setCell ⟨gt, 3, none⟩ (.int .i32 (d.i32.2.i32.2.i64.2.i32.1))).cell? ⟨bx, 0, none⟩ = some (.pointer (some ⟨p, 0, none⟩)) := (cell_far hbt).trans (hc.cell)
    have hc1 : Cl (wmax_2.setCell ⟨gt, 3, none⟩ (.int .i32 (d.i32.2.i32.2.i64.2.i32.1))) p g bx rv d.i32.2.i32.2.i64.2.i32.2 := (hc.far ht.out (by decide) (by decide) (by decide) (by decide) 3 _)
    have hg1 : Hid ((wmax_2.setCell ⟨gt, 3, none⟩ (.int .i32 (d.i32.2.i32.2.i64.2.i32.1))).heap[gb]? = some (.cells #[.int .i32 0, .int .i64 0, .int .i32 0, .int .i32 0] 212 (0, 0))) := (hid_far hg hgt2)
    have ht1 : Hid ((wmax_2.setCell ⟨gt, 3, none⟩ (.int .i32 (d.i32.2.i32.2.i64.2.i32.1))).heap[gt]? = some (.cells #[.int .i32 (d.i32.1), .int .i64 (d.i32.2.i32.2.i64.1), .int .i32 (d.i32.2.i32.1), .int .i32 (d.i32.2.i32.2.i64.2.i32.1)] 212 (0, 0))) := hid_cast (hid_set ht 3 (.int .i32 (d.i32.2.i32.2.i64.2.i32.1))) rfl
    have hm1 : Mod (DecS p g) w (wmax_2.setCell ⟨gt, 3, none⟩ (.int .i32 (d.i32.2.i32.2.i64.2.i32.1))) := (modFar hm hst 3 _)
    replace hc := hc1
    replace hg := hg1
    replace ht := ht1
    replace hm := hm1
    clear hc1 hg1 ht1 hm1
    have fg := fun i => blk_frozen hg.out i
    have t0 : (wmax_2.setCell ⟨gt, 3, none⟩ (.int .i32 (d.i32.2.i32.2.i64.2.i32.1))).cell? ⟨gt, 0, none⟩ = _ := blk_cell ht.out 0
    have z0 : (wmax_2.setCell ⟨gt, 3, none⟩ (.int .i32 (d.i32.2.i32.2.i64.2.i32.1))).cell? ⟨gb, 0, none⟩ = _ := blk_cell hg.out 0
    have t1 : (wmax_2.setCell ⟨gt, 3, none⟩ (.int .i32 (d.i32.2.i32.2.i64.2.i32.1))).cell? ⟨gt, 1, none⟩ = _ := blk_cell ht.out 1
    have z1 : (wmax_2.setCell ⟨gt, 3, none⟩ (.int .i32 (d.i32.2.i32.2.i64.2.i32.1))).cell? ⟨gb, 1, none⟩ = _ := blk_cell hg.out 1
    have t2 : (wmax_2.setCell ⟨gt, 3, none⟩ (.int .i32 (d.i32.2.i32.2.i64.2.i32.1))).cell? ⟨gt, 2, none⟩ = _ := blk_cell ht.out 2
    have z2 : (wmax_2.setCell ⟨gt, 3, none⟩ (.int .i32 (d.i32.2.i32.2.i64.2.i32.1))).cell? ⟨gb, 2, none⟩ = _ := blk_cell hg.out 2
    have t3 : (wmax_2.setCell ⟨gt, 3, none⟩ (.int .i32 (d.i32.2.i32.2.i64.2.i32.1))).cell? ⟨gt, 3, none⟩ = _ := blk_cell ht.out 3
    have z3 : (wmax_2.setCell ⟨gt, 3, none⟩ (.int .i32 (d.i32.2.i32.2.i64.2.i32.1))).cell? ⟨gb, 3, none⟩ = _ := blk_cell hg.out 3
    simp at t0 z0 t1 z1 t2 z2 t3 z3
    go_wp2
    have erd : rdFetchPart d = (⟨d.i32.1, d.i32.2.i32.2.i64.1, d.i32.2.i32.1, d.i32.2.i32.2.i64.2.i32.1⟩, d.i32.2.i32.2.i64.2.i32.2) := by simp only [rdFetchPart, hh0, Bool.false_eq_true, if_true, if_false]
    rw [erd]
    refine bodyPost_ret (v := .agg #[.int .i32 (d.i32.1), .int .i64 (d.i32.2.i32.2.i64.1), .int .i32 (d.i32.2.i32.1), .int .i32 (d.i32.2.i32.2.i64.2.i32.1)]) (by simp [results, Tryz.results121, go_sem, z0, z1, z2, z3]) rfl ⟨[.int .i32 (d.i32.1), .int .i64 (d.i32.2.i32.2.i64.1), .int .i32 (d.i32.2.i32.1), .int .i32 (d.i32.2.i32.2.i64.2.i32.1)], rfl, ?_, ?_, ?_⟩
    · exact kFetchPart_mkM _ _ _ (⟨d.i32.1, d.i32.2.i32.2.i64.1, d.i32.2.i32.1, d.i32.2.i32.2.i64.2.i32.1⟩ : FetchPart)
    · exact ((((hc.far hg.out (by decide) (by decide) (by decide) (by decide) 0 _).far (hid_set hg 0 _).out (by decide) (by decide) (by decide) (by decide) 1 _).far (hid_set (hid_set hg 0 _) 1 _).out (by decide) (by decide) (by decide) (by decide) 2 _).far (hid_set (hid_set (hid_set hg 0 _) 1 _) 2 _).out (by decide) (by decide) (by decide) (by decide) 3 _)
    · exact (modFar (modFar (modFar (modFar hm hsgb 0 _) hsgb 1 _) hsgb 2 _) hsgb 3 _)

end Go.Proofs.YteckmgmcfngddaaGreat
end

section
/- A list of parts: FetchPart. -/
set_option linter.unusedVariables false
set_option linter.unusedSimpArgs false
namespace Go.Proofs.YteckmgmcfngddaaGreat
open Go.RowKit Go.Proofs.YteckmgmcfngddaaGreatW.PrintWords

theorem info_FetchPart : (Tryz.prog.info? 212).map (fun i => (i.zero, i.size, i.bytes)) = some (some (.agg #[.int .i32 0, .int .i64 0, .int .i32 0, .int .i32 0]), 4, 24) := by kernel_rfl
set_option maxRecDepth 100000 in
set_option maxHeartbeats 6400000 in
theorem cl_list_FetchPart (w : World) (p g bx : Nat) (rv : Value) (d : DS) (h : Cl w p g bx rv d) :
    Calls Tryz.prog 120 #[.pointer (some ⟨p, 0, none⟩), .func (.func 121) #[] #[.pointer (some ⟨bx, 0, none⟩)]] w (ClPostR kFetchPart 212 p g bx rv (rdList rdFetchPart d).1 (rdList rdFetchPart d).2 w) := by
  obtain ⟨r0, r1⟩ := d.i32_range
  go_enter Tryz.func120, Tryz.ntmps120
  go_wp2_with fail
  refine (cl_i32 w p g bx rv d h).mono ?_
  rintro e w1 ⟨rfl, h1, m1⟩
  obtain ⟨q, hbk⟩ := h1.dec.blk
  have c2 : w1.cell? ⟨p, 2, none⟩ = _ := blk_cell hbk 2
  have f2 := blk_frozen hbk 2
  simp at c2
  clear hbk
  go_upto_block 0 with fail
  go_cut [10] (fun v10 wx => Cl wx p g bx rv (rdHead d) ∧ Mod (DecS p g) w wx)
  case first =>
    by_cases he : d.i32.2.e = 0
    · have he' : (d.i32.2.e != 0) = false := by simp [he]
      by_cases h0 : d.i32.1 < 0
      · have h0' : decide (d.i32.1 < 0) = true := by simpa using h0
        have hh := Lib.hid (rdHead_neg he h0)
        clear he
        go_wp2
        go_meet
        rw [hh.out]
        exact ⟨h1.failed 5 (by decide), m1.trans (mod_dec' p g 0 _)⟩
      · have h0' : decide (d.i32.1 < 0) = false := by simpa using h0
        by_cases h2 : d.i32.1 > 16
        · have h2' : decide (d.i32.1 > 16) = true := by simpa using h2
          have hh := Lib.hid (rdHead_big he h0 h2)
          clear he
          go_wp2
          go_meet
          rw [hh.out]
          exact ⟨h1.failed 9 (by decide), m1.trans (mod_dec' p g 0 _)⟩
        · have h2' : decide (d.i32.1 > 16) = false := by simpa using h2
          have hh := Lib.hid (rdHead_ok he h0 h2)
          clear he
          go_wp2
          go_meet
          rw [hh.out]
          exact ⟨h1, m1⟩
    · have he' : (d.i32.2.e != 0) = true := by simp [he]
      have hh := Lib.hid (rdHead_err he)
      clear he
      go_wp2
      go_meet
      rw [hh.out]
      exact ⟨h1, m1⟩
  case rest =>
    obtain ⟨hc, hm⟩ := hcut
    clear c2 f2 h1 m1
    go_wp2_with fail
    go_loopg [6, 7] (d.i32.1.toNat) (fun gk v6 v7 wr => ∃ (k : Nat) (out : List FetchPart) (dk : DS) (A : Option Addr) (c : Nat), v7 = .int .i32 k ∧ v6 = .slice A out.length c ∧ Hid (out.length = k) ∧ k + gk ≤ 2147483647 ∧ Hid (gk + k = d.i32.1.toNat) ∧ kFetchPart.R 212 wr w.heap.size (fun _ => True) (.slice A out.length c) out ∧ Cl wr p g bx rv dk ∧ Mod (DecS p g) w wr ∧ Hid (rdGo rdFetchPart gk out dk = rdList rdFetchPart d) ∧ Hid (dk.e = 0 → d.i32.1 ≤ 16))
    case atStart => exact ⟨0, [], rdHead d, none, 0, rfl, rfl, rfl, by omega, by simp [Hid], Kd.R_nil _ _ _ _ _, hc, hm, rfl, rdHead_le d⟩
    case round =>
      obtain ⟨k, out, dk, A, c, rfl, rfl, hok, hk2, hgk, ho, hcr, hmr, heq, hle⟩ := hrel
      clear hc hm
      obtain ⟨q, hbk⟩ := hcr.dec.blk
      have c2 : wr.cell? ⟨p, 2, none⟩ = _ := blk_cell hbk 2
      simp at c2
      clear hbk
      by_cases hlt : (k : Int) < d.i32.1
      · have hlt' : decide ((k : Int) < d.i32.1) = true := by simpa using hlt
        by_cases he : dk.e = 0
        · have he' : (dk.e == 0) = true := by simp [he]
          have hn16 := hle.out he
          obtain ⟨j, rfl⟩ : ∃ j, gk = j + 1 := ⟨gk - 1, by have := hgk.out; omega⟩
          have hstep : Hid (rdGo rdFetchPart j (out ++ [(rdFetchPart dk).1]) (rdFetchPart dk).2 = rdList rdFetchPart d) := Lib.hid (by rw [← heq.out]; exact (rdGo_step rdFetchPart j out dk he).symm)
          clear he heq
          go_wp2_with fail
          refine (cl_FetchPart wr p g bx rv dk hcr).mono ?_
          rintro e w2 ⟨cs, rfl, kv, hc2, mn⟩
          obtain rfl := kFetchPart_openM kv
          have ho2 := R_mod ho mn (fun q hq => h.new hq)
          have hlen : (out.length + 1) * 24 ≤ 140737488355328 := by have := hok.out; omega
          have HLEN := Lib.hid hlen
          clear hlen
          go_wp2_with (at_builtin; refine Kd.R_append kFetchPart (w0 := w2) w.heap.size rfl (.tmp 40) (.tmp 43) 207 212 (.agg #[.int .i32 0, .int .i64 0, .int .i32 0, .int .i32 0]) 24 rfl Tryz.underlying207 info_FetchPart rfl (by decide) (by decide) _ out (rdFetchPart dk).1 [.int .i32 (rdFetchPart dk).1.index, .int .i64 (rdFetchPart dk).1.offset, .int .i32 (rdFetchPart dk).1.epoch, .int .i32 (rdFetchPart dk).1.max] (fun _ => True) (fun q => some q ≠ (Value.slice A out.length c).ownBlock) rfl rfl (M_fresh kv ho (Nat.le_refl _) hmr.size) (fun q hq => ⟨trivial, hq⟩) (fun _ _ => trivial) ho2 (Below.refl _ _) (Nat.le_trans hmr.size mn.size) HLEN.out ?_; intro v1 w3 ho3 hb3 hg3 hat3)
          obtain ⟨A', c', rfl⟩ := Kd.R_slice ho3
          have hc3 : Cl w3 p g bx rv (rdFetchPart dk).2 := hc2.grown hg3 (fun q hq => by obtain ⟨cs, hcs⟩ := R_owntyped ho2 q hq; exact ⟨cs, _, hcs, by decide, by decide, by decide, by decide⟩)
          have hm3 : Mod (DecS p g) w w3 := (hmr.trans mn).grown hg3 (fun q hq => R_ownge ho2 q hq)
          clear hat3 hb3 hg3
          go_wp2
          go_roundg j
          case measure => omega
          case rel => exact ⟨k + 1, out ++ [(rdFetchPart dk).1], (rdFetchPart dk).2, A', c', by go_num, by simp, Lib.hid (by have := hok.out; simp [this]), by omega, Lib.hid (by have := hgk.out; omega), ho3, hc3, hm3, hstep, fun _ => hn16⟩
        · have he' : (dk.e == 0) = false := by simp [he]
          have hend : Hid (rdList rdFetchPart d = (out, dk)) := Lib.hid (by rw [← heq.out]; exact rdGo_stop rdFetchPart gk out dk he)
          clear he heq
          go_wp2
          go_ret
          rw [hend.out]
          exact ⟨A, c, rfl, ho, hcr, hmr⟩
      · have hlt' : decide ((k : Int) < d.i32.1) = false := by simpa using hlt
        have hend : Hid (rdList rdFetchPart d = (out, dk)) := Lib.hid (by
          rw [← heq.out]
          have := hgk.out
          rw [show gk = 0 from by omega]
          rfl)
        clear heq
        go_wp2
        go_ret
        rw [hend.out]
        exact ⟨A, c, rfl, ho, hcr, hmr⟩

end Go.Proofs.YteckmgmcfngddaaGreat
end

section
/- The reader of a part: FetchTopic. -/
set_option linter.unusedVariables false
set_option linter.unusedSimpArgs false
namespace Go.Proofs.YteckmgmcfngddaaGreat
open Go.RowKit Go.Proofs.YteckmgmcfngddaaGreatW.PrintWords

def rdFetchTopic (d : DS) : FetchTopic × DS :=
  let r0 := d.str
  let r1 := (rdList rdFetchPart r0.2)
  (⟨r0.1, r1.1⟩, r1.2)

set_option maxRecDepth 100000 in
set_option maxHeartbeats 6400000 in
theorem cl_FetchTopic (w : World) (p g bx : Nat) (rv : Value) (d : DS) (h : Cl w p g bx rv d) :
    Calls Tryz.prog 119 #[.pointer (some ⟨bx, 0, none⟩)] w (ClPostM kFetchTopic p g bx rv (rdFetchTopic d).1 (rdFetchTopic d).2 w) := by
  have hmf : ∀ (fn : Fn) (first cap : Array Value) (w : World), (Instr.makeFunc fn first cap).run Tryz.prog w = .ok (.func fn first cap) w := fun _ _ _ _ => rfl
  go_enter Tryz.func119, Tryz.ntmps119
  go_wp2_with (first | ((with_reducible refine gate_dst (N := 1) rfl ?_); refine box_event ?hg (N := 1) ?hd (cs := #[.string ⟨#[]⟩, .slice none 0 0]) (t := 209) ?hr ?_; (case hd => rfl); (case hg => rfl); (case hr => first | (go_simp; done) | (go_simp; rfl)); intro gb hgb w0 kgb bgb; have hc0 := h.below bgb; have hm0 : Mod (DecS p g) w w0 := Mod.of_below bgb; have hg0 : Hid (w0.heap[gb]? = some (.cells #[.string ⟨#[]⟩, .slice none 0 0] 209 (0, 0))) := kgb; have hc := h.below bgb; have hbx := blk_ne hc.box kgb (by decide); have hngb : Hid (¬ DecS p g gb) := h.new (Nat.le_of_eq hgb.symm); have hsgb : Hid (w.heap.size ≤ gb) := Nat.le_of_eq hgb.symm; have hg : Hid (w0.heap[gb]? = some (.cells #[.string ⟨#[]⟩, .slice none 0 0] 209 (0, 0))) := kgb; have hm : Mod (DecS p g) w w0 := (Mod.of_below bgb); have cx := hc.cell; clear hgb kgb bgb))
  refine (cl_str w0 p g bx rv d hc).mono ?_
  rintro e w1 ⟨rfl, hc2, mn⟩
  have hg := hid_mod hg mn hngb
  have hm := hm.trans mn
  have hc := hc2
  have cx := hc.cell
  clear hc2 mn
  go_wp2_with (first | ((with_reducible refine gate_dst (N := 2) rfl ?_); refine box_event ?hg (N := 2) ?hd (cs := #[.string ⟨#[]⟩, .slice none 0 0]) (t := 209) ?hr ?_; (case hd => rfl); (case hg => rfl); (case hr => first | (go_simp; done) | (go_simp; rfl)); intro gt hgt wt kgt bgt; have hc := hc.below bgt; have hbt := blk_ne hc.box kgt (by decide); have hst : Hid (w.heap.size ≤ gt) := Nat.le_trans hm.size (Nat.le_of_eq hgt.symm); have hgt2 : Hid (gb ≠ gt) := Nat.ne_of_lt (Nat.lt_of_lt_of_le (blk_lt hg.out) (Nat.le_of_eq hgt.symm)); have hnt : Hid (¬ DecS p g gt) := h.new hst.out; have hg := hid_mod hg (Mod.of_below (S := fun _ => False) bgt) (Lib.hid id); have hm := hm.trans (Mod.of_below bgt); have ht : Hid (wt.heap[gt]? = some (.cells #[.string ⟨#[]⟩, .slice none 0 0] 209 (0, 0))) := kgt; clear kgt hgt bgt; have ft := fun i => blk_frozen ht.out i; have t0 : wt.cell? ⟨gt, 0, none⟩ = _ := blk_cell ht.out 0; have t1 : wt.cell? ⟨gt, 1, none⟩ = _ := blk_cell ht.out 1; simp at t0 t1; have cx : ((wt.setCell ⟨gt, 0, none⟩ (.string (d.str.1))).setCell ⟨gt, 1, none⟩ (.slice none 0 0)).cell? ⟨bx, 0, none⟩ = some (.pointer (some ⟨p, 0, none⟩)) := (cell_far hbt).trans ((cell_far hbt).trans (hc.cell))))
  have hc1 : Cl (((wt.setCell ⟨gt, 0, none⟩ (.string (d.str.1))).setCell ⟨gt, 1, none⟩ (.slice none 0 0))) p g bx rv d.str.2 := ((hc.far ht.out (by decide) (by decide) (by decide) (by decide) 0 _).far (hid_set ht 0 _).out (by decide) (by decide) (by decide) (by decide) 1 _)
  have hg1 : Hid ((((wt.setCell ⟨gt, 0, none⟩ (.string (d.str.1))).setCell ⟨gt, 1, none⟩ (.slice none 0 0))).heap[gb]? = some (.cells #[.string ⟨#[]⟩, .slice none 0 0] 209 (0, 0))) := (hid_far (hid_far hg hgt2) hgt2)
  have ht1 : Hid ((((wt.setCell ⟨gt, 0, none⟩ (.string (d.str.1))).setCell ⟨gt, 1, none⟩ (.slice none 0 0))).heap[gt]? = some (.cells #[.string (d.str.1), .slice none 0 0] 209 (0, 0))) := hid_cast (hid_set (hid_set ht 0 _) 1 _) rfl
  have hm1 : Mod (DecS p g) w (((wt.setCell ⟨gt, 0, none⟩ (.string (d.str.1))).setCell ⟨gt, 1, none⟩ (.slice none 0 0))) := (modFar (modFar hm hst 0 _) hst 1 _)
  generalize ((wt.setCell ⟨gt, 0, none⟩ (.string (d.str.1))).setCell ⟨gt, 1, none⟩ (.slice none 0 0)) = wc at *
  replace hc := hc1
  replace hg := hg1
  replace ht := ht1
  replace hm := hm1
  clear hc1 hg1 ht1 hm1
  go_wp2_with fail
  have hbparts : Hid (w.heap.size ≤ wc.heap.size) := hm.size
  refine (cl_list_FetchPart wc p g bx rv d.str.2 hc).mono ?_
  rintro e wparts_0 ⟨Aparts, cparts, rfl, rparts, hc2, mn⟩
  replace hg := hid_mod hg mn hngb
  replace ht := hid_mod ht mn hnt
  replace hm := hm.trans mn
  replace hc := hc2
  have cx := hc.cell
  clear hc2 mn
  have ft := fun i => blk_frozen ht.out i
  have t1 : wparts_0.cell? ⟨gt, 1, none⟩ = _ := blk_cell ht.out 1
  simp at t1
  have cx1 : (wparts_0.setCell ⟨gt, 1, none⟩ (.slice Aparts (rdList rdFetchPart d.str.2).1.length cparts)).cell? ⟨bx, 0, none⟩ = some (.pointer (some ⟨p, 0, none⟩)) := (cell_far hbt).trans (hc.cell)
  have hc1 : Cl (wparts_0.setCell ⟨gt, 1, none⟩ (.slice Aparts (rdList rdFetchPart d.str.2).1.length cparts)) p g bx rv ((rdList rdFetchPart d.str.2).2) := (hc.far ht.out (by decide) (by decide) (by decide) (by decide) 1 _)
  have hg1 : Hid ((wparts_0.setCell ⟨gt, 1, none⟩ (.slice Aparts (rdList rdFetchPart d.str.2).1.length cparts)).heap[gb]? = some (.cells #[.string ⟨#[]⟩, .slice none 0 0] 209 (0, 0))) := (hid_far hg hgt2)
  have ht1 : Hid ((wparts_0.setCell ⟨gt, 1, none⟩ (.slice Aparts (rdList rdFetchPart d.str.2).1.length cparts)).heap[gt]? = some (.cells #[.string (d.str.1), .slice Aparts (rdList rdFetchPart d.str.2).1.length cparts] 209 (0, 0))) := hid_cast (hid_set ht 1 (.slice Aparts (rdList rdFetchPart d.str.2).1.length cparts)) rfl
  have hm1 : Mod (DecS p g) w (wparts_0.setCell ⟨gt, 1, none⟩ (.slice Aparts (rdList rdFetchPart d.str.2).1.length cparts)) := (modFar hm hst 1 _)
  have rparts1 := (Kd.R_set rparts ht.out (by decide) 1 (.slice Aparts (rdList rdFetchPart d.str.2).1.length cparts))
  replace hc := hc1
  replace hg := hg1
  replace ht := ht1
  replace hm := hm1
  replace rparts := rparts1
  clear hc1 hg1 ht1 hm1 rparts1
  have fg := fun i => blk_frozen hg.out i
  have t0 : (wparts_0.setCell ⟨gt, 1, none⟩ (.slice Aparts (rdList rdFetchPart d.str.2).1.length cparts)).cell? ⟨gt, 0, none⟩ = _ := blk_cell ht.out 0
  have z0 : (wparts_0.setCell ⟨gt, 1, none⟩ (.slice Aparts (rdList rdFetchPart d.str.2).1.length cparts)).cell? ⟨gb, 0, none⟩ = _ := blk_cell hg.out 0
  have t1 : (wparts_0.setCell ⟨gt, 1, none⟩ (.slice Aparts (rdList rdFetchPart d.str.2).1.length cparts)).cell? ⟨gt, 1, none⟩ = _ := blk_cell ht.out 1
  have z1 : (wparts_0.setCell ⟨gt, 1, none⟩ (.slice Aparts (rdList rdFetchPart d.str.2).1.length cparts)).cell? ⟨gb, 1, none⟩ = _ := blk_cell hg.out 1
  simp at t0 z0 t1 z1
  go_wp2
  have erd : rdFetchTopic d = (⟨d.str.1, (rdList rdFetchPart d.str.2).1⟩, (rdList rdFetchPart d.str.2).2) := by simp only [rdFetchTopic, Bool.false_eq_true, if_true, if_false]
  rw [erd]
  refine bodyPost_ret (v := .agg #[.string (d.str.1), .slice Aparts (rdList rdFetchPart d.str.2).1.length cparts]) (by simp [results, Tryz.results119, go_sem, z0, z1]) rfl ⟨[.string (d.str.1), .slice Aparts (rdList rdFetchPart d.str.2).1.length cparts], rfl, ?_, ?_, ?_⟩
  · exact kFetchTopic_mkM _ _ _ (⟨d.str.1, (rdList rdFetchPart d.str.2).1⟩ : FetchTopic) (Kd.R_lower (Kd.R_set (Kd.R_set rparts hg.out (by decide) 0 _) (hid_set hg 0 _).out (by decide) 1 _) hbparts.out)
  · exact ((hc.far hg.out (by decide) (by decide) (by decide) (by decide) 0 _).far (hid_set hg 0 _).out (by decide) (by decide) (by decide) (by decide) 1 _)
  · exact (modFar (modFar hm hsgb 0 _) hsgb 1 _)

end Go.Proofs.YteckmgmcfngddaaGreat
end

section
/- A list of parts: FetchTopic. -/
set_option linter.unusedVariables false
set_option linter.unusedSimpArgs false
namespace Go.Proofs.YteckmgmcfngddaaGreat
open Go.RowKit Go.Proofs.YteckmgmcfngddaaGreatW.PrintWords

theorem info_FetchTopic : (Tryz.prog.info? 209).map (fun i => (i.zero, i.size, i.bytes)) = some (some (.agg #[.string ⟨#[]⟩, .slice none 0 0]), 2, 40) := by kernel_rfl
set_option maxRecDepth 100000 in
set_option maxHeartbeats 6400000 in
theorem cl_list_FetchTopic (w : World) (p g bx : Nat) (rv : Value) (d : DS) (h : Cl w p g bx rv d) :
    Calls Tryz.prog 118 #[.pointer (some ⟨p, 0, none⟩), .func (.func 119) #[] #[.pointer (some ⟨bx, 0, none⟩)]] w (ClPostR kFetchTopic 209 p g bx rv (rdList rdFetchTopic d).1 (rdList rdFetchTopic d).2 w) := by
  obtain ⟨r0, r1⟩ := d.i32_range
  go_enter Tryz.func118, Tryz.ntmps118
  go_wp2_with fail
  refine (cl_i32 w p g bx rv d h).mono ?_
  rintro e w1 ⟨rfl, h1, m1⟩
  obtain ⟨q, hbk⟩ := h1.dec.blk
  have c2 : w1.cell? ⟨p, 2, none⟩ = _ := blk_cell hbk 2
  have f2 := blk_frozen hbk 2
  simp at c2
  clear hbk
  go_upto_block 0 with fail
  go_cut [10] (fun v10 wx => Cl wx p g bx rv (rdHead d) ∧ Mod (DecS p g) w wx)
  case first =>
    by_cases he : d.i32.2.e = 0
    · have he' : (d.i32.2.e != 0) = false := by simp [he]
      by_cases h0 : d.i32.1 < 0
      · have h0' : decide (d.i32.1 < 0) = true := by simpa using h0
        have hh := Lib.hid (rdHead_neg he h0)
        clear he
        go_wp2
        go_meet
        rw [hh.out]
        exact ⟨h1.failed 5 (by decide), m1.trans (mod_dec' p g 0 _)⟩
      · have h0' : decide (d.i32.1 < 0) = false := by simpa using h0
        by_cases h2 : d.i32.1 > 16
        · have h2' : decide (d.i32.1 > 16) = true := by simpa using h2
          have hh := Lib.hid (rdHead_big he h0 h2)
          clear he
          go_wp2
          go_meet
          rw [hh.out]
          exact ⟨h1.failed 9 (by decide), m1.trans (mod_dec' p g 0 _)⟩
        · have h2' : decide (d.i32.1 > 16) = false := by simpa using h2
          have hh := Lib.hid (rdHead_ok he h0 h2)
          clear he
          go_wp2
          go_meet
          rw [hh.out]
          exact ⟨h1, m1⟩
    · have he' : (d.i32.2.e != 0) = true := by simp [he]
      have hh := Lib.hid (rdHead_err he)
      clear he
      go_wp2
      go_meet
      rw [hh.out]
      exact ⟨h1, m1⟩
  case rest =>
    obtain ⟨hc, hm⟩ := hcut
    clear c2 f2 h1 m1
    go_wp2_with fail
    go_loopg [6, 7] (d.i32.1.toNat) (fun gk v6 v7 wr => ∃ (k : Nat) (out : List FetchTopic) (dk : DS) (A : Option Addr) (c : Nat), v7 = .int .i32 k ∧ v6 = .slice A out.length c ∧ Hid (out.length = k) ∧ k + gk ≤ 2147483647 ∧ Hid (gk + k = d.i32.1.toNat) ∧ kFetchTopic.R 209 wr w.heap.size (fun _ => True) (.slice A out.length c) out ∧ Cl wr p g bx rv dk ∧ Mod (DecS p g) w wr ∧ Hid (rdGo rdFetchTopic gk out dk = rdList rdFetchTopic d) ∧ Hid (dk.e = 0 → d.i32.1 ≤ 16))
    case atStart => exact ⟨0, [], rdHead d, none, 0, rfl, rfl, rfl, by omega, by simp [Hid], Kd.R_nil _ _ _ _ _, hc, hm, rfl, rdHead_le d⟩
    case round =>
      obtain ⟨k, out, dk, A, c, rfl, rfl, hok, hk2, hgk, ho, hcr, hmr, heq, hle⟩ := hrel
      clear hc hm
      obtain ⟨q, hbk⟩ := hcr.dec.blk
      have c2 : wr.cell? ⟨p, 2, none⟩ = _ := blk_cell hbk 2
      simp at c2
      clear hbk
      by_cases hlt : (k : Int) < d.i32.1
      · have hlt' : decide ((k : Int) < d.i32.1) = true := by simpa using hlt
        by_cases he : dk.e = 0
        · have he' : (dk.e == 0) = true := by simp [he]
          have hn16 := hle.out he
          obtain ⟨j, rfl⟩ : ∃ j, gk = j + 1 := ⟨gk - 1, by have := hgk.out; omega⟩
          have hstep : Hid (rdGo rdFetchTopic j (out ++ [(rdFetchTopic dk).1]) (rdFetchTopic dk).2 = rdList rdFetchTopic d) := Lib.hid (by rw [← heq.out]; exact (rdGo_step rdFetchTopic j out dk he).symm)
          clear he heq
          go_wp2_with fail
          refine (cl_FetchTopic wr p g bx rv dk hcr).mono ?_
          rintro e w2 ⟨cs, rfl, kv, hc2, mn⟩
          obtain ⟨A0, c0, rfl, g0⟩ := kFetchTopic_openM kv
          have ho2 := R_mod ho mn (fun q hq => h.new hq)
          have hlen : (out.length + 1) * 40 ≤ 140737488355328 := by have := hok.out; omega
          have HLEN := Lib.hid hlen
          clear hlen
          go_wp2_with (at_builtin; refine Kd.R_append kFetchTopic (w0 := w2) w.heap.size rfl (.tmp 40) (.tmp 43) 66 209 (.agg #[.string ⟨#[]⟩, .slice none 0 0]) 40 rfl Tryz.underlying66 info_FetchTopic rfl (by decide) (by decide) _ out (rdFetchTopic dk).1 [.string (rdFetchTopic dk).1.name, .slice A0 (rdFetchTopic dk).1.parts.length c0] (fun _ => True) (fun q => some q ≠ (Value.slice A out.length c).ownBlock) rfl rfl (M_fresh kv ho (Nat.le_refl _) hmr.size) (fun q hq => ⟨trivial, hq⟩) (fun _ _ => trivial) ho2 (Below.refl _ _) (Nat.le_trans hmr.size mn.size) HLEN.out ?_; intro v1 w3 ho3 hb3 hg3 hat3)
          obtain ⟨A', c', rfl⟩ := Kd.R_slice ho3
          have hc3 : Cl w3 p g bx rv (rdFetchTopic dk).2 := hc2.grown hg3 (fun q hq => by obtain ⟨cs, hcs⟩ := R_owntyped ho2 q hq; exact ⟨cs, _, hcs, by decide, by decide, by decide, by decide⟩)
          have hm3 : Mod (DecS p g) w w3 := (hmr.trans mn).grown hg3 (fun q hq => R_ownge ho2 q hq)
          clear hat3 hb3 hg3
          go_wp2
          go_roundg j
          case measure => omega
          case rel => exact ⟨k + 1, out ++ [(rdFetchTopic dk).1], (rdFetchTopic dk).2, A', c', by go_num, by simp, Lib.hid (by have := hok.out; simp [this]), by omega, Lib.hid (by have := hgk.out; omega), ho3, hc3, hm3, hstep, fun _ => hn16⟩
        · have he' : (dk.e == 0) = false := by simp [he]
          have hend : Hid (rdList rdFetchTopic d = (out, dk)) := Lib.hid (by rw [← heq.out]; exact rdGo_stop rdFetchTopic gk out dk he)
          clear he heq
          go_wp2
          go_ret
          rw [hend.out]
          exact ⟨A, c, rfl, ho, hcr, hmr⟩
      · have hlt' : decide ((k : Int) < d.i32.1) = false := by simpa using hlt
        have hend : Hid (rdList rdFetchTopic d = (out, dk)) := Lib.hid (by
          rw [← heq.out]
          have := hgk.out
          rw [show gk = 0 from by omega]
          rfl)
        clear heq
        go_wp2
        go_ret
        rw [hend.out]
        exact ⟨A, c, rfl, ho, hcr, hmr⟩

end Go.Proofs.YteckmgmcfngddaaGreat
end
