/- A part of a proof. Proved: Rows.CallOnlySaid: for every byte slice the law leatlaw16.CallOnly returns true, and the slice reads afterwards as it read before. No condition but the row's own reach. -/
import Derived.Test.YteckmgmcfngddaaGreatCo102
section
/- The reader of a part: FetchDone. -/
set_option linter.unusedVariables false
set_option linter.unusedSimpArgs false
namespace Go.Proofs.YteckmgmcfngddaaGreat
open Go.RowKit Go.Proofs.YteckmgmcfngddaaGreatW.PrintWords

def rdFetchDone (d : DS) : FetchDone × DS :=
  let r0 := d.i32
  let r1 := r0.2.i16
  let r2 := r1.2.i64
  let r3 := if r2.2.has 2 3 = true then r2.2.i64 else (0, r2.2)
  let r4 := if r3.2.has 3 3 = true then r3.2.i64 else (0, r3.2)
  let r5 := r4.2.blobV
  (⟨r0.1, r1.1, r2.1, r3.1, r4.1, r5.1⟩, r5.2)

set_option maxRecDepth 100000 in
set_option maxHeartbeats 6400000 in
theorem cl_FetchDone (w : World) (p g bx : Nat) (rv : Value) (d : DS) (h : Cl w p g bx rv d) :
    Calls Tryz.prog 129 #[.pointer (some ⟨bx, 0, none⟩)] w (ClPostM kFetchDone p g bx rv (rdFetchDone d).1 (rdFetchDone d).2 w) := by
  have hmf : ∀ (fn : Fn) (first cap : Array Value) (w : World), (Instr.makeFunc fn first cap).run Tryz.prog w = .ok (.func fn first cap) w := fun _ _ _ _ => rfl
  go_enter Tryz.func129, Tryz.ntmps129
  go_wp2_with (first | ((with_reducible refine gate_dst (N := 1) rfl ?_); refine box_event ?hg (N := 1) ?hd (cs := #[.int .i32 0, .int .i16 0, .int .i64 0, .int .i64 0, .int .i64 0, .bool false, .slice none 0 0]) (t := 225) ?hr ?_; (case hd => rfl); (case hg => rfl); (case hr => first | (go_simp; done) | (go_simp; rfl)); intro gb hgb w0 kgb bgb; have hc0 := h.below bgb; have hm0 : Mod (DecS p g) w w0 := Mod.of_below bgb; have hg0 : Hid (w0.heap[gb]? = some (.cells #[.int .i32 0, .int .i16 0, .int .i64 0, .int .i64 0, .int .i64 0, .bool false, .slice none 0 0] 225 (0, 0))) := kgb; have hc := h.below bgb; have hbx := blk_ne hc.box kgb (by decide); have hngb : Hid (¬ DecS p g gb) := h.new (Nat.le_of_eq hgb.symm); have hsgb : Hid (w.heap.size ≤ gb) := Nat.le_of_eq hgb.symm; have hg : Hid (w0.drew.heap[gb]? = some (.cells #[.int .i32 0, .int .i16 0, .int .i64 0, .int .i64 0, .int .i64 0, .bool false, .slice none 0 0] 225 (0, 0))) := kgb; have hm : Mod (DecS p g) w w0.drew := (Mod.of_below bgb).drew; have hc := hc.drew; have cx := hc.cell; clear hgb kgb bgb))
  go_simp
  go_cut [2] (fun v2 wx => ∃ gt, v2 = .pointer (some ⟨gt, 0, none⟩) ∧ Cl wx p g bx rv d.i32.2.i16.2.i64.2 ∧ Hid (wx.heap[gb]? = some (.cells #[.int .i32 0, .int .i16 0, .int .i64 0, .int .i64 0, .int .i64 0, .bool false, .slice none 0 0] 225 (0, 0))) ∧ Hid (wx.heap[gt]? = some (.cells #[.int .i32 (d.i32.1), .int .i16 (d.i32.2.i16.1), .int .i64 (d.i32.2.i16.2.i64.1), .int .i64 0, .int .i64 0, .bool false, .slice none 0 0] 225 (0, 0))) ∧ Mod (DecS p g) w wx ∧ Hid (w.heap.size ≤ gt) ∧ Hid (gb ≠ gt))
  case first =>
    go_region_held3 (fun w' => w'.cell? ⟨bx, 0, none⟩ = some (.pointer (some ⟨p, 0, none⟩))) (first | with_reducible exact cx | with_reducible exact (hc.alloc _).cell | with_reducible exact (hc0.alloc _).drew.cell | with_reducible exact (cell_far (by assumption)).trans ((cell_far (by assumption)).trans ((cell_far (by assumption)).trans ((cell_far (by assumption)).trans ((cell_far (by assumption)).trans ((cell_far (by assumption)).trans ((cell_far (by assumption)).trans (hc.cell))))))) | with_reducible exact (cell_far (by assumption)).trans ((cell_far (by assumption)).trans ((cell_far (by assumption)).trans ((cell_far (by assumption)).trans ((cell_far (by assumption)).trans ((cell_far (by assumption)).trans ((cell_far (by assumption)).trans ((hc.alloc _).cell))))))))
      (first
        | (go_at_call 58; (with_reducible refine (cl_i32 _ p g bx rv _ hc).mono ?_); rintro e wn ⟨rfl, hc2, mn⟩; (try (have ht := hid_mod ht mn hnt; have ft := fun i => blk_frozen ht.out i; have t0 := blk_cell ht.out 0; have t1 := blk_cell ht.out 1; have t2 := blk_cell ht.out 2; have t3 := blk_cell ht.out 3; have t4 := blk_cell ht.out 4; have t5 := blk_cell ht.out 5; have t6 := blk_cell ht.out 6; simp at t0 t1 t2 t3 t4 t5 t6)); have hg := hid_mod hg mn hngb; have hm := hm.trans mn; have hc := hc2; have cx := hc.cell; clear hc2 mn)
        | (go_at_call 58; (with_reducible refine (cl_i32 _ p g bx rv _ (hc.alloc (Obj.cells #[.int .i32 0, .int .i16 0, .int .i64 0, .int .i64 0, .int .i64 0, .bool false, .slice none 0 0] 225 (0, 0)))).mono ?_); rintro e wn ⟨rfl, hc2, mn⟩; have hst : Hid (w.heap.size ≤ _) := hm.size; have hnt := Lib.hid (h.new hst.out); have hgt2 := hid_neOf hg; have hbt := Nat.ne_of_lt (blk_lt hc.box); have ht := hid_newOf hm (Obj.cells #[.int .i32 0, .int .i16 0, .int .i64 0, .int .i64 0, .int .i64 0, .bool false, .slice none 0 0] 225 (0, 0)); have hg := hid_oldOf hg (Obj.cells #[.int .i32 0, .int .i16 0, .int .i64 0, .int .i64 0, .int .i64 0, .bool false, .slice none 0 0] 225 (0, 0)); have hm := hm.alloc (Obj.cells #[.int .i32 0, .int .i16 0, .int .i64 0, .int .i64 0, .int .i64 0, .bool false, .slice none 0 0] 225 (0, 0)); (try (have ht := hid_mod ht mn hnt; have ft := fun i => blk_frozen ht.out i; have t0 := blk_cell ht.out 0; have t1 := blk_cell ht.out 1; have t2 := blk_cell ht.out 2; have t3 := blk_cell ht.out 3; have t4 := blk_cell ht.out 4; have t5 := blk_cell ht.out 5; have t6 := blk_cell ht.out 6; simp at t0 t1 t2 t3 t4 t5 t6)); have hg := hid_mod hg mn hngb; have hm := hm.trans mn; have hc := hc2; have cx := hc.cell; clear hc2 mn)
        | (go_at_call 58; (with_reducible refine (cl_i32 _ p g bx rv _ ((hc0.alloc (Obj.cells #[.int .i32 0, .int .i16 0, .int .i64 0, .int .i64 0, .int .i64 0, .bool false, .slice none 0 0] 225 (0, 0))).drew)).mono ?_); rintro e wn ⟨rfl, hc2, mn⟩; have hst : Hid (w.heap.size ≤ _) := hm0.size; have hnt := Lib.hid (h.new hst.out); have hgt2 := hid_neOf hg0; have hbt := Nat.ne_of_lt (blk_lt hc0.box); have ht : Hid ((w0.alloc (Obj.cells #[.int .i32 0, .int .i16 0, .int .i64 0, .int .i64 0, .int .i64 0, .bool false, .slice none 0 0] 225 (0, 0))).drew.heap[w0.heap.size]? = some (Obj.cells #[.int .i32 0, .int .i16 0, .int .i64 0, .int .i64 0, .int .i64 0, .bool false, .slice none 0 0] 225 (0, 0))) := hid_newOf hm0 (Obj.cells #[.int .i32 0, .int .i16 0, .int .i64 0, .int .i64 0, .int .i64 0, .bool false, .slice none 0 0] 225 (0, 0)); have hg : Hid ((w0.alloc (Obj.cells #[.int .i32 0, .int .i16 0, .int .i64 0, .int .i64 0, .int .i64 0, .bool false, .slice none 0 0] 225 (0, 0))).drew.heap[gb]? = some (Obj.cells #[.int .i32 0, .int .i16 0, .int .i64 0, .int .i64 0, .int .i64 0, .bool false, .slice none 0 0] 225 (0, 0))) := hid_oldOf hg0 (Obj.cells #[.int .i32 0, .int .i16 0, .int .i64 0, .int .i64 0, .int .i64 0, .bool false, .slice none 0 0] 225 (0, 0)); have hm : Mod (DecS p g) w (w0.alloc (Obj.cells #[.int .i32 0, .int .i16 0, .int .i64 0, .int .i64 0, .int .i64 0, .bool false, .slice none 0 0] 225 (0, 0))).drew := (hm0.alloc (Obj.cells #[.int .i32 0, .int .i16 0, .int .i64 0, .int .i64 0, .int .i64 0, .bool false, .slice none 0 0] 225 (0, 0))).drew; (try (have ht := hid_mod ht mn hnt; have ft := fun i => blk_frozen ht.out i; have t0 := blk_cell ht.out 0; have t1 := blk_cell ht.out 1; have t2 := blk_cell ht.out 2; have t3 := blk_cell ht.out 3; have t4 := blk_cell ht.out 4; have t5 := blk_cell ht.out 5; have t6 := blk_cell ht.out 6; simp at t0 t1 t2 t3 t4 t5 t6)); have hg := hid_mod hg mn hngb; have hm := hm.trans mn; have hc := hc2; have cx := hc.cell; clear hc2 mn)
        | (go_at_call 57; (with_reducible refine (cl_i16 _ p g bx rv _ hc).mono ?_); rintro e wn ⟨rfl, hc2, mn⟩; (try (have ht := hid_mod ht mn hnt; have ft := fun i => blk_frozen ht.out i; have t0 := blk_cell ht.out 0; have t1 := blk_cell ht.out 1; have t2 := blk_cell ht.out 2; have t3 := blk_cell ht.out 3; have t4 := blk_cell ht.out 4; have t5 := blk_cell ht.out 5; have t6 := blk_cell ht.out 6; simp at t0 t1 t2 t3 t4 t5 t6)); have hg := hid_mod hg mn hngb; have hm := hm.trans mn; have hc := hc2; have cx := hc.cell; clear hc2 mn)
        | (go_at_call 57; (with_reducible refine (cl_i16 _ p g bx rv _ (hc.alloc (Obj.cells #[.int .i32 0, .int .i16 0, .int .i64 0, .int .i64 0, .int .i64 0, .bool false, .slice none 0 0] 225 (0, 0)))).mono ?_); rintro e wn ⟨rfl, hc2, mn⟩; have hst : Hid (w.heap.size ≤ _) := hm.size; have hnt := Lib.hid (h.new hst.out); have hgt2 := hid_neOf hg; have hbt := Nat.ne_of_lt (blk_lt hc.box); have ht := hid_newOf hm (Obj.cells #[.int .i32 0, .int .i16 0, .int .i64 0, .int .i64 0, .int .i64 0, .bool false, .slice none 0 0] 225 (0, 0)); have hg := hid_oldOf hg (Obj.cells #[.int .i32 0, .int .i16 0, .int .i64 0, .int .i64 0, .int .i64 0, .bool false, .slice none 0 0] 225 (0, 0)); have hm := hm.alloc (Obj.cells #[.int .i32 0, .int .i16 0, .int .i64 0, .int .i64 0, .int .i64 0, .bool false, .slice none 0 0] 225 (0, 0)); (try (have ht := hid_mod ht mn hnt; have ft := fun i => blk_frozen ht.out i; have t0 := blk_cell ht.out 0; have t1 := blk_cell ht.out 1; have t2 := blk_cell ht.out 2; have t3 := blk_cell ht.out 3; have t4 := blk_cell ht.out 4; have t5 := blk_cell ht.out 5; have t6 := blk_cell ht.out 6; simp at t0 t1 t2 t3 t4 t5 t6)); have hg := hid_mod hg mn hngb; have hm := hm.trans mn; have hc := hc2; have cx := hc.cell; clear hc2 mn)
        | (go_at_call 57; (with_reducible refine (cl_i16 _ p g bx rv _ ((hc0.alloc (Obj.cells #[.int .i32 0, .int .i16 0, .int .i64 0, .int .i64 0, .int .i64 0, .bool false, .slice none 0 0] 225 (0, 0))).drew)).mono ?_); rintro e wn ⟨rfl, hc2, mn⟩; have hst : Hid (w.heap.size ≤ _) := hm0.size; have hnt := Lib.hid (h.new hst.out); have hgt2 := hid_neOf hg0; have hbt := Nat.ne_of_lt (blk_lt hc0.box); have ht : Hid ((w0.alloc (Obj.cells #[.int .i32 0, .int .i16 0, .int .i64 0, .int .i64 0, .int .i64 0, .bool false, .slice none 0 0] 225 (0, 0))).drew.heap[w0.heap.size]? = some (Obj.cells #[.int .i32 0, .int .i16 0, .int .i64 0, .int .i64 0, .int .i64 0, .bool false, .slice none 0 0] 225 (0, 0))) := hid_newOf hm0 (Obj.cells #[.int .i32 0, .int .i16 0, .int .i64 0, .int .i64 0, .int .i64 0, .bool false, .slice none 0 0] 225 (0, 0)); have hg : Hid ((w0.alloc (Obj.cells #[.int .i32 0, .int .i16 0, .int .i64 0, .int .i64 0, .int .i64 0, .bool false, .slice none 0 0] 225 (0, 0))).drew.heap[gb]? = some (Obj.cells #[.int .i32 0, .int .i16 0, .int .i64 0, .int .i64 0, .int .i64 0, .bool false, .slice none 0 0] 225 (0, 0))) := hid_oldOf hg0 (Obj.cells #[.int .i32 0, .int .i16 0, .int .i64 0, .int .i64 0, .int .i64 0, .bool false, .slice none 0 0] 225 (0, 0)); have hm : Mod (DecS p g) w (w0.alloc (Obj.cells #[.int .i32 0, .int .i16 0, .int .i64 0, .int .i64 0, .int .i64 0, .bool false, .slice none 0 0] 225 (0, 0))).drew := (hm0.alloc (Obj.cells #[.int .i32 0, .int .i16 0, .int .i64 0, .int .i64 0, .int .i64 0, .bool false, .slice none 0 0] 225 (0, 0))).drew; (try (have ht := hid_mod ht mn hnt; have ft := fun i => blk_frozen ht.out i; have t0 := blk_cell ht.out 0; have t1 := blk_cell ht.out 1; have t2 := blk_cell ht.out 2; have t3 := blk_cell ht.out 3; have t4 := blk_cell ht.out 4; have t5 := blk_cell ht.out 5; have t6 := blk_cell ht.out 6; simp at t0 t1 t2 t3 t4 t5 t6)); have hg := hid_mod hg mn hngb; have hm := hm.trans mn; have hc := hc2; have cx := hc.cell; clear hc2 mn)
        | (go_at_call 91; (with_reducible refine (cl_i64 _ p g bx rv _ hc).mono ?_); rintro e wn ⟨rfl, hc2, mn⟩; (try (have ht := hid_mod ht mn hnt; have ft := fun i => blk_frozen ht.out i; have t0 := blk_cell ht.out 0; have t1 := blk_cell ht.out 1; have t2 := blk_cell ht.out 2; have t3 := blk_cell ht.out 3; have t4 := blk_cell ht.out 4; have t5 := blk_cell ht.out 5; have t6 := blk_cell ht.out 6; simp at t0 t1 t2 t3 t4 t5 t6)); have hg := hid_mod hg mn hngb; have hm := hm.trans mn; have hc := hc2; have cx := hc.cell; clear hc2 mn)
        | (go_at_call 91; (with_reducible refine (cl_i64 _ p g bx rv _ (hc.alloc (Obj.cells #[.int .i32 0, .int .i16 0, .int .i64 0, .int .i64 0, .int .i64 0, .bool false, .slice none 0 0] 225 (0, 0)))).mono ?_); rintro e wn ⟨rfl, hc2, mn⟩; have hst : Hid (w.heap.size ≤ _) := hm.size; have hnt := Lib.hid (h.new hst.out); have hgt2 := hid_neOf hg; have hbt := Nat.ne_of_lt (blk_lt hc.box); have ht := hid_newOf hm (Obj.cells #[.int .i32 0, .int .i16 0, .int .i64 0, .int .i64 0, .int .i64 0, .bool false, .slice none 0 0] 225 (0, 0)); have hg := hid_oldOf hg (Obj.cells #[.int .i32 0, .int .i16 0, .int .i64 0, .int .i64 0, .int .i64 0, .bool false, .slice none 0 0] 225 (0, 0)); have hm := hm.alloc (Obj.cells #[.int .i32 0, .int .i16 0, .int .i64 0, .int .i64 0, .int .i64 0, .bool false, .slice none 0 0] 225 (0, 0)); (try (have ht := hid_mod ht mn hnt; have ft := fun i => blk_frozen ht.out i; have t0 := blk_cell ht.out 0; have t1 := blk_cell ht.out 1; have t2 := blk_cell ht.out 2; have t3 := blk_cell ht.out 3; have t4 := blk_cell ht.out 4; have t5 := blk_cell ht.out 5; have t6 := blk_cell ht.out 6; simp at t0 t1 t2 t3 t4 t5 t6)); have hg := hid_mod hg mn hngb; have hm := hm.trans mn; have hc := hc2; have cx := hc.cell; clear hc2 mn)
        | (go_at_call 91; (with_reducible refine (cl_i64 _ p g bx rv _ ((hc0.alloc (Obj.cells #[.int .i32 0, .int .i16 0, .int .i64 0, .int .i64 0, .int .i64 0, .bool false, .slice none 0 0] 225 (0, 0))).drew)).mono ?_); rintro e wn ⟨rfl, hc2, mn⟩; have hst : Hid (w.heap.size ≤ _) := hm0.size; have hnt := Lib.hid (h.new hst.out); have hgt2 := hid_neOf hg0; have hbt := Nat.ne_of_lt (blk_lt hc0.box); have ht : Hid ((w0.alloc (Obj.cells #[.int .i32 0, .int .i16 0, .int .i64 0, .int .i64 0, .int .i64 0, .bool false, .slice none 0 0] 225 (0, 0))).drew.heap[w0.heap.size]? = some (Obj.cells #[.int .i32 0, .int .i16 0, .int .i64 0, .int .i64 0, .int .i64 0, .bool false, .slice none 0 0] 225 (0, 0))) := hid_newOf hm0 (Obj.cells #[.int .i32 0, .int .i16 0, .int .i64 0, .int .i64 0, .int .i64 0, .bool false, .slice none 0 0] 225 (0, 0)); have hg : Hid ((w0.alloc (Obj.cells #[.int .i32 0, .int .i16 0, .int .i64 0, .int .i64 0, .int .i64 0, .bool false, .slice none 0 0] 225 (0, 0))).drew.heap[gb]? = some (Obj.cells #[.int .i32 0, .int .i16 0, .int .i64 0, .int .i64 0, .int .i64 0, .bool false, .slice none 0 0] 225 (0, 0))) := hid_oldOf hg0 (Obj.cells #[.int .i32 0, .int .i16 0, .int .i64 0, .int .i64 0, .int .i64 0, .bool false, .slice none 0 0] 225 (0, 0)); have hm : Mod (DecS p g) w (w0.alloc (Obj.cells #[.int .i32 0, .int .i16 0, .int .i64 0, .int .i64 0, .int .i64 0, .bool false, .slice none 0 0] 225 (0, 0))).drew := (hm0.alloc (Obj.cells #[.int .i32 0, .int .i16 0, .int .i64 0, .int .i64 0, .int .i64 0, .bool false, .slice none 0 0] 225 (0, 0))).drew; (try (have ht := hid_mod ht mn hnt; have ft := fun i => blk_frozen ht.out i; have t0 := blk_cell ht.out 0; have t1 := blk_cell ht.out 1; have t2 := blk_cell ht.out 2; have t3 := blk_cell ht.out 3; have t4 := blk_cell ht.out 4; have t5 := blk_cell ht.out 5; have t6 := blk_cell ht.out 6; simp at t0 t1 t2 t3 t4 t5 t6)); have hg := hid_mod hg mn hngb; have hm := hm.trans mn; have hc := hc2; have cx := hc.cell; clear hc2 mn)
        | fail)
    all_goals (go_wp2_with fail; go_meet; first | (with_reducible exact ⟨_, rfl, hc.alloc _, hid_oldOf hg _, hid_newOf hm _, hm.alloc _, Lib.hid hm.size, hid_neOf hg⟩) | exact ⟨_, rfl, (((((((hc.far ht.out (by decide) (by decide) (by decide) (by decide) 0 _).far (hid_set ht 0 _).out (by decide) (by decide) (by decide) (by decide) 1 _).far (hid_set (hid_set ht 0 _) 1 _).out (by decide) (by decide) (by decide) (by decide) 2 _).far (hid_set (hid_set (hid_set ht 0 _) 1 _) 2 _).out (by decide) (by decide) (by decide) (by decide) 3 _).far (hid_set (hid_set (hid_set (hid_set ht 0 _) 1 _) 2 _) 3 _).out (by decide) (by decide) (by decide) (by decide) 4 _).far (hid_set (hid_set (hid_set (hid_set (hid_set ht 0 _) 1 _) 2 _) 3 _) 4 _).out (by decide) (by decide) (by decide) (by decide) 5 _).far (hid_set (hid_set (hid_set (hid_set (hid_set (hid_set ht 0 _) 1 _) 2 _) 3 _) 4 _) 5 _).out (by decide) (by decide) (by decide) (by decide) 6 _), (hid_far (hid_far (hid_far (hid_far (hid_far (hid_far (hid_far hg hgt2) hgt2) hgt2) hgt2) hgt2) hgt2) hgt2), hid_cast (hid_set (hid_set (hid_set (hid_set (hid_set (hid_set (hid_set ht 0 _) 1 _) 2 _) 3 _) 4 _) 5 _) 6 _) rfl, (modFar (modFar (modFar (modFar (modFar (modFar (modFar hm hst 0 _) hst 1 _) hst 2 _) hst 3 _) hst 4 _) hst 5 _) hst 6 _), hst, hgt2⟩)
  case rest =>
    obtain ⟨gt, rfl, hc, hg, ht, hm, hst, hgt2⟩ := hcut
    have cx := hc.cell
    have hnt : Hid (¬ DecS p g gt) := h.new hst.out
    have hbt := blk_ne hc.box ht.out (by decide)
    go_wp2_with fail
    refine (cl_has wc p g bx rv d.i32.2.i16.2.i64.2 2 3 hc).mono ?_
    rintro e wh0 ⟨rfl, hc2, mn⟩
    replace hg := hid_mod hg mn hngb
    replace ht := hid_mod ht mn hnt
    replace hm := hm.trans mn
    replace hc := hc2
    have cx := hc.cell
    clear hc2 mn
    cases hh0 : d.i32.2.i16.2.i64.2.has 2 3
    · -- no
      go_wp2_with fail
      refine (cl_has wh0 p g bx rv d.i32.2.i16.2.i64.2 3 3 hc).mono ?_
      rintro e wh1 ⟨rfl, hc2, mn⟩
      replace hg := hid_mod hg mn hngb
      replace ht := hid_mod ht mn hnt
      replace hm := hm.trans mn
      replace hc := hc2
      have cx := hc.cell
      clear hc2 mn
      cases hh1 : d.i32.2.i16.2.i64.2.has 3 3
      · -- no
        go_wp2_with fail
        have hbrecs : Hid (w.heap.size ≤ wh1.heap.size) := hm.size
        refine (cl_blob wh1 p g bx rv d.i32.2.i16.2.i64.2 hc).mono ?_
        rintro e wrecs_2 ⟨cs2, rfl, kv, hc2, mn⟩
        obtain ⟨Arecs, crecs, rfl, rrecs⟩ := kBlob_openM kv
        replace hg := hid_mod hg mn hngb
        replace ht := hid_mod ht mn hnt
        replace hm := hm.trans mn
        replace hc := hc2
        have cx := hc.cell
        clear hc2 mn
        have ft := fun i => blk_frozen ht.out i
        have t5 : wrecs_2.cell? ⟨gt, 5, none⟩ = _ := blk_cell ht.out 5
        have t6 : wrecs_2.cell? ⟨gt, 6, none⟩ = _ := blk_cell ht.out 6
        simp at t5 t6
        have cx1 : ((wrecs_2.setCell ⟨gt, 5, none⟩ (.bool d.i32.2.i16.2.i64.2.blobV.1.null)).setCell ⟨gt, 6, none⟩ (.slice Arecs d.i32.2.i16.2.i64.2.blobV.1.b.length crecs)).cell? ⟨bx, 0, none⟩ = some (.pointer (some ⟨p, 0, none⟩)) := (cell_far hbt).trans ((cell_far hbt).trans (hc.cell))
        have hc1 : Cl ((wrecs_2.setCell ⟨gt, 5, none⟩ (.bool d.i32.2.i16.2.i64.2.blobV.1.null)).setCell ⟨gt, 6, none⟩ (.slice Arecs d.i32.2.i16.2.i64.2.blobV.1.b.length crecs)) p g bx rv d.i32.2.i16.2.i64.2.blobV.2 := ((hc.far ht.out (by decide) (by decide) (by decide) (by decide) 5 _).far (hid_set ht 5 (.bool d.i32.2.i16.2.i64.2.blobV.1.null)).out (by decide) (by decide) (by decide) (by decide) 6 _)
        have hg1 : Hid (((wrecs_2.setCell ⟨gt, 5, none⟩ (.bool d.i32.2.i16.2.i64.2.blobV.1.null)).setCell ⟨gt, 6, none⟩ (.slice Arecs d.i32.2.i16.2.i64.2.blobV.1.b.length crecs)).heap[gb]? = some (.cells #[.int .i32 0, .int .i16 0, .int .i64 0, .int .i64 0, .int .i64 0, .bool false, .slice none 0 0] 225 (0, 0))) := (hid_far (hid_far hg hgt2) hgt2)
        have ht1 : Hid (((wrecs_2.setCell ⟨gt, 5, none⟩ (.bool d.i32.2.i16.2.i64.2.blobV.1.null)).setCell ⟨gt, 6, none⟩ (.slice Arecs d.i32.2.i16.2.i64.2.blobV.1.b.length crecs)).heap[gt]? = some (.cells #[.int .i32 (d.i32.1), .int .i16 (d.i32.2.i16.1), .int .i64 (d.i32.2.i16.2.i64.1), .int .i64 0, .int .i64 0, .bool d.i32.2.i16.2.i64.2.blobV.1.null, .slice Arecs d.i32.2.i16.2.i64.2.blobV.1.b.length crecs] 225 (0, 0))) := hid_cast (hid_set (hid_set ht 5 (.bool d.i32.2.i16.2.i64.2.blobV.1.null)) 6 (.slice Arecs d.i32.2.i16.2.i64.2.blobV.1.b.length crecs)) rfl
        have hm1 : Mod (DecS p g) w ((wrecs_2.setCell ⟨gt, 5, none⟩ (.bool d.i32.2.i16.2.i64.2.blobV.1.null)).setCell ⟨gt, 6, none⟩ (.slice Arecs d.i32.2.i16.2.i64.2.blobV.1.b.length crecs)) := (modFar (modFar hm hst 5 _) hst 6 _)
        have rrecs1 := (Kd.R_set (Kd.R_set rrecs ht.out (by decide) 5 (.bool d.i32.2.i16.2.i64.2.blobV.1.null)) (hid_set ht 5 (.bool d.i32.2.i16.2.i64.2.blobV.1.null)).out (by decide) 6 (.slice Arecs d.i32.2.i16.2.i64.2.blobV.1.b.length crecs))
        replace hc := hc1
        replace hg := hg1
        replace ht := ht1
        replace hm := hm1
        replace rrecs := rrecs1
        clear hc1 hg1 ht1 hm1 rrecs1
        have fg := fun i => blk_frozen hg.out i
        have t0 : ((wrecs_2.setCell ⟨gt, 5, none⟩ (.bool d.i32.2.i16.2.i64.2.blobV.1.null)).setCell ⟨gt, 6, none⟩ (.slice Arecs d.i32.2.i16.2.i64.2.blobV.1.b.length crecs)).cell? ⟨gt, 0, none⟩ = _ := blk_cell ht.out 0
        have z0 : ((wrecs_2.setCell ⟨gt, 5, none⟩ (.bool d.i32.2.i16.2.i64.2.blobV.1.null)).setCell ⟨gt, 6, none⟩ (.slice Arecs d.i32.2.i16.2.i64.2.blobV.1.b.length crecs)).cell? ⟨gb, 0, none⟩ = _ := blk_cell hg.out 0
        have t1 : ((wrecs_2.setCell ⟨gt, 5, none⟩ (.bool d.i32.2.i16.2.i64.2.blobV.1.null)).setCell ⟨gt, 6, none⟩ (.slice Arecs d.i32.2.i16.2.i64.2.blobV.1.b.length crecs)).cell? ⟨gt, 1, none⟩ = _ := blk_cell ht.out 1
        have z1 : ((wrecs_2.setCell ⟨gt, 5, none⟩ (.bool d.i32.2.i16.2.i64.2.blobV.1.null)).setCell ⟨gt, 6, none⟩ (.slice Arecs d.i32.2.i16.2.i64.2.blobV.1.b.length crecs)).cell? ⟨gb, 1, none⟩ = _ := blk_cell hg.out 1
        have t2 : ((wrecs_2.setCell ⟨gt, 5, none⟩ (.bool d.i32.2.i16.2.i64.2.blobV.1.null)).setCell ⟨gt, 6, none⟩ (.slice Arecs d.i32.2.i16.2.i64.2.blobV.1.b.length crecs)).cell? ⟨gt, 2, none⟩ = _ := blk_cell ht.out 2
        have z2 : ((wrecs_2.setCell ⟨gt, 5, none⟩ (.bool d.i32.2.i16.2.i64.2.blobV.1.null)).setCell ⟨gt, 6, none⟩ (.slice Arecs d.i32.2.i16.2.i64.2.blobV.1.b.length crecs)).cell? ⟨gb, 2, none⟩ = _ := blk_cell hg.out 2
        have t3 : ((wrecs_2.setCell ⟨gt, 5, none⟩ (.bool d.i32.2.i16.2.i64.2.blobV.1.null)).setCell ⟨gt, 6, none⟩ (.slice Arecs d.i32.2.i16.2.i64.2.blobV.1.b.length crecs)).cell? ⟨gt, 3, none⟩ = _ := blk_cell ht.out 3
        have z3 : ((wrecs_2.setCell ⟨gt, 5, none⟩ (.bool d.i32.2.i16.2.i64.2.blobV.1.null)).setCell ⟨gt, 6, none⟩ (.slice Arecs d.i32.2.i16.2.i64.2.blobV.1.b.length crecs)).cell? ⟨gb, 3, none⟩ = _ := blk_cell hg.out 3
        have t4 : ((wrecs_2.setCell ⟨gt, 5, none⟩ (.bool d.i32.2.i16.2.i64.2.blobV.1.null)).setCell ⟨gt, 6, none⟩ (.slice Arecs d.i32.2.i16.2.i64.2.blobV.1.b.length crecs)).cell? ⟨gt, 4, none⟩ = _ := blk_cell ht.out 4
        have z4 : ((wrecs_2.setCell ⟨gt, 5, none⟩ (.bool d.i32.2.i16.2.i64.2.blobV.1.null)).setCell ⟨gt, 6, none⟩ (.slice Arecs d.i32.2.i16.2.i64.2.blobV.1.b.length crecs)).cell? ⟨gb, 4, none⟩ = _ := blk_cell hg.out 4
        have t5 : ((wrecs_2.setCell ⟨gt, 5, none⟩ (.bool d.i32.2.i16.2.i64.2.blobV.1.null)).setCell ⟨gt, 6, none⟩ (.slice Arecs d.i32.2.i16.2.i64.2.blobV.1.b.length crecs)).cell? ⟨gt, 5, none⟩ = _ := blk_cell ht.out 5
        have z5 : ((wrecs_2.setCell ⟨gt, 5, none⟩ (.bool d.i32.2.i16.2.i64.2.blobV.1.null)).setCell ⟨gt, 6, none⟩ (.slice Arecs d.i32.2.i16.2.i64.2.blobV.1.b.length crecs)).cell? ⟨gb, 5, none⟩ = _ := blk_cell hg.out 5
        have t6 : ((wrecs_2.setCell ⟨gt, 5, none⟩ (.bool d.i32.2.i16.2.i64.2.blobV.1.null)).setCell ⟨gt, 6, none⟩ (.slice Arecs d.i32.2.i16.2.i64.2.blobV.1.b.length crecs)).cell? ⟨gt, 6, none⟩ = _ := blk_cell ht.out 6
        have z6 : ((wrecs_2.setCell ⟨gt, 5, none⟩ (.bool d.i32.2.i16.2.i64.2.blobV.1.null)).setCell ⟨gt, 6, none⟩ (.slice Arecs d.i32.2.i16.2.i64.2.blobV.1.b.length crecs)).cell? ⟨gb, 6, none⟩ = _ := blk_cell hg.out 6
        simp at t0 z0 t1 z1 t2 z2 t3 z3 t4 z4 t5 z5 t6 z6
        go_wp2
        have erd : rdFetchDone d = (⟨d.i32.1, d.i32.2.i16.1, d.i32.2.i16.2.i64.1, 0, 0, d.i32.2.i16.2.i64.2.blobV.1⟩, d.i32.2.i16.2.i64.2.blobV.2) := by simp only [rdFetchDone, hh0, hh1, Bool.false_eq_true, if_true, if_false]
        rw [erd]
        refine bodyPost_ret (v := .agg #[.int .i32 (d.i32.1), .int .i16 (d.i32.2.i16.1), .int .i64 (d.i32.2.i16.2.i64.1), .int .i64 0, .int .i64 0, .bool d.i32.2.i16.2.i64.2.blobV.1.null, .slice Arecs d.i32.2.i16.2.i64.2.blobV.1.b.length crecs]) (by simp [results, Tryz.results129, go_sem, z0, z1, z2, z3, z4, z5, z6]) rfl ⟨[.int .i32 (d.i32.1), .int .i16 (d.i32.2.i16.1), .int .i64 (d.i32.2.i16.2.i64.1), .int .i64 0, .int .i64 0, .bool d.i32.2.i16.2.i64.2.blobV.1.null, .slice Arecs d.i32.2.i16.2.i64.2.blobV.1.b.length crecs], rfl, ?_, ?_, ?_⟩
        · exact kFetchDone_mkM _ _ _ (⟨d.i32.1, d.i32.2.i16.1, d.i32.2.i16.2.i64.1, 0, 0, d.i32.2.i16.2.i64.2.blobV.1⟩ : FetchDone) (Kd.R_lower (Kd.R_set (Kd.R_set (Kd.R_set (Kd.R_set (Kd.R_set (Kd.R_set (Kd.R_set rrecs hg.out (by decide) 0 _) (hid_set hg 0 _).out (by decide) 1 _) (hid_set (hid_set hg 0 _) 1 _).out (by decide) 2 _) (hid_set (hid_set (hid_set hg 0 _) 1 _) 2 _).out (by decide) 3 _) (hid_set (hid_set (hid_set (hid_set hg 0 _) 1 _) 2 _) 3 _).out (by decide) 4 _) (hid_set (hid_set (hid_set (hid_set (hid_set hg 0 _) 1 _) 2 _) 3 _) 4 _).out (by decide) 5 _) (hid_set (hid_set (hid_set (hid_set (hid_set (hid_set hg 0 _) 1 _) 2 _) 3 _) 4 _) 5 _).out (by decide) 6 _) hbrecs.out)
        · exact (((((((hc.far hg.out (by decide) (by decide) (by decide) (by decide) 0 _).far (hid_set hg 0 _).out (by decide) (by decide) (by decide) (by decide) 1 _).far (hid_set (hid_set hg 0 _) 1 _).out (by decide) (by decide) (by decide) (by decide) 2 _).far (hid_set (hid_set (hid_set hg 0 _) 1 _) 2 _).out (by decide) (by decide) (by decide) (by decide) 3 _).far (hid_set (hid_set (hid_set (hid_set hg 0 _) 1 _) 2 _) 3 _).out (by decide) (by decide) (by decide) (by decide) 4 _).far (hid_set (hid_set (hid_set (hid_set (hid_set hg 0 _) 1 _) 2 _) 3 _) 4 _).out (by decide) (by decide) (by decide) (by decide) 5 _).far (hid_set (hid_set (hid_set (hid_set (hid_set (hid_set hg 0 _) 1 _) 2 _) 3 _) 4 _) 5 _).out (by decide) (by decide) (by decide) (by decide) 6 _)
        · exact (modFar (modFar (modFar (modFar (modFar (modFar (modFar hm hsgb 0 _) hsgb 1 _) hsgb 2 _) hsgb 3 _) hsgb 4 _) hsgb 5 _) hsgb 6 _)
      · -- yes
        go_wp2_with fail
        refine (cl_i64 wh1 p g bx rv d.i32.2.i16.2.i64.2 hc).mono ?_
        rintro e wstart_1 ⟨rfl, hc2, mn⟩
        replace hg := hid_mod hg mn hngb
        replace ht := hid_mod ht mn hnt
        replace hm := hm.trans mn
        replace hc := hc2
        have cx := hc.cell
        clear hc2 mn
        have ft := fun i => blk_frozen ht.out i
        have t4 : wstart_1.cell? ⟨gt, 4, none⟩ = _ := blk_cell ht.out 4
        simp at t4
        have cx1 : (wstart_1.setCell ⟨gt, 4, none⟩ (.int .i64 (d.i32.2.i16.2.i64.2.i64.1))).cell? ⟨bx, 0, none⟩ = some (.pointer (some ⟨p, 0, none⟩)) := (cell_far hbt).trans (hc.cell)
        have hc1 : Cl (wstart_1.setCell ⟨gt, 4, none⟩ (.int .i64 (d.i32.2.i16.2.i64.2.i64.1))) p g bx rv d.i32.2.i16.2.i64.2.i64.2 := (hc.far ht.out (by decide) (by decide) (by decide) (by decide) 4 _)
        have hg1 : Hid ((wstart_1.setCell ⟨gt, 4, none⟩ (.int .i64 (d.i32.2.i16.2.i64.2.i64.1))).heap[gb]? = some (.cells #[.int .i32 0, .int .i16 0, .int .i64 0, .int .i64 0, .int .i64 0, .bool false, .slice none 0 0] 225 (0, 0))) := (hid_far hg hgt2)
        have ht1 : Hid ((wstart_1.setCell ⟨gt, 4, none⟩ (.int .i64 (d.i32.2.i16.2.i64.2.i64.1))).heap[gt]? = some (.cells #[.int .i32 (d.i32.1), .int .i16 (d.i32.2.i16.1), .int .i64 (d.i32.2.i16.2.i64.1), .int .i64 0, .int .i64 (d.i32.2.i16.2.i64.2.i64.1), .bool false, .slice none 0 0] 225 (0, 0))) := hid_cast (hid_set ht 4 (.int .i64 (d.i32.2.i16.2.i64.2.i64.1))) rfl
        have hm1 : Mod (DecS p g) w (wstart_1.setCell ⟨gt, 4, none⟩ (.int .i64 (d.i32.2.i16.2.i64.2.i64.1))) := (modFar hm hst 4 _)
        replace hc := hc1
        replace hg := hg1
        replace ht := ht1
        replace hm := hm1
        clear hc1 hg1 ht1 hm1
        go_wp2_with fail
        have hbrecs : Hid (w.heap.size ≤ (wstart_1.setCell ⟨gt, 4, none⟩ (.int .i64 (d.i32.2.i16.2.i64.2.i64.1))).heap.size) := hm.size
        refine (cl_blob (wstart_1.setCell ⟨gt, 4, none⟩ (.int .i64 (d.i32.2.i16.2.i64.2.i64.1))) p g bx rv d.i32.2.i16.2.i64.2.i64.2 hc).mono ?_
        rintro e wrecs_2 ⟨cs2, rfl, kv, hc2, mn⟩
        obtain ⟨Arecs, crecs, rfl, rrecs⟩ := kBlob_openM kv
        replace hg := hid_mod hg mn hngb
        replace ht := hid_mod ht mn hnt
        replace hm := hm.trans mn
        replace hc := hc2
        have cx := hc.cell
        clear hc2 mn
        have ft := fun i => blk_frozen ht.out i
        have t5 : wrecs_2.cell? ⟨gt, 5, none⟩ = _ := blk_cell ht.out 5
        have t6 : wrecs_2.cell? ⟨gt, 6, none⟩ = _ := blk_cell ht.out 6
        simp at t5 t6
        have cx1 : ((wrecs_2.setCell ⟨gt, 5, none⟩ (.bool d.i32.2.i16.2.i64.2.i64.2.blobV.1.null)).setCell ⟨gt, 6, none⟩ (.slice Arecs d.i32.2.i16.2.i64.2.i64.2.blobV.1.b.length crecs)).cell? ⟨bx, 0, none⟩ = some (.pointer (some ⟨p, 0, none⟩)) := (cell_far hbt).trans ((cell_far hbt).trans (hc.cell))
        have hc1 : Cl ((wrecs_2.setCell ⟨gt, 5, none⟩ (.bool d.i32.2.i16.2.i64.2.i64.2.blobV.1.null)).setCell ⟨gt, 6, none⟩ (.slice Arecs d.i32.2.i16.2.i64.2.i64.2.blobV.1.b.length crecs)) p g bx rv d.i32.2.i16.2.i64.2.i64.2.blobV.2 := ((hc.far ht.out (by decide) (by decide) (by decide) (by decide) 5 _).far (hid_set ht 5 (.bool d.i32.2.i16.2.i64.2.i64.2.blobV.1.null)).out (by decide) (by decide) (by decide) (by decide) 6 _)
        have hg1 : Hid (((wrecs_2.setCell ⟨gt, 5, none⟩ (.bool d.i32.2.i16.2.i64.2.i64.2.blobV.1.null)).setCell ⟨gt, 6, none⟩ (.slice Arecs d.i32.2.i16.2.i64.2.i64.2.blobV.1.b.length crecs)).heap[gb]? = some (.cells #[.int .i32 0, .int .i16 0, .int .i64 0, .int .i64 0, .int .i64 0, .bool false, .slice none 0 0] 225 (0, 0))) := (hid_far (hid_far hg hgt2) hgt2)
        have ht1 : Hid (((wrecs_2.setCell ⟨gt, 5, none⟩ (.bool d.i32.2.i16.2.i64.2.i64.2.blobV.1.null)).setCell ⟨gt, 6, none⟩ (.slice Arecs d.i32.2.i16.2.i64.2.i64.2.blobV.1.b.length crecs)).heap[gt]? = some (.cells #[.int .i32 (d.i32.1), .int .i16 (d.i32.2.i16.1), .int .i64 (d.i32.2.i16.2.i64.1), .int .i64 0, .int .i64 (d.i32.2.i16.2.i64.2.i64.1), .bool d.i32.2.i16.2.i64.2.i64.2.blobV.1.null, .slice Arecs d.i32.2.i16.2.i64.2.i64.2.blobV.1.b.length crecs] 225 (0, 0))) := hid_cast (hid_set (hid_set ht 5 (.bool d.i32.2.i16.2.i64.2.i64.2.blobV.1.null)) 6 (.slice Arecs d.i32.2.i16.2.i64.2.i64.2.blobV.1.b.length crecs)) rfl
        have hm1 : Mod (DecS p g) w ((wrecs_2.setCell ⟨gt, 5, none⟩ (.bool d.i32.2.i16.2.i64.2.i64.2.blobV.1.null)).setCell ⟨gt, 6, none⟩ (.slice Arecs d.i32.2.i16.2.i64.2.i64.2.blobV.1.b.length crecs)) := (modFar (modFar hm hst 5 _) hst 6 _)
        have rrecs1 := (Kd.R_set (Kd.R_set rrecs ht.out (by decide) 5 (.bool d.i32.2.i16.2.i64.2.i64.2.blobV.1.null)) (hid_set ht 5 (.bool d.i32.2.i16.2.i64.2.i64.2.blobV.1.null)).out (by decide) 6 (.slice Arecs d.i32.2.i16.2.i64.2.i64.2.blobV.1.b.length crecs))
        replace hc := hc1
        replace hg := hg1
        replace ht := ht1
        replace hm := hm1
        replace rrecs := rrecs1
        clear hc1 hg1 ht1 hm1 rrecs1
        have fg := fun i => blk_frozen hg.out i
        have t0 : ((wrecs_2.setCell ⟨gt, 5, none⟩ (.bool d.i32.2.i16.2.i64.2.i64.2.blobV.1.null)).setCell ⟨gt, 6, none⟩ (.slice Arecs d.i32.2.i16.2.i64.2.i64.2.blobV.1.b.length crecs)).cell? ⟨gt, 0, none⟩ = _ := blk_cell ht.out 0
        have z0 : ((wrecs_2.setCell ⟨gt, 5, none⟩ (.bool d.i32.2.i16.2.i64.2.i64.2.blobV.1.null)).setCell ⟨gt, 6, none⟩ (.slice Arecs d.i32.2.i16.2.i64.2.i64.2.blobV.1.b.length crecs)).cell? ⟨gb, 0, none⟩ = _ := blk_cell hg.out 0
        have t1 : ((wrecs_2.setCell ⟨gt, 5, none⟩ (.bool d.i32.2.i16.2.i64.2.i64.2.blobV.1.null)).setCell ⟨gt, 6, none⟩ (.slice Arecs d.i32.2.i16.2.i64.2.i64.2.blobV.1.b.length crecs)).cell? ⟨gt, 1, none⟩ = _ := blk_cell ht.out 1
        have z1 : ((wrecs_2.setCell ⟨gt, 5, none⟩ (.bool d.i32.2.i16.2.i64.2.i64.2.blobV.1.null)).setCell ⟨gt, 6, none⟩ (.slice Arecs d.i32.2.i16.2.i64.2.i64.2.blobV.1.b.length crecs)).cell? ⟨gb, 1, none⟩ = _ := blk_cell hg.out 1
        have t2 : ((wrecs_2.setCell ⟨gt, 5, none⟩ (.bool d.i32.2.i16.2.i64.2.i64.2.blobV.1.null)).setCell ⟨gt, 6, none⟩ (.slice Arecs d.i32.2.i16.2.i64.2.i64.2.blobV.1.b.length crecs)).cell? ⟨gt, 2, none⟩ = _ := blk_cell ht.out 2
        have z2 : ((wrecs_2.setCell ⟨gt, 5, none⟩ (.bool d.i32.2.i16.2.i64.2.i64.2.blobV.1.null)).setCell ⟨gt, 6, none⟩ (.slice Arecs d.i32.2.i16.2.i64.2.i64.2.blobV.1.b.length crecs)).cell? ⟨gb, 2, none⟩ = _ := blk_cell hg.out 2
        have t3 : ((wrecs_2.setCell ⟨gt, 5, none⟩ (.bool d.i32.2.i16.2.i64.2.i64.2.blobV.1.null)).setCell ⟨gt, 6, none⟩ (.slice Arecs d.i32.2.i16.2.i64.2.i64.2.blobV.1.b.length crecs)).cell? ⟨gt, 3, none⟩ = _ := blk_cell ht.out 3
        have z3 : ((wrecs_2.setCell ⟨gt, 5, none⟩ (.bool d.i32.2.i16.2.i64.2.i64.2.blobV.1.null)).setCell ⟨gt, 6, none⟩ (.slice Arecs d.i32.2.i16.2.i64.2.i64.2.blobV.1.b.length crecs)).cell? ⟨gb, 3, none⟩ = _ := blk_cell hg.out 3
        have t4 : ((wrecs_2.setCell ⟨gt, 5, none⟩ (.bool d.i32.2.i16.2.i64.2.i64.2.blobV.1.null)).setCell ⟨gt, 6, none⟩ (.slice Arecs d.i32.2.i16.2.i64.2.i64.2.blobV.1.b.length crecs)).cell? ⟨gt, 4, none⟩ = _ := blk_cell ht.out 4
        have z4 : ((wrecs_2.setCell ⟨gt, 5, none⟩ (.bool d.i32.2.i16.2.i64.2.i64.2.blobV.1.null)).setCell ⟨gt, 6, none⟩ (.slice Arecs d.i32.2.i16.2.i64.2.i64.2.blobV.1.b.length crecs)).cell? ⟨gb, 4, none⟩ = _ := blk_cell hg.out 4
        have t5 : ((wrecs_2.setCell ⟨gt, 5, none⟩ (.bool d.i32.2.i16.2.i64.2.i64.2.blobV.1.null)).setCell ⟨gt, 6, none⟩ (.slice Arecs d.i32.2.i16.2.i64.2.i64.2.blobV.1.b.length crecs)).cell? ⟨gt, 5, none⟩ = _ := blk_cell ht.out 5
        have z5 : ((wrecs_2.setCell ⟨gt, 5, none⟩ (.bool d.i32.2.i16.2.i64.2.i64.2.blobV.1.null)).setCell ⟨gt, 6, none⟩ (.slice Arecs d.i32.2.i16.2.i64.2.i64.2.blobV.1.b.length crecs)).cell? ⟨gb, 5, none⟩ = _ := blk_cell hg.out 5
        have t6 : ((wrecs_2.setCell ⟨gt, 5, none⟩ (.bool d.i32.2.i16.2.i64.2.i64.2.blobV.1.null)).setCell ⟨gt, 6, none⟩ (.slice Arecs d.i32.2.i16.2.i64.2.i64.2.blobV.1.b.length crecs)).cell? ⟨gt, 6, none⟩ = _ := blk_cell ht.out 6
        have z6 : ((wrecs_2.setCell ⟨gt, 5, none⟩ (.bool d.i32.2.i16.2.i64.2.i64.2.blobV.1.null)).setCell ⟨gt, 6, none⟩ (.slice Arecs d.i32.2.i16.2.i64.2.i64.2.blobV.1.b.length crecs)).cell? ⟨gb, 6, none⟩ = _ := blk_cell hg.out 6
        simp at t0 z0 t1 z1 t2 z2 t3 z3 t4 z4 t5 z5 t6 z6
        go_wp2
        have erd : rdFetchDone d = (⟨d.i32.1, d.i32.2.i16.1, d.i32.2.i16.2.i64.1, 0, d.i32.2.i16.2.i64.2.i64.1, d.i32.2.i16.2.i64.2.i64.2.blobV.1⟩, d.i32.2.i16.2.i64.2.i64.2.blobV.2) := by simp only [rdFetchDone, hh0, hh1, Bool.false_eq_true, if_true, if_false]
        rw [erd]
        refine bodyPost_ret (v := .agg #[.int .i32 (d.i32.1), .int .i16 (d.i32.2.i16.1), .int .i64 (d.i32.2.i16.2.i64.1), .int .i64 0, .int .i64 (d.i32.2.i16.2.i64.2.i64.1), .bool d.i32.2.i16.2.i64.2.i64.2.blobV.1.null, .slice Arecs d.i32.2.i16.2.i64.2.i64.2.blobV.1.b.length crecs]) (by simp [results, Tryz.results129, go_sem, z0, z1, z2, z3, z4, z5, z6]) rfl ⟨[.int .i32 (d.i32.1), .int .i16 (d.i32.2.i16.1), .int .i64 (d.i32.2.i16.2.i64.1), .int .i64 0, .int .i64 (d.i32.2.i16.2.i64.2.i64.1), .bool d.i32.2.i16.2.i64.2.i64.2.blobV.1.null, .slice Arecs d.i32.2.i16.2.i64.2.i64.2.blobV.1.b.length crecs], rfl, ?_, ?_, ?_⟩
        · exact kFetchDone_mkM _ _ _ (⟨d.i32.1, d.i32.2.i16.1, d.i32.2.i16.2.i64.1, 0, d.i32.2.i16.2.i64.2.i64.1, d.i32.2.i16.2.i64.2.i64.2.blobV.1⟩ : FetchDone) (Kd.R_lower (Kd.R_set (Kd.R_set (Kd.R_set (Kd.R_set (Kd.R_set (Kd.R_set (Kd.R_set rrecs hg.out (by decide) 0 _) (hid_set hg 0 _).out (by decide) 1 _) (hid_set (hid_set hg 0 _) 1 _).out (by decide) 2 _) (hid_set (hid_set (hid_set hg 0 _) 1 _) 2 _).out (by decide) 3 _) (hid_set (hid_set (hid_set (hid_set hg 0 _) 1 _) 2 _) 3 _).out (by decide) 4 _) (hid_set (hid_set (hid_set (hid_set (hid_set hg 0 _) 1 _) 2 _) 3 _) 4 _).out (by decide) 5 _) (hid_set (hid_set (hid_set (hid_set (hid_set (hid_set hg 0 _) 1 _) 2 _) 3 _) 4 _) 5 _).out (by decide) 6 _) hbrecs.out)
        · exact (((((((hc.far hg.out (by decide) (by decide) (by decide) (by decide) 0 _).far (hid_set hg 0 _).out (by decide) (by decide) (by decide) (by decide) 1 _).far (hid_set (hid_set hg 0 _) 1 _).out (by decide) (by decide) (by decide) (by decide) 2 _).far (hid_set (hid_set (hid_set hg 0 _) 1 _) 2 _).out (by decide) (by decide) (by decide) (by decide) 3 _).far (hid_set (hid_set (hid_set (hid_set hg 0 _) 1 _) 2 _) 3 _).out (by decide) (by decide) (by decide) (by decide) 4 _).far (hid_set (hid_set (hid_set (hid_set (hid_set hg 0 _) 1 _) 2 _) 3 _) 4 _).out (by decide) (by decide) (by decide) (by decide) 5 _).far (hid_set (hid_set (hid_set (hid_set (hid_set (hid_set hg 0 _) 1 _) 2 _) 3 _) 4 _) 5 _).out (by decide) (by decide) (by decide) (by decide) 6 _)
        · exact (modFar (modFar (modFar (modFar (modFar (modFar (modFar hm hsgb 0 _) hsgb 1 _) hsgb 2 _) hsgb 3 _) hsgb 4 _) hsgb 5 _) hsgb 6 _)
    · -- yes
      go_wp2_with fail
      refine (cl_i64 wh0 p g bx rv d.i32.2.i16.2.i64.2 hc).mono ?_
      rintro e wstable_0 ⟨rfl, hc2, mn⟩
      replace hg := hid_mod hg mn hngb
      replace ht := hid_mod ht mn hnt
      replace hm := hm.trans mn
      replace hc := hc2
      have cx := hc.cell
      clear hc2 mn
      have ft := fun i => blk_frozen ht.out i
      have t3 : wstable_0.cell? ⟨gt, 3, none⟩ = _ := blk_cell ht.out 3
      simp at t3
      have cx1 : (wstable_0.setCell ⟨gt, 3, none⟩ (.int .i64 (d.i32.2.i16.2.i64.2.i64.1))).cell? ⟨bx, 0, none⟩ = some (.pointer (some ⟨p, 0, none⟩)) := (cell_far hbt).trans (hc.cell)
      have hc1 : Cl (wstable_0.setCell ⟨gt, 3, none⟩ (.int .i64 (d.i32.2.i16.2.i64.2.i64.1))) p g bx rv d.i32.2.i16.2.i64.2.i64.2 := (hc.far ht.out (by decide) (by decide) (by decide) (by decide) 3 _)
      have hg1 : Hid ((wstable_0.setCell ⟨gt, 3, none⟩ (.int .i64 (d.i32.2.i16.2.i64.2.i64.1))).heap[gb]? = some (.cells #[.int .i32 0, .int .i16 0, .int .i64 0, .int .i64 0, .int .i64 0, .bool false, .slice none 0 0] 225 (0, 0))) := (hid_far hg hgt2)
      have ht1 : Hid ((wstable_0.setCell ⟨gt, 3, none⟩ (.int .i64 (d.i32.2.i16.2.i64.2.i64.1))).heap[gt]? = some (.cells #[.int .i32 (d.i32.1), .int .i16 (d.i32.2.i16.1), .int .i64 (d.i32.2.i16.2.i64.1), .int .i64 (d.i32.2.i16.2.i64.2.i64.1), .int .i64 0, .bool false, .slice none 0 0] 225 (0, 0))) := hid_cast (hid_set ht 3 (.int .i64 (d.i32.2.i16.2.i64.2.i64.1))) rfl
      have hm1 : Mod (DecS p g) w (wstable_0.setCell ⟨gt, 3, none⟩ (.int .i64 (d.i32.2.i16.2.i64.2.i64.1))) := (modFar hm hst 3 _)
      replace hc := hc1
      replace hg := hg1
      replace ht := ht1
      replace hm := hm1
      clear hc1 hg1 ht1 hm1
      go_wp2_with fail
      refine (cl_has (wstable_0.setCell ⟨gt, 3, none⟩ (.int .i64 (d.i32.2.i16.2.i64.2.i64.1))) p g bx rv d.i32.2.i16.2.i64.2.i64.2 3 3 hc).mono ?_
      rintro e wh1 ⟨rfl, hc2, mn⟩
      replace hg := hid_mod hg mn hngb
      replace ht := hid_mod ht mn hnt
      replace hm := hm.trans mn
      replace hc := hc2
      have cx := hc.cell
      clear hc2 mn
      cases hh1 : d.i32.2.i16.2.i64.2.i64.2.has 3 3
      · -- no
        go_wp2_with fail
        have hbrecs : Hid (w.heap.size ≤ wh1.heap.size) := hm.size
        refine (cl_blob wh1 p g bx rv d.i32.2.i16.2.i64.2.i64.2 hc).mono ?_
        rintro e wrecs_2 ⟨cs2, rfl, kv, hc2, mn⟩
        obtain ⟨Arecs, crecs, rfl, rrecs⟩ := kBlob_openM kv
        replace hg := hid_mod hg mn hngb
        replace ht := hid_mod ht mn hnt
        replace hm := hm.trans mn
        replace hc := hc2
        have cx := hc.cell
        clear hc2 mn
        have ft := fun i => blk_frozen ht.out i
        have t5 : wrecs_2.cell? ⟨gt, 5, none⟩ = _ := blk_cell ht.out 5
        have t6 : wrecs_2.cell? ⟨gt, 6, none⟩ = _ := blk_cell ht.out 6
        simp at t5 t6
        have cx1 : ((wrecs_2.setCell ⟨gt, 5, none⟩ (.bool d.i32.2.i16.2.i64.2.i64.2.blobV.1.null)).setCell ⟨gt, 6, none⟩ (.slice Arecs d.i32.2.i16.2.i64.2.i64.2.blobV.1.b.length crecs)).cell? ⟨bx, 0, none⟩ = some (.pointer (some ⟨p, 0, none⟩)) := (cell_far hbt).trans ((cell_far hbt).trans (hc.cell))
        have hc1 : Cl ((wrecs_2.setCell ⟨gt, 5, none⟩ (.bool d.i32.2.i16.2.i64.2.i64.2.blobV.1.null)).setCell ⟨gt, 6, none⟩ (.slice Arecs d.i32.2.i16.2.i64.2.i64.2.blobV.1.b.length crecs)) p g bx rv d.i32.2.i16.2.i64.2.i64.2.blobV.2 := ((hc.far ht.out (by decide) (by decide) (by decide) (by decide) 5 _).far (hid_set ht 5 (.bool d.i32.2.i16.2.i64.2.i64.2.blobV.1.null)).out (by decide) (by decide) (by decide) (by decide) 6 _)
        have hg1 : Hid (((wrecs_2.setCell ⟨gt, 5, none⟩ (.bool d.i32.2.i16.2.i64.2.i64.2.blobV.1.null)).setCell ⟨gt, 6, none⟩ (.slice Arecs d.i32.2.i16.2.i64.2.i64.2.blobV.1.b.length crecs)).heap[gb]? = some (.cells #[.int .i32 0, .int .i16 0, .int .i64 0, .int .i64 0, .int .i64 0, .bool false, .slice none 0 0] 225 (0, 0))) := (hid_far (hid_far hg hgt2) hgt2)
        have ht1 : Hid (((wrecs_2.setCell ⟨gt, 5, none⟩ (.bool d.i32.2.i16.2.i64.2.i64.2.blobV.1.null)).setCell ⟨gt, 6, none⟩ (.slice Arecs d.i32.2.i16.2.i64.2.i64.2.blobV.1.b.length crecs)).heap[gt]? = some (.cells #[.int .i32 (d.i32.1), .int .i16 (d.i32.2.i16.1), .int .i64 (d.i32.2.i16.2.i64.1), .int .i64 (d.i32.2.i16.2.i64.2.i64.1), .int .i64 0, .bool d.i32.2.i16.2.i64.2.i64.2.blobV.1.null, .slice Arecs d.i32.2.i16.2.i64.2.i64.2.blobV.1.b.length crecs] 225 (0, 0))) := hid_cast (hid_set (hid_set ht 5 (.bool d.i32.2.i16.2.i64.2.i64.2.blobV.1.null)) 6 (.slice Arecs d.i32.2.i16.2.i64.2.i64.2.blobV.1.b.length crecs)) rfl
        have hm1 : Mod (DecS p g) w ((wrecs_2.setCell ⟨gt, 5, none⟩ (.bool d.i32.2.i16.2.i64.2.i64.2.blobV.1.null)).setCell ⟨gt, 6, none⟩ (.slice Arecs d.i32.2.i16.2.i64.2.i64.2.blobV.1.b.length crecs)) := (modFar (modFar hm hst 5 _) hst 6 _)
        have rrecs1 := (Kd.R_set (Kd.R_set rrecs ht.out (by decide) 5 (.bool d.i32.2.i16.2.i64.2.i64.2.blobV.1.null)) (hid_set ht 5 (.bool d.i32.2.i16.2.i64.2.i64.2.blobV.1.null)).out (by decide) 6 (.slice Arecs d.i32.2.i16.2.i64.2.i64.2.blobV.1.b.length crecs))
        replace hc := hc1
        replace hg := hg1
        replace ht := ht1
        replace hm := hm1
        replace rrecs := rrecs1
        clear hc1 hg1 ht1 hm1 rrecs1
        have fg := fun i => blk_frozen hg.out i
        have t0 : ((wrecs_2.setCell ⟨gt, 5, none⟩ (.bool d.i32.2.i16.2.i64.2.i64.2.blobV.1.null)).setCell ⟨gt, 6, none⟩ (.slice Arecs d.i32.2.i16.2.i64.2.i64.2.blobV.1.b.length crecs)).cell? ⟨gt, 0, none⟩ = _ := blk_cell ht.out 0
        have z0 : ((wrecs_2.setCell ⟨gt, 5, none⟩ (.bool d.i32.2.i16.2.i64.2.i64.2.blobV.1.null)).setCell ⟨gt, 6, none⟩ (.slice Arecs d.i32.2.i16.2.i64.2.i64.2.blobV.1.b.length crecs)).cell? ⟨gb, 0, none⟩ = _ := blk_cell hg.out 0
        have t1 : ((wrecs_2.setCell ⟨gt, 5, none⟩ (.bool d.i32.2.i16.2.i64.2.i64.2.blobV.1.null)).setCell ⟨gt, 6, none⟩ (.slice Arecs d.i32.2.i16.2.i64.2.i64.2.blobV.1.b.length crecs)).cell? ⟨gt, 1, none⟩ = _ := blk_cell ht.out 1
        have z1 : ((wrecs_2.setCell ⟨gt, 5, none⟩ (.bool d.i32.2.i16.2.i64.2.i64.2.blobV.1.null)).setCell ⟨gt, 6, none⟩ (.slice Arecs d.i32.2.i16.2.i64.2.i64.2.blobV.1.b.length crecs)).cell? ⟨gb, 1, none⟩ = _ := blk_cell hg.out 1
        have t2 : ((wrecs_2.setCell ⟨gt, 5, none⟩ (.bool d.i32.2.i16.2.i64.2.i64.2.blobV.1.null)).setCell ⟨gt, 6, none⟩ (.slice Arecs d.i32.2.i16.2.i64.2.i64.2.blobV.1.b.length crecs)).cell? ⟨gt, 2, none⟩ = _ := blk_cell ht.out 2
        have z2 : ((wrecs_2.setCell ⟨gt, 5, none⟩ (.bool d.i32.2.i16.2.i64.2.i64.2.blobV.1.null)).setCell ⟨gt, 6, none⟩ (.slice Arecs d.i32.2.i16.2.i64.2.i64.2.blobV.1.b.length crecs)).cell? ⟨gb, 2, none⟩ = _ := blk_cell hg.out 2
        have t3 : ((wrecs_2.setCell ⟨gt, 5, none⟩ (.bool d.i32.2.i16.2.i64.2.i64.2.blobV.1.null)).setCell ⟨gt, 6, none⟩ (.slice Arecs d.i32.2.i16.2.i64.2.i64.2.blobV.1.b.length crecs)).cell? ⟨gt, 3, none⟩ = _ := blk_cell ht.out 3
        have z3 : ((wrecs_2.setCell ⟨gt, 5, none⟩ (.bool d.i32.2.i16.2.i64.2.i64.2.blobV.1.null)).setCell ⟨gt, 6, none⟩ (.slice Arecs d.i32.2.i16.2.i64.2.i64.2.blobV.1.b.length crecs)).cell? ⟨gb, 3, none⟩ = _ := blk_cell hg.out 3
        have t4 : ((wrecs_2.setCell ⟨gt, 5, none⟩ (.bool d.i32.2.i16.2.i64.2.i64.2.blobV.1.null)).setCell ⟨gt, 6, none⟩ (.slice Arecs d.i32.2.i16.2.i64.2.i64.2.blobV.1.b.length crecs)).cell? ⟨gt, 4, none⟩ = _ := blk_cell ht.out 4
        have z4 : ((wrecs_2.setCell ⟨gt, 5, none⟩ (.bool d.i32.2.i16.2.i64.2.i64.2.blobV.1.null)).setCell ⟨gt, 6, none⟩ (.slice Arecs d.i32.2.i16.2.i64.2.i64.2.blobV.1.b.length crecs)).cell? ⟨gb, 4, none⟩ = _ := blk_cell hg.out 4
        have t5 : ((wrecs_2.setCell ⟨gt, 5, none⟩ (.bool d.i32.2.i16.2.i64.2.i64.2.blobV.1.null)).setCell ⟨gt, 6, none⟩ (.slice Arecs d.i32.2.i16.2.i64.2.i64.2.blobV.1.b.length crecs)).cell? ⟨gt, 5, none⟩ = _ := blk_cell ht.out 5
        have z5 : ((wrecs_2.setCell ⟨gt, 5, none⟩ (.bool d.i32.2.i16.2.i64.2.i64.2.blobV.1.null)).setCell ⟨gt, 6, none⟩ (.slice Arecs d.i32.2.i16.2.i64.2.i64.2.blobV.1.b.length crecs)).cell? ⟨gb, 5, none⟩ = _ := blk_cell hg.out 5
        have t6 : ((wrecs_2.setCell ⟨gt, 5, none⟩ (.bool d.i32.2.i16.2.i64.2.i64.2.blobV.1.null)).setCell ⟨gt, 6, none⟩ (.slice Arecs d.i32.2.i16.2.i64.2.i64.2.blobV.1.b.length crecs)).cell? ⟨gt, 6, none⟩ = _ := blk_cell ht.out 6
        have z6 : ((wrecs_2.setCell ⟨gt, 5, none⟩ (.bool d.i32.2.i16.2.i64.2.i64.2.blobV.1.null)).setCell ⟨gt, 6, none⟩ (.slice Arecs d.i32.2.i16.2.i64.2.i64.2.blobV.1.b.length crecs)).cell? ⟨gb, 6, none⟩ = _ := blk_cell hg.out 6
        simp at t0 z0 t1 z1 t2 z2 t3 z3 t4 z4 t5 z5 t6 z6
        go_wp2
        have erd : rdFetchDone d = (⟨d.i32.1, d.i32.2.i16.1, d.i32.2.i16.2.i64.1, d.i32.2.i16.2.i64.2.i64.1, 0, d.i32.2.i16.2.i64.2.i64.2.blobV.1⟩, d.i32.2.i16.2.i64.2.i64.2.blobV.2) := by simp only [rdFetchDone, hh0, hh1, Bool.false_eq_true, if_true, if_false]
        rw [erd]
        refine bodyPost_ret (v := .agg #[.int .i32 (d.i32.1), .int .i16 (d.i32.2.i16.1), .int .i64 (d.i32.2.i16.2.i64.1), .int .i64 (d.i32.2.i16.2.i64.2.i64.1), .int .i64 0, .bool d.i32.2.i16.2.i64.2.i64.2.blobV.1.null, .slice Arecs d.i32.2.i16.2.i64.2.i64.2.blobV.1.b.length crecs]) (by simp [results, Tryz.results129, go_sem, z0, z1, z2, z3, z4, z5, z6]) rfl ⟨[.int .i32 (d.i32.1), .int .i16 (d.i32.2.i16.1), .int .i64 (d.i32.2.i16.2.i64.1), .int .i64 (d.i32.2.i16.2.i64.2.i64.1), .int .i64 0, .bool d.i32.2.i16.2.i64.2.i64.2.blobV.1.null, .slice Arecs d.i32.2.i16.2.i64.2.i64.2.blobV.1.b.length crecs], rfl, ?_, ?_, ?_⟩
        · exact kFetchDone_mkM _ _ _ (⟨d.i32.1, d.i32.2.i16.1, d.i32.2.i16.2.i64.1, d.i32.2.i16.2.i64.2.i64.1, 0, d.i32.2.i16.2.i64.2.i64.2.blobV.1⟩ : FetchDone) (Kd.R_lower (Kd.R_set (Kd.R_set (Kd.R_set (Kd.R_set (Kd.R_set (Kd.R_set (Kd.R_set rrecs hg.out (by decide) 0 _) (hid_set hg 0 _).out (by decide) 1 _) (hid_set (hid_set hg 0 _) 1 _).out (by decide) 2 _) (hid_set (hid_set (hid_set hg 0 _) 1 _) 2 _).out (by decide) 3 _) (hid_set (hid_set (hid_set (hid_set hg 0 _) 1 _) 2 _) 3 _).out (by decide) 4 _) (hid_set (hid_set (hid_set (hid_set (hid_set hg 0 _) 1 _) 2 _) 3 _) 4 _).out (by decide) 5 _) (hid_set (hid_set (hid_set (hid_set (hid_set (hid_set hg 0 _) 1 _) 2 _) 3 _) 4 _) 5 _).out (by decide) 6 _) hbrecs.out)
        · exact (((((((hc.far hg.out (by decide) (by decide) (by decide) (by decide) 0 _).far (hid_set hg 0 _).out (by decide) (by decide) (by decide) (by decide) 1 _).far (hid_set (hid_set hg 0 _) 1 _).out (by decide) (by decide) (by decide) (by decide) 2 _).far (hid_set (hid_set (hid_set hg 0 _) 1 _) 2 _).out (by decide) (by decide) (by decide) (by decide) 3 _).far (hid_set (hid_set (hid_set (hid_set hg 0 _) 1 _) 2 _) 3 _).out (by decide) (by decide) (by decide) (by decide) 4 _).far (hid_set (hid_set (hid_set (hid_set (hid_set hg 0 _) 1 _) 2 _) 3 _) 4 _).out (by decide) (by decide) (by decide) (by decide) 5 _).far (hid_set (hid_set (hid_set (hid_set (hid_set (hid_set hg 0 _) 1 _) 2 _) 3 _) 4 _) 5 _).out (by decide) (by decide) (by decide) (by decide) 6 _)
        · exact (modFar (modFar (modFar (modFar (modFar (modFar (modFar hm hsgb 0 _) hsgb 1 _) hsgb 2 _) hsgb 3 _) hsgb 4 _) hsgb 5 _) hsgb 6 _)
      · -- yes
        go_wp2_with fail
        refine (cl_i64 wh1 p g bx rv d.i32.2.i16.2.i64.2.i64.2 hc).mono ?_
        rintro e wstart_1 ⟨rfl, hc2, mn⟩
        replace hg := hid_mod hg mn hngb
        replace ht := hid_mod ht mn hnt
        replace hm := hm.trans mn
        replace hc := hc2
        have cx := hc.cell
        clear hc2 mn
        have ft := fun i => blk_frozen ht.out i
        have t4 : wstart_1.cell? ⟨gt, 4, none⟩ = _ := blk_cell ht.out 4
        simp at t4
        have cx1 : (wstart_1.setCell ⟨gt, 4, none⟩ (.int .i64 (d.i32.2.i16.2.i64.2.i64.2.i64.1))).cell? ⟨bx, 0, none⟩ = some (.pointer (some ⟨p, 0, none⟩)) := (cell_far hbt).trans (hc.cell)
        have hc1 : Cl (wstart_1.setCell ⟨gt, 4, none⟩ (.int .i64 (d.i32.2.i16.2.i64.2.i64.2.i64.1))) p g bx rv d.i32.2.i16.2.i64.2.i64.2.i64.2 := (hc.far ht.out (by decide) (by decide) (by decide) (by decide) 4 _)
        have hg1 : Hid ((wstart_1.setCell ⟨gt, 4, none⟩ (.int .i64 (d.i32.2.i16.2.i64.2.i64.2.i64.1))).heap[gb]? = some (.cells #[.int .i32 0, .int .i16 0, .int .i64 0, .int .i64 0, .int .i64 0, .bool false, .slice none 0 0] 225 (0, 0))) := (hid_far hg hgt2)
        have ht1 : Hid ((wstart_1.setCell ⟨gt, 4, none⟩ (.int .i64 (d.i32.2.i16.2.i64.2.i64.2.i64.1))).heap[gt]? = some (.cells #[.int .i32 (d.i32.1), .int .i16 (d.i32.2.i16.1), .int .i64 (d.i32.2.i16.2.i64.1), .int .i64 (d.i32.2.i16.2.i64.2.i64.1), .int .i64 (d.i32.2.i16.2.i64.2.i64.2.i64.1), .bool false, .slice none 0 0] 225 (0, 0))) := hid_cast (hid_set ht 4 (.int .i64 (d.i32.2.i16.2.i64.2.i64.2.i64.1))) rfl
        have hm1 : Mod (DecS p g) w (wstart_1.setCell ⟨gt, 4, none⟩ (.int .i64 (d.i32.2.i16.2.i64.2.i64.2.i64.1))) := (modFar hm hst 4 _)
        replace hc := hc1
        replace hg := hg1
        replace ht := ht1
        replace hm := hm1
        clear hc1 hg1 ht1 hm1
        go_wp2_with fail
        have hbrecs : Hid (w.heap.size ≤ (wstart_1.setCell ⟨gt, 4, none⟩ (.int .i64 (d.i32.2.i16.2.i64.2.i64.2.i64.1))).heap.size) := hm.size
        refine (cl_blob (wstart_1.setCell ⟨gt, 4, none⟩ (.int .i64 (d.i32.2.i16.2.i64.2.i64.2.i64.1))) p g bx rv d.i32.2.i16.2.i64.2.i64.2.i64.2 hc).mono ?_
        rintro e wrecs_2 ⟨cs2, rfl, kv, hc2, mn⟩
        obtain ⟨Arecs, crecs, rfl, rrecs⟩ := kBlob_openM kv
        replace hg := hid_mod hg mn hngb
        replace ht := hid_mod ht mn hnt
        replace hm := hm.trans mn
        replace hc := hc2
        have cx := hc.cell
        clear hc2 mn
        have ft := fun i => blk_frozen ht.out i
        have t5 : wrecs_2.cell? ⟨gt, 5, none⟩ = _ := blk_cell ht.out 5
        have t6 : wrecs_2.cell? ⟨gt, 6, none⟩ = _ := blk_cell ht.out 6
        simp at t5 t6
        have cx1 : ((wrecs_2.setCell ⟨gt, 5, none⟩ (.bool d.i32.2.i16.2.i64.2.i64.2.i64.2.blobV.1.null)).setCell ⟨gt, 6, none⟩ (.slice Arecs d.i32.2.i16.2.i64.2.i64.2.i64.2.blobV.1.b.length crecs)).cell? ⟨bx, 0, none⟩ = some (.pointer (some ⟨p, 0, none⟩)) := (cell_far hbt).trans ((cell_far hbt).trans (hc.cell))
        have hc1 : Cl ((wrecs_2.setCell ⟨gt, 5, none⟩ (.bool d.i32.2.i16.2.i64.2.i64.2.i64.2.blobV.1.null)).setCell ⟨gt, 6, none⟩ (.slice Arecs d.i32.2.i16.2.i64.2.i64.2.i64.2.blobV.1.b.length crecs)) p g bx rv d.i32.2.i16.2.i64.2.i64.2.i64.2.blobV.2 := ((hc.far ht.out (by decide) (by decide) (by decide) (by decide) 5 _).far (hid_set ht 5 (.bool d.i32.2.i16.2.i64.2.i64.2.i64.2.blobV.1.null)).out (by decide) (by decide) (by decide) (by decide) 6 _)
        have hg1 : Hid (((wrecs_2.setCell ⟨gt, 5, none⟩ (.bool d.i32.2.i16.2.i64.2.i64.2.i64.2.blobV.1.null)).setCell ⟨gt, 6, none⟩ (.slice Arecs d.i32.2.i16.2.i64.2.i64.2.i64.2.blobV.1.b.length crecs)).heap[gb]? = some (.cells #[.int .i32 0, .int .i16 0, .int .i64 0, .int .i64 0, .int .i64 0, .bool false, .slice none 0 0] 225 (0, 0))) := (hid_far (hid_far hg hgt2) hgt2)
        have ht1 : Hid (((wrecs_2.setCell ⟨gt, 5, none⟩ (.bool d.i32.2.i16.2.i64.2.i64.2.i64.2.blobV.1.null)).setCell ⟨gt, 6, none⟩ (.slice Arecs d.i32.2.i16.2.i64.2.i64.2.i64.2.blobV.1.b.length crecs)).heap[gt]? = some (.cells #[.int .i32 (d.i32.1), .int .i16 (d.i32.2.i16.1), .int .i64 (d.i32.2.i16.2.i64.1), .int .i64 (d.i32.2.i16.2.i64.2.i64.1), .int .i64 (d.i32.2.i16.2.i64.2.i64.2.i64.1), .bool d.i32.2.i16.2.i64.2.i64.2.i64.2.blobV.1.null, .slice Arecs d.i32.2.i16.2.i64.2.i64.2.i64.2.blobV.1.b.length crecs] 225 (0, 0))) := hid_cast (hid_set (hid_set ht 5 (.bool d.i32.2.i16.2.i64.2.i64.2.i64.2.blobV.1.null)) 6 (.slice Arecs d.i32.2.i16.2.i64.2.i64.2.i64.2.blobV.1.b.length crecs)) rfl
        have hm1 : Mod (DecS p g) w ((wrecs_2.setCell ⟨gt, 5, none⟩ (.bool d.i32.2.i16.2.i64.2.i64.2.i64.2.blobV.1.null)).setCell ⟨gt, 6, none⟩ (.slice Arecs d.i32.2.i16.2.i64.2.i64.2.i64.2.blobV.1.b.length crecs)) := (modFar (modFar hm hst 5 _) hst 6 _)
        have rrecs1 := (Kd.R_set (Kd.R_set rrecs ht.out (by decide) 5 (.bool d.i32.2.i16.2.i64.2.i64.2.i64.2.blobV.1.null)) (hid_set ht 5 (.bool d.i32.2.i16.2.i64.2.i64.2.i64.2.blobV.1.null)).out (by decide) 6 (.slice Arecs d.i32.2.i16.2.i64.2.i64.2.i64.2.blobV.1.b.length crecs))
        replace hc := hc1
        replace hg := hg1
        replace ht := ht1
        replace hm := hm1
        replace rrecs := rrecs1
        clear hc1 hg1 ht1 hm1 rrecs1
        have fg := fun i => blk_frozen hg.out i
        have t0 : ((wrecs_2.setCell ⟨gt, 5, none⟩ (.bool d.i32.2.i16.2.i64.2.i64.2.i64.2.blobV.1.null)).setCell ⟨gt, 6, none⟩ (.slice Arecs d.i32.2.i16.2.i64.2.i64.2.i64.2.blobV.1.b.length crecs)).cell? ⟨gt, 0, none⟩ = _ := blk_cell ht.out 0
        have z0 : ((wrecs_2.setCell ⟨gt, 5, none⟩ (.bool d.i32.2.i16.2.i64.2.i64.2.i64.2.blobV.1.null)).setCell ⟨gt, 6, none⟩ (.slice Arecs d.i32.2.i16.2.i64.2.i64.2.i64.2.blobV.1.b.length crecs)).cell? ⟨gb, 0, none⟩ = _ := blk_cell hg.out 0
        have t1 : ((wrecs_2.setCell ⟨gt, 5, none⟩ (.bool d.i32.2.i16.2.i64.2.i64.2.i64.2.blobV.1.null)).setCell ⟨gt, 6, none⟩ (.slice Arecs d.i32.2.i16.2.i64.2.i64.2.i64.2.blobV.1.b.length crecs)).cell? ⟨gt, 1, none⟩ = _ := blk_cell ht.out 1
        have z1 : ((wrecs_2.setCell ⟨gt, 5, none⟩ (.bool d.i32.2.i16.2.i64.2.i64.2.i64.2.blobV.1.null)).setCell ⟨gt, 6, none⟩ (.slice Arecs d.i32.2.i16.2.i64.2.i64.2.i64.2.blobV.1.b.length crecs)).cell? ⟨gb, 1, none⟩ = _ := blk_cell hg.out 1
        have t2 : ((wrecs_2.setCell ⟨gt, 5, none⟩ (.bool d.i32.2.i16.2.i64.2.i64.2.i64.2.blobV.1.null)).setCell ⟨gt, 6, none⟩ (.slice Arecs d.i32.2.i16.2.i64.2.i64.2.i64.2.blobV.1.b.length crecs)).cell? ⟨gt, 2, none⟩ = _ := blk_cell ht.out 2
        have z2 : ((wrecs_2.setCell ⟨gt, 5, none⟩ (.bool d.i32.2.i16.2.i64.2.i64.2.i64.2.blobV.1.null)).setCell ⟨gt, 6, none⟩ (.slice Arecs d.i32.2.i16.2.i64.2.i64.2.i64.2.blobV.1.b.length crecs)).cell? ⟨gb, 2, none⟩ = _ := blk_cell hg.out 2
        have t3 : ((wrecs_2.setCell ⟨gt, 5, none⟩ (.bool d.i32.2.i16.2.i64.2.i64.2.i64.2.blobV.1.null)).setCell ⟨gt, 6, none⟩ (.slice Arecs d.i32.2.i16.2.i64.2.i64.2.i64.2.blobV.1.b.length crecs)).cell? ⟨gt, 3, none⟩ = _ := blk_cell ht.out 3
        have z3 : ((wrecs_2.setCell ⟨gt, 5, none⟩ (.bool d.i32.2.i16.2.i64.2.i64.2.i64.2.blobV.1.null)).setCell ⟨gt, 6, none⟩ (.slice Arecs d.i32.2.i16.2.i64.2.i64.2.i64.2.blobV.1.b.length crecs)).cell? ⟨gb, 3, none⟩ = _ := blk_cell hg.out 3
        have t4 : ((wrecs_2.setCell ⟨gt, 5, none⟩ (.bool d.i32.2.i16.2.i64.2.i64.2.i64.2.blobV.1.null)).setCell ⟨gt, 6, none⟩ (.slice Arecs d.i32.2.i16.2.i64.2.i64.2.i64.2.blobV.1.b.length crecs)).cell? ⟨gt, 4, none⟩ = _ := blk_cell ht.out 4
        have z4 : ((wrecs_2.setCell ⟨gt, 5, none⟩ (.bool d.i32.2.i16.2.i64.2.i64.2.i64.2.blobV.1.null)).setCell ⟨gt, 6, none⟩ (.slice Arecs d.i32.2.i16.2.i64.2.i64.2.i64.2.blobV.1.b.length crecs)).cell? ⟨gb, 4, none⟩ = _ := blk_cell hg.out 4
        have t5 : ((wrecs_2.setCell ⟨gt, 5, none⟩ (.bool d.i32.2.i16.2.i64.2.i64.2.i64.2.blobV.1.null)).setCell ⟨gt, 6, none⟩ (.slice Arecs d.i32.2.i16.2.i64.2.i64.2.i64.2.blobV.1.b.length crecs)).cell? ⟨gt, 5, none⟩ = _ := blk_cell ht.out 5
        have z5 : ((wrecs_2.setCell ⟨gt, 5, none⟩ (.bool d.i32.2.i16.2.i64.2.i64.2.i64.2.blobV.1.null)).setCell ⟨gt, 6, none⟩ (.slice Arecs d.i32.2.i16.2.i64.2.i64.2.i64.2.blobV.1.b.length crecs)).cell? ⟨gb, 5, none⟩ = _ := blk_cell hg.out 5
        have t6 : ((wrecs_2.setCell ⟨gt, 5, none⟩ (.bool d.i32.2.i16.2.i64.2.i64.2.i64.2.blobV.1.null)).setCell ⟨gt, 6, none⟩ (.slice Arecs d.i32.2.i16.2.i64.2.i64.2.i64.2.blobV.1.b.length crecs)).cell? ⟨gt, 6, none⟩ = _ := blk_cell ht.out 6
        have z6 : ((wrecs_2.setCell ⟨gt, 5, none⟩ (.bool d.i32.2.i16.2.i64.2.i64.2.i64.2.blobV.1.null)).setCell ⟨gt, 6, none⟩ (.slice Arecs d.i32.2.i16.2.i64.2.i64.2.i64.2.blobV.1.b.length crecs)).cell? ⟨gb, 6, none⟩ = _ := blk_cell hg.out 6
        simp at t0 z0 t1 z1 t2 z2 t3 z3 t4 z4 t5 z5 t6 z6
        go_wp2
        have erd : rdFetchDone d = (⟨d.i32.1, d.i32.2.i16.1, d.i32.2.i16.2.i64.1, d.i32.2.i16.2.i64.2.i64.1, d.i32.2.i16.2.i64.2.i64.2.i64.1, d.i32.2.i16.2.i64.2.i64.2.i64.2.blobV.1⟩, d.i32.2.i16.2.i64.2.i64.2.i64.2.blobV.2) := by simp only [rdFetchDone, hh0, hh1, Bool.false_eq_true, if_true, if_false]
        rw [erd]
        refine bodyPost_ret (v := .agg #[.int .i32 (d.i32.1), .int .i16 (d.i32.2.i16.1), .int .i64 (d.i32.2.i16.2.i64.1), .int .i64 (d.i32.2.i16.2.i64.2.i64.1), .int .i64 (d.i32.2.i16.2.i64.2.i64.2.i64.1), .bool d.i32.2.i16.2.i64.2.i64.2.i64.2.blobV.1.null, .slice Arecs d.i32.2.i16.2.i64.2.i64.2.i64.2.blobV.1.b.length crecs]) (by simp [results, Tryz.results129, go_sem, z0, z1, z2, z3, z4, z5, z6]) rfl ⟨[.int .i32 (d.i32.1), .int .i16 (d.i32.2.i16.1), .int .i64 (d.i32.2.i16.2.i64.1), .int .i64 (d.i32.2.i16.2.i64.2.i64.1), .int .i64 (d.i32.2.i16.2.i64.2.i64.2.i64.1), .bool d.i32.2.i16.2.i64.2.i64.2.i64.2.blobV.1.null, .slice Arecs d.i32.2.i16.2.i64.2.i64.2.i64.2.blobV.1.b.length crecs], rfl, ?_, ?_, ?_⟩
        · exact kFetchDone_mkM _ _ _ (⟨d.i32.1, d.i32.2.i16.1, d.i32.2.i16.2.i64.1, d.i32.2.i16.2.i64.2.i64.1, d.i32.2.i16.2.i64.2.i64.2.i64.1, d.i32.2.i16.2.i64.2.i64.2.i64.2.blobV.1⟩ : FetchDone) (Kd.R_lower (Kd.R_set (Kd.R_set (Kd.R_set (Kd.R_set (Kd.R_set (Kd.R_set (Kd.R_set rrecs hg.out (by decide) 0 _) (hid_set hg 0 _).out (by decide) 1 _) (hid_set (hid_set hg 0 _) 1 _).out (by decide) 2 _) (hid_set (hid_set (hid_set hg 0 _) 1 _) 2 _).out (by decide) 3 _) (hid_set (hid_set (hid_set (hid_set hg 0 _) 1 _) 2 _) 3 _).out (by decide) 4 _) (hid_set (hid_set (hid_set (hid_set (hid_set hg 0 _) 1 _) 2 _) 3 _) 4 _).out (by decide) 5 _) (hid_set (hid_set (hid_set (hid_set (hid_set (hid_set hg 0 _) 1 _) 2 _) 3 _) 4 _) 5 _).out (by decide) 6 _) hbrecs.out)
        · exact (((((((hc.far hg.out (by decide) (by decide) (by decide) (by decide) 0 _).far (hid_set hg 0 _).out (by decide) (by decide) (by decide) (by decide) 1 _).far (hid_set (hid_set hg 0 _) 1 _).out (by decide) (by decide) (by decide) (by decide) 2 _).far (hid_set (hid_set (hid_set hg 0 _) 1 _) 2 _).out (by decide) (by decide) (by decide) (by decide) 3 _).far (hid_set (hid_set (hid_set (hid_set hg 0 _) 1 _) 2 _) 3 _).out (by decide) (by decide) (by decide) (by decide) 4 _).far (hid_set (hid_set (hid_set (hid_set (hid_set hg 0 _) 1 _) 2 _) 3 _) 4 _).out (by decide) (by decide) (by decide) (by decide) 5 _).far (hid_set (hid_set (hid_set (hid_set (hid_set (hid_set hg 0 _) 1 _) 2 _) 3 _) 4 _) 5 _).out (by decide) (by decide) (by decide) (by decide) 6 _)
        · exact (modFar (modFar (modFar (modFar (modFar (modFar (modFar hm hsgb 0 _) hsgb 1 _) hsgb 2 _) hsgb 3 _) hsgb 4 _) hsgb 5 _) hsgb 6 _)

end Go.Proofs.YteckmgmcfngddaaGreat
end

section
/- A list of parts: FetchDone. -/
set_option linter.unusedVariables false
set_option linter.unusedSimpArgs false
namespace Go.Proofs.YteckmgmcfngddaaGreat
open Go.RowKit Go.Proofs.YteckmgmcfngddaaGreatW.PrintWords

theorem info_FetchDone : (Tryz.prog.info? 225).map (fun i => (i.zero, i.size, i.bytes)) = some (some (.agg #[.int .i32 0, .int .i16 0, .int .i64 0, .int .i64 0, .int .i64 0, .bool false, .slice none 0 0]), 7, 64) := by kernel_rfl
set_option maxRecDepth 100000 in
set_option maxHeartbeats 6400000 in
theorem cl_list_FetchDone (w : World) (p g bx : Nat) (rv : Value) (d : DS) (h : Cl w p g bx rv d) :
    Calls Tryz.prog 128 #[.pointer (some ⟨p, 0, none⟩), .func (.func 129) #[] #[.pointer (some ⟨bx, 0, none⟩)]] w (ClPostR kFetchDone 225 p g bx rv (rdList rdFetchDone d).1 (rdList rdFetchDone d).2 w) := by
  obtain ⟨r0, r1⟩ := d.i32_range
  go_enter Tryz.func128, Tryz.ntmps128
  go_wp2_with fail
  refine (cl_i32 w p g bx rv d h).mono ?_
  rintro e w1 ⟨rfl, h1, m1⟩
  obtain ⟨q, hbk⟩ := h1.dec.blk
  have c2 : w1.cell? ⟨p, 2, none⟩ = _ := blk_cell hbk 2
  have f2 := blk_frozen hbk 2
  simp at c2
  clear hbk
  go_upto_block 0 with fail
  go_cut [10] (fun v10 wx => Cl wx p g bx rv (rdHead d) ∧ Mod (DecS p g) w wx)
  case first =>
    by_cases he : d.i32.2.e = 0
    · have he' : (d.i32.2.e != 0) = false := by simp [he]
      by_cases h0 : d.i32.1 < 0
      · have h0' : decide (d.i32.1 < 0) = true := by simpa using h0
        have hh := Lib.hid (rdHead_neg he h0)
        clear he
        go_wp2
        go_meet
        rw [hh.out]
        exact ⟨h1.failed 5 (by decide), m1.trans (mod_dec' p g 0 _)⟩
      · have h0' : decide (d.i32.1 < 0) = false := by simpa using h0
        by_cases h2 : d.i32.1 > 16
        · have h2' : decide (d.i32.1 > 16) = true := by simpa using h2
          have hh := Lib.hid (rdHead_big he h0 h2)
          clear he
          go_wp2
          go_meet
          rw [hh.out]
          exact ⟨h1.failed 9 (by decide), m1.trans (mod_dec' p g 0 _)⟩
        · have h2' : decide (d.i32.1 > 16) = false := by simpa using h2
          have hh := Lib.hid (rdHead_ok he h0 h2)
          clear he
          go_wp2
          go_meet
          rw [hh.out]
          exact ⟨h1, m1⟩
    · have he' : (d.i32.2.e != 0) = true := by simp [he]
      have hh := Lib.hid (rdHead_err he)
      clear he
      go_wp2
      go_meet
      rw [hh.out]
      exact ⟨h1, m1⟩
  case rest =>
    obtain ⟨hc, hm⟩ := hcut
    clear c2 f2 h1 m1
    go_wp2_with fail
    go_loopg [6, 7] (d.i32.1.toNat) (fun gk v6 v7 wr => ∃ (k : Nat) (out : List FetchDone) (dk : DS) (A : Option Addr) (c : Nat), v7 = .int .i32 k ∧ v6 = .slice A out.length c ∧ Hid (out.length = k) ∧ k + gk ≤ 2147483647 ∧ Hid (gk + k = d.i32.1.toNat) ∧ kFetchDone.R 225 wr w.heap.size (fun _ => True) (.slice A out.length c) out ∧ Cl wr p g bx rv dk ∧ Mod (DecS p g) w wr ∧ Hid (rdGo rdFetchDone gk out dk = rdList rdFetchDone d) ∧ Hid (dk.e = 0 → d.i32.1 ≤ 16))
    case atStart => exact ⟨0, [], rdHead d, none, 0, rfl, rfl, rfl, by omega, by simp [Hid], Kd.R_nil _ _ _ _ _, hc, hm, rfl, rdHead_le d⟩
    case round =>
      obtain ⟨k, out, dk, A, c, rfl, rfl, hok, hk2, hgk, ho, hcr, hmr, heq, hle⟩ := hrel
      clear hc hm
      obtain ⟨q, hbk⟩ := hcr.dec.blk
      have c2 : wr.cell? ⟨p, 2, none⟩ = _ := blk_cell hbk 2
      simp at c2
      clear hbk
      by_cases hlt : (k : Int) < d.i32.1
      · have hlt' : decide ((k : Int) < d.i32.1) = true := by simpa using hlt
        by_cases he : dk.e = 0
        · have he' : (dk.e == 0) = true := by simp [he]
          have hn16 := hle.out he
          obtain ⟨j, rfl⟩ : ∃ j, gk = j + 1 := ⟨gk - 1, by have := hgk.out; omega⟩
          have hstep : Hid (rdGo rdFetchDone j (out ++ [(rdFetchDone dk).1]) (rdFetchDone dk).2 = rdList rdFetchDone d) := Lib.hid (by rw [← heq.out]; exact (rdGo_step rdFetchDone j out dk he).symm)
          clear he heq
          go_wp2_with fail
          refine (cl_FetchDone wr p g bx rv dk hcr).mono ?_
          rintro e w2 ⟨cs, rfl, kv, hc2, mn⟩
          obtain ⟨A0, c0, rfl, g0⟩ := kFetchDone_openM kv
          have ho2 := R_mod ho mn (fun q hq => h.new hq)
          have hlen : (out.length + 1) * 64 ≤ 140737488355328 := by have := hok.out; omega
          have HLEN := Lib.hid hlen
          clear hlen
          go_wp2_with (at_builtin; refine Kd.R_append kFetchDone (w0 := w2) w.heap.size rfl (.tmp 40) (.tmp 43) 220 225 (.agg #[.int .i32 0, .int .i16 0, .int .i64 0, .int .i64 0, .int .i64 0, .bool false, .slice none 0 0]) 64 rfl Tryz.underlying220 info_FetchDone rfl (by decide) (by decide) _ out (rdFetchDone dk).1 [.int .i32 (rdFetchDone dk).1.index, .int .i16 (rdFetchDone dk).1.code, .int .i64 (rdFetchDone dk).1.high, .int .i64 (rdFetchDone dk).1.stable, .int .i64 (rdFetchDone dk).1.start, .bool (rdFetchDone dk).1.recs.null, .slice A0 (rdFetchDone dk).1.recs.b.length c0] (fun _ => True) (fun q => some q ≠ (Value.slice A out.length c).ownBlock) rfl rfl (M_fresh kv ho (Nat.le_refl _) hmr.size) (fun q hq => ⟨trivial, hq⟩) (fun _ _ => trivial) ho2 (Below.refl _ _) (Nat.le_trans hmr.size mn.size) HLEN.out ?_; intro v1 w3 ho3 hb3 hg3 hat3)
          obtain ⟨A', c', rfl⟩ := Kd.R_slice ho3
          have hc3 : Cl w3 p g bx rv (rdFetchDone dk).2 := hc2.grown hg3 (fun q hq => by obtain ⟨cs, hcs⟩ := R_owntyped ho2 q hq; exact ⟨cs, _, hcs, by decide, by decide, by decide, by decide⟩)
          have hm3 : Mod (DecS p g) w w3 := (hmr.trans mn).grown hg3 (fun q hq => R_ownge ho2 q hq)
          clear hat3 hb3 hg3
          go_wp2
          go_roundg j
          case measure => omega
          case rel => exact ⟨k + 1, out ++ [(rdFetchDone dk).1], (rdFetchDone dk).2, A', c', by go_num, by simp, Lib.hid (by have := hok.out; simp [this]), by omega, Lib.hid (by have := hgk.out; omega), ho3, hc3, hm3, hstep, fun _ => hn16⟩
        · have he' : (dk.e == 0) = false := by simp [he]
          have hend : Hid (rdList rdFetchDone d = (out, dk)) := Lib.hid (by rw [← heq.out]; exact rdGo_stop rdFetchDone gk out dk he)
          clear he heq
          go_wp2
          go_ret
          rw [hend.out]
          exact ⟨A, c, rfl, ho, hcr, hmr⟩
      · have hlt' : decide ((k : Int) < d.i32.1) = false := by simpa using hlt
        have hend : Hid (rdList rdFetchDone d = (out, dk)) := Lib.hid (by
          rw [← heq.out]
          have := hgk.out
          rw [show gk = 0 from by omega]
          rfl)
        clear heq
        go_wp2
        go_ret
        rw [hend.out]
        exact ⟨A, c, rfl, ho, hcr, hmr⟩

end Go.Proofs.YteckmgmcfngddaaGreat
end

section
/- The reader of a part: FetchGone. -/
set_option linter.unusedVariables false
set_option linter.unusedSimpArgs false
namespace Go.Proofs.YteckmgmcfngddaaGreat
open Go.RowKit Go.Proofs.YteckmgmcfngddaaGreatW.PrintWords

def rdFetchGone (d : DS) : FetchGone × DS :=
  let r0 := d.str
  let r1 := (rdList rdFetchDone r0.2)
  (⟨r0.1, r1.1⟩, r1.2)

set_option maxRecDepth 100000 in
set_option maxHeartbeats 6400000 in
theorem cl_FetchGone (w : World) (p g bx : Nat) (rv : Value) (d : DS) (h : Cl w p g bx rv d) :
    Calls Tryz.prog 127 #[.pointer (some ⟨bx, 0, none⟩)] w (ClPostM kFetchGone p g bx rv (rdFetchGone d).1 (rdFetchGone d).2 w) := by
  have hmf : ∀ (fn : Fn) (first cap : Array Value) (w : World), (Instr.makeFunc fn first cap).run Tryz.prog w = .ok (.func fn first cap) w := fun _ _ _ _ => rfl
  go_enter Tryz.func127, Tryz.ntmps127
  go_wp2_with (first | ((with_reducible refine gate_dst (N := 1) rfl ?_); refine box_event ?hg (N := 1) ?hd (cs := #[.string ⟨#[]⟩, .slice none 0 0]) (t := 222) ?hr ?_; (case hd => rfl); (case hg => rfl); (case hr => first | (go_simp; done) | (go_simp; rfl)); intro gb hgb w0 kgb bgb; have hc0 := h.below bgb; have hm0 : Mod (DecS p g) w w0 := Mod.of_below bgb; have hg0 : Hid (w0.heap[gb]? = some (.cells #[.string ⟨#[]⟩, .slice none 0 0] 222 (0, 0))) := kgb; have hc := h.below bgb; have hbx := blk_ne hc.box kgb (by decide); have hngb : Hid (¬ DecS p g gb) := h.new (Nat.le_of_eq hgb.symm); have hsgb : Hid (w.heap.size ≤ gb) := Nat.le_of_eq hgb.symm; have hg : Hid (w0.heap[gb]? = some (.cells #[.string ⟨#[]⟩, .slice none 0 0] 222 (0, 0))) := kgb; have hm : Mod (DecS p g) w w0 := (Mod.of_below bgb); have cx := hc.cell; clear hgb kgb bgb))
  refine (cl_str w0 p g bx rv d hc).mono ?_
  rintro e w1 ⟨rfl, hc2, mn⟩
  have hg := hid_mod hg mn hngb
  have hm := hm.trans mn
  have hc := hc2
  have cx := hc.cell
  clear hc2 mn
  go_wp2_with (first | ((with_reducible refine gate_dst (N := 2) rfl ?_); refine box_event ?hg (N := 2) ?hd (cs := #[.string ⟨#[]⟩, .slice none 0 0]) (t := 222) ?hr ?_; (case hd => rfl); (case hg => rfl); (case hr => first | (go_simp; done) | (go_simp; rfl)); intro gt hgt wt kgt bgt; have hc := hc.below bgt; have hbt := blk_ne hc.box kgt (by decide); have hst : Hid (w.heap.size ≤ gt) := Nat.le_trans hm.size (Nat.le_of_eq hgt.symm); have hgt2 : Hid (gb ≠ gt) := Nat.ne_of_lt (Nat.lt_of_lt_of_le (blk_lt hg.out) (Nat.le_of_eq hgt.symm)); have hnt : Hid (¬ DecS p g gt) := h.new hst.out; have hg := hid_mod hg (Mod.of_below (S := fun _ => False) bgt) (Lib.hid id); have hm := hm.trans (Mod.of_below bgt); have ht : Hid (wt.heap[gt]? = some (.cells #[.string ⟨#[]⟩, .slice none 0 0] 222 (0, 0))) := kgt; clear kgt hgt bgt; have ft := fun i => blk_frozen ht.out i; have t0 : wt.cell? ⟨gt, 0, none⟩ = _ := blk_cell ht.out 0; have t1 : wt.cell? ⟨gt, 1, none⟩ = _ := blk_cell ht.out 1; simp at t0 t1; have cx : ((wt.setCell ⟨gt, 0, none⟩ (.string (d.str.1))).setCell ⟨gt, 1, none⟩ (.slice none 0 0)).cell? ⟨bx, 0, none⟩ = some (.pointer (some ⟨p, 0, none⟩)) := (cell_far hbt).trans ((cell_far hbt).trans (hc.cell))))
  have hc1 : Cl (((wt.setCell ⟨gt, 0, none⟩ (.string (d.str.1))).setCell ⟨gt, 1, none⟩ (.slice none 0 0))) p g bx rv d.str.2 := ((hc.far ht.out (by decide) (by decide) (by decide) (by decide) 0 _).far (hid_set ht 0 _).out (by decide) (by decide) (by decide) (by decide) 1 _)
  have hg1 : Hid ((((wt.setCell ⟨gt, 0, none⟩ (.string (d.str.1))).setCell ⟨gt, 1, none⟩ (.slice none 0 0))).heap[gb]? = some (.cells #[.string ⟨#[]⟩, .slice none 0 0] 222 (0, 0))) := (hid_far (hid_far hg hgt2) hgt2)
  have ht1 : Hid ((((wt.setCell ⟨gt, 0, none⟩ (.string (d.str.1))).setCell ⟨gt, 1, none⟩ (.slice none 0 0))).heap[gt]? = some (.cells #[.string (d.str.1), .slice none 0 0] 222 (0, 0))) := hid_cast (hid_set (hid_set ht 0 _) 1 _) rfl
  have hm1 : Mod (DecS p g) w (((wt.setCell ⟨gt, 0, none⟩ (.string (d.str.1))).setCell ⟨gt, 1, none⟩ (.slice none 0 0))) := (modFar (modFar hm hst 0 _) hst 1 _)
  generalize ((wt.setCell ⟨gt, 0, none⟩ (.string (d.str.1))).setCell ⟨gt, 1, none⟩ (.slice none 0 0)) = wc at *
  replace hc := hc1
  replace hg := hg1
  replace ht := ht1
  replace hm := hm1
  clear hc1 hg1 ht1 hm1
  go_wp2_with fail
  have hbparts : Hid (w.heap.size ≤ wc.heap.size) := hm.size
  refine (cl_list_FetchDone wc p g bx rv d.str.2 hc).mono ?_
  rintro e wparts_0 ⟨Aparts, cparts, rfl, rparts, hc2, mn⟩
  replace hg := hid_mod hg mn hngb
  replace ht := hid_mod ht mn hnt
  replace hm := hm.trans mn
  replace hc := hc2
  have cx := hc.cell
  clear hc2 mn
  have ft := fun i => blk_frozen ht.out i
  have t1 : wparts_0.cell? ⟨gt, 1, none⟩ = _ := blk_cell ht.out 1
  simp at t1
  have cx1 : (wparts_0.setCell ⟨gt, 1, none⟩ (.slice Aparts (rdList rdFetchDone d.str.2).1.length cparts)).cell? ⟨bx, 0, none⟩ = some (.pointer (some ⟨p, 0, none⟩)) := (cell_far hbt).trans (hc.cell)
  have hc1 : Cl (wparts_0.setCell ⟨gt, 1, none⟩ (.slice Aparts (rdList rdFetchDone d.str.2).1.length cparts)) p g bx rv ((rdList rdFetchDone d.str.2).2) := (hc.far ht.out (by decide) (by decide) (by decide) (by decide) 1 _)
  have hg1 : Hid ((wparts_0.setCell ⟨gt, 1, none⟩ (.slice Aparts (rdList rdFetchDone d.str.2).1.length cparts)).heap[gb]? = some (.cells #[.string ⟨#[]⟩, .slice none 0 0] 222 (0, 0))) := (hid_far hg hgt2)
  have ht1 : Hid ((wparts_0.setCell ⟨gt, 1, none⟩ (.slice Aparts (rdList rdFetchDone d.str.2).1.length cparts)).heap[gt]? = some (.cells #[.string (d.str.1), .slice Aparts (rdList rdFetchDone d.str.2).1.length cparts] 222 (0, 0))) := hid_cast (hid_set ht 1 (.slice Aparts (rdList rdFetchDone d.str.2).1.length cparts)) rfl
  have hm1 : Mod (DecS p g) w (wparts_0.setCell ⟨gt, 1, none⟩ (.slice Aparts (rdList rdFetchDone d.str.2).1.length cparts)) := (modFar hm hst 1 _)
  have rparts1 := (Kd.R_set rparts ht.out (by decide) 1 (.slice Aparts (rdList rdFetchDone d.str.2).1.length cparts))
  replace hc := hc1
  replace hg := hg1
  replace ht := ht1
  replace hm := hm1
  replace rparts := rparts1
  clear hc1 hg1 ht1 hm1 rparts1
  have fg := fun i => blk_frozen hg.out i
  have t0 : (wparts_0.setCell ⟨gt, 1, none⟩ (.slice Aparts (rdList rdFetchDone d.str.2).1.length cparts)).cell? ⟨gt, 0, none⟩ = _ := blk_cell ht.out 0
  have z0 : (wparts_0.setCell ⟨gt, 1, none⟩ (.slice Aparts (rdList rdFetchDone d.str.2).1.length cparts)).cell? ⟨gb, 0, none⟩ = _ := blk_cell hg.out 0
  have t1 : (wparts_0.setCell ⟨gt, 1, none⟩ (.slice Aparts (rdList rdFetchDone d.str.2).1.length cparts)).cell? ⟨gt, 1, none⟩ = _ := blk_cell ht.out 1
  have z1 : (wparts_0.setCell ⟨gt, 1, none⟩ (.slice Aparts (rdList rdFetchDone d.str.2).1.length cparts)).cell? ⟨gb, 1, none⟩ = _ := blk_cell hg.out 1
  simp at t0 z0 t1 z1
  go_wp2
  have erd : rdFetchGone d = (⟨d.str.1, (rdList rdFetchDone d.str.2).1⟩, (rdList rdFetchDone d.str.2).2) := by simp only [rdFetchGone, Bool.false_eq_true, if_true, if_false]
  rw [erd]
  refine bodyPost_ret (v := .agg #[.string (d.str.1), .slice Aparts (rdList rdFetchDone d.str.2).1.length cparts]) (by simp [results, Tryz.results127, go_sem, z0, z1]) rfl ⟨[.string (d.str.1), .slice Aparts (rdList rdFetchDone d.str.2).1.length cparts], rfl, ?_, ?_, ?_⟩
  · exact kFetchGone_mkM _ _ _ (⟨d.str.1, (rdList rdFetchDone d.str.2).1⟩ : FetchGone) (Kd.R_lower (Kd.R_set (Kd.R_set rparts hg.out (by decide) 0 _) (hid_set hg 0 _).out (by decide) 1 _) hbparts.out)
  · exact ((hc.far hg.out (by decide) (by decide) (by decide) (by decide) 0 _).far (hid_set hg 0 _).out (by decide) (by decide) (by decide) (by decide) 1 _)
  · exact (modFar (modFar hm hsgb 0 _) hsgb 1 _)

end Go.Proofs.YteckmgmcfngddaaGreat
end

section
/- A list of parts: FetchGone. -/
set_option linter.unusedVariables false
set_option linter.unusedSimpArgs false
namespace Go.Proofs.YteckmgmcfngddaaGreat
open Go.RowKit Go.Proofs.YteckmgmcfngddaaGreatW.PrintWords

theorem info_FetchGone : (Tryz.prog.info? 222).map (fun i => (i.zero, i.size, i.bytes)) = some (some (.agg #[.string ⟨#[]⟩, .slice none 0 0]), 2, 40) := by kernel_rfl
set_option maxRecDepth 100000 in
set_option maxHeartbeats 6400000 in
theorem cl_list_FetchGone (w : World) (p g bx : Nat) (rv : Value) (d : DS) (h : Cl w p g bx rv d) :
    Calls Tryz.prog 126 #[.pointer (some ⟨p, 0, none⟩), .func (.func 127) #[] #[.pointer (some ⟨bx, 0, none⟩)]] w (ClPostR kFetchGone 222 p g bx rv (rdList rdFetchGone d).1 (rdList rdFetchGone d).2 w) := by
  obtain ⟨r0, r1⟩ := d.i32_range
  go_enter Tryz.func126, Tryz.ntmps126
  go_wp2_with fail
  refine (cl_i32 w p g bx rv d h).mono ?_
  rintro e w1 ⟨rfl, h1, m1⟩
  obtain ⟨q, hbk⟩ := h1.dec.blk
  have c2 : w1.cell? ⟨p, 2, none⟩ = _ := blk_cell hbk 2
  have f2 := blk_frozen hbk 2
  simp at c2
  clear hbk
  go_upto_block 0 with fail
  go_cut [10] (fun v10 wx => Cl wx p g bx rv (rdHead d) ∧ Mod (DecS p g) w wx)
  case first =>
    by_cases he : d.i32.2.e = 0
    · have he' : (d.i32.2.e != 0) = false := by simp [he]
      by_cases h0 : d.i32.1 < 0
      · have h0' : decide (d.i32.1 < 0) = true := by simpa using h0
        have hh := Lib.hid (rdHead_neg he h0)
        clear he
        go_wp2
        go_meet
        rw [hh.out]
        exact ⟨h1.failed 5 (by decide), m1.trans (mod_dec' p g 0 _)⟩
      · have h0' : decide (d.i32.1 < 0) = false := by simpa using h0
        by_cases h2 : d.i32.1 > 16
        · have h2' : decide (d.i32.1 > 16) = true := by simpa using h2
          have hh := Lib.hid (rdHead_big he h0 h2)
          clear he
          go_wp2
          go_meet
          rw [hh.out]
          exact ⟨h1.failed 9 (by decide), m1.trans (mod_dec' p g 0 _)⟩
        · have h2' : decide (d.i32.1 > 16) = false := by simpa using h2
          have hh := Lib.hid (rdHead_ok he h0 h2)
          clear he
          go_wp2
          go_meet
          rw [hh.out]
          exact ⟨h1, m1⟩
    · have he' : (d.i32.2.e != 0) = true := by simp [he]
      have hh := Lib.hid (rdHead_err he)
      clear he
      go_wp2
      go_meet
      rw [hh.out]
      exact ⟨h1, m1⟩
  case rest =>
    obtain ⟨hc, hm⟩ := hcut
    clear c2 f2 h1 m1
    go_wp2_with fail
    go_loopg [6, 7] (d.i32.1.toNat) (fun gk v6 v7 wr => ∃ (k : Nat) (out : List FetchGone) (dk : DS) (A : Option Addr) (c : Nat), v7 = .int .i32 k ∧ v6 = .slice A out.length c ∧ Hid (out.length = k) ∧ k + gk ≤ 2147483647 ∧ Hid (gk + k = d.i32.1.toNat) ∧ kFetchGone.R 222 wr w.heap.size (fun _ => True) (.slice A out.length c) out ∧ Cl wr p g bx rv dk ∧ Mod (DecS p g) w wr ∧ Hid (rdGo rdFetchGone gk out dk = rdList rdFetchGone d) ∧ Hid (dk.e = 0 → d.i32.1 ≤ 16))
    case atStart => exact ⟨0, [], rdHead d, none, 0, rfl, rfl, rfl, by omega, by simp [Hid], Kd.R_nil _ _ _ _ _, hc, hm, rfl, rdHead_le d⟩
    case round =>
      obtain ⟨k, out, dk, A, c, rfl, rfl, hok, hk2, hgk, ho, hcr, hmr, heq, hle⟩ := hrel
      clear hc hm
      obtain ⟨q, hbk⟩ := hcr.dec.blk
      have c2 : wr.cell? ⟨p, 2, none⟩ = _ := blk_cell hbk 2
      simp at c2
      clear hbk
      by_cases hlt : (k : Int) < d.i32.1
      · have hlt' : decide ((k : Int) < d.i32.1) = true := by simpa using hlt
        by_cases he : dk.e = 0
        · have he' : (dk.e == 0) = true := by simp [he]
          have hn16 := hle.out he
          obtain ⟨j, rfl⟩ : ∃ j, gk = j + 1 := ⟨gk - 1, by have := hgk.out; omega⟩
          have hstep : Hid (rdGo rdFetchGone j (out ++ [(rdFetchGone dk).1]) (rdFetchGone dk).2 = rdList rdFetchGone d) := Lib.hid (by rw [← heq.out]; exact (rdGo_step rdFetchGone j out dk he).symm)
          clear he heq
          go_wp2_with fail
          refine (cl_FetchGone wr p g bx rv dk hcr).mono ?_
          rintro e w2 ⟨cs, rfl, kv, hc2, mn⟩
          obtain ⟨A0, c0, rfl, g0⟩ := kFetchGone_openM kv
          have ho2 := R_mod ho mn (fun q hq => h.new hq)
          have hlen : (out.length + 1) * 40 ≤ 140737488355328 := by have := hok.out; omega
          have HLEN := Lib.hid hlen
          clear hlen
          go_wp2_with (at_builtin; refine Kd.R_append kFetchGone (w0 := w2) w.heap.size rfl (.tmp 40) (.tmp 43) 72 222 (.agg #[.string ⟨#[]⟩, .slice none 0 0]) 40 rfl Tryz.underlying72 info_FetchGone rfl (by decide) (by decide) _ out (rdFetchGone dk).1 [.string (rdFetchGone dk).1.name, .slice A0 (rdFetchGone dk).1.parts.length c0] (fun _ => True) (fun q => some q ≠ (Value.slice A out.length c).ownBlock) rfl rfl (M_fresh kv ho (Nat.le_refl _) hmr.size) (fun q hq => ⟨trivial, hq⟩) (fun _ _ => trivial) ho2 (Below.refl _ _) (Nat.le_trans hmr.size mn.size) HLEN.out ?_; intro v1 w3 ho3 hb3 hg3 hat3)
          obtain ⟨A', c', rfl⟩ := Kd.R_slice ho3
          have hc3 : Cl w3 p g bx rv (rdFetchGone dk).2 := hc2.grown hg3 (fun q hq => by obtain ⟨cs, hcs⟩ := R_owntyped ho2 q hq; exact ⟨cs, _, hcs, by decide, by decide, by decide, by decide⟩)
          have hm3 : Mod (DecS p g) w w3 := (hmr.trans mn).grown hg3 (fun q hq => R_ownge ho2 q hq)
          clear hat3 hb3 hg3
          go_wp2
          go_roundg j
          case measure => omega
          case rel => exact ⟨k + 1, out ++ [(rdFetchGone dk).1], (rdFetchGone dk).2, A', c', by go_num, by simp, Lib.hid (by have := hok.out; simp [this]), by omega, Lib.hid (by have := hgk.out; omega), ho3, hc3, hm3, hstep, fun _ => hn16⟩
        · have he' : (dk.e == 0) = false := by simp [he]
          have hend : Hid (rdList rdFetchGone d = (out, dk)) := Lib.hid (by rw [← heq.out]; exact rdGo_stop rdFetchGone gk out dk he)
          clear he heq
          go_wp2
          go_ret
          rw [hend.out]
          exact ⟨A, c, rfl, ho, hcr, hmr⟩
      · have hlt' : decide ((k : Int) < d.i32.1) = false := by simpa using hlt
        have hend : Hid (rdList rdFetchGone d = (out, dk)) := Lib.hid (by
          rw [← heq.out]
          have := hgk.out
          rw [show gk = 0 from by omega]
          rfl)
        clear heq
        go_wp2
        go_ret
        rw [hend.out]
        exact ⟨A, c, rfl, ho, hcr, hmr⟩

end Go.Proofs.YteckmgmcfngddaaGreat
end

section
/- The message FetchRep read. -/
set_option linter.unusedVariables false
set_option linter.unusedSimpArgs false
namespace Go.Proofs.YteckmgmcfngddaaGreat
open Go.RowKit Go.Proofs.YteckmgmcfngddaaGreatW.PrintWords

def rdFetchRep (d : DS) : FetchRep × DS :=
  let r0 := if d.has 1 3 = true then d.i32 else (0, d)
  let r1 := (rdList rdFetchGone r0.2)
  (⟨r0.1, r1.1⟩, r1.2)

set_option maxRecDepth 100000 in
set_option maxHeartbeats 6400000 in
theorem dec_FetchRep (w : World) (v : Int) (A : Option Addr) (c : Nat) (xs : List Int) (hr : ReadsInt w .u8 A xs.length xs) (hl : xs.length ≤ 140737488355328) :
    Calls Tryz.prog 29 #[.int .i64 v, .slice A xs.length c] w (DecPost kFetchRep (decFin (⟨0, []⟩ : FetchRep) (rdFetchRep (DS.new v xs))) w) := by
  have hmf : ∀ (fn : Fn) (first cap : Array Value) (w : World), (Instr.makeFunc fn first cap).run Tryz.prog w = .ok (.func fn first cap) w := fun _ _ _ _ => rfl
  have HR := Lib.hid hr
  clear hr
  go_enter Tryz.func29, Tryz.ntmps29
  go_wp2_with (first | ((with_reducible refine gate_dst (N := 4) rfl ?_); refine box_event ?hg (N := 4) ?hd (cs := #[.int .i32 0, .slice none 0 0]) (t := 74) ?hr ?_; (case hd => rfl); (case hg => rfl); (case hr => first | (go_simp; done) | (go_simp; rfl)); intro gb hgb wg kgb bgb; have hgg : Hid (wg.heap[gb]? = some (.cells #[.int .i32 0, .slice none 0 0] 74 (0, 0))) := kgb; have hsgb : Hid (w.heap.size ≤ gb) := Nat.le_of_eq hgb.symm; clear kgb hgb))
  refine (newDec wg v A c xs (HR.out.below bgb) hl).mono ?_
  rintro e wn ⟨p, g, rv, rfl, hd0, hpw, hgw, bn⟩
  have hlb : (DS.new v xs).b.length ≤ 140737488355328 := hl
  generalize DS.new v xs = d at *
  have hgn := hid_mod hgg (Mod.of_below (S := fun _ => False) bn) (Lib.hid id)
  have hgbw := blk_lt hgg.out
  have hngb : Hid (¬ DecS p g gb) := fun hs => by rcases hs with rfl | rfl <;> omega
  have hbn : Below w.heap.size w wn := bgb.trans (bn.mono bgb.size)
  go_wp2_with (first
    | ((with_reducible refine gate_dst (N := 6) rfl ?_); refine box_event ?hg (N := 6) ?hd (cs := #[.pointer none]) (t := 113) ?hr ?_; (case hd => rfl); (case hg => rfl); (case hr => first | (go_simp; done) | (go_simp; rfl)); intro bx hbx wx kbx bbx; have hd1 := hd0.below bbx; have hnx : ¬ DecS p g bx := hd0.new (Nat.le_of_eq hbx.symm); have hgx := hid_mod hgn (Mod.of_below (S := fun _ => False) bbx) (Lib.hid id); have hgbx : Hid (gb ≠ bx) := Nat.ne_of_lt (Nat.lt_of_lt_of_le (blk_lt hgn.out) (Nat.le_of_eq hbx.symm)); have hcb : Cl (wx.setCell ⟨bx, 0, none⟩ (.pointer (some ⟨p, 0, none⟩))) p g bx rv d := ⟨hd1.far kbx (by decide) (by decide) (by decide) 0 _, by simpa using blk_set kbx 0 (.pointer (some ⟨p, 0, none⟩)), fun e => hnx (.inl e), fun e => hnx (.inr e), hlb⟩; have hgB : Hid ((wx.setCell ⟨bx, 0, none⟩ (.pointer (some ⟨p, 0, none⟩))).heap[gb]? = some (.cells #[.int .i32 0, .slice none 0 0] 74 (0, 0))) := hid_far hgx hgbx; have hbw : Below w.heap.size w (wx.setCell ⟨bx, 0, none⟩ (.pointer (some ⟨p, 0, none⟩))) := (hbn.trans (bbx.mono hbn.size)).setCell (p := ⟨bx, 0, none⟩) (Nat.le_trans hbn.size (Nat.le_of_eq hbx.symm)) _; have hbxgb : bx ≠ gb := fun e => hgbx.out e.symm; have fx := fun i => blk_frozen kbx i; have x0 : wx.cell? ⟨bx, 0, none⟩ = _ := blk_cell kbx 0; simp at x0; have cx : (wx.setCell ⟨bx, 0, none⟩ (.pointer (some ⟨p, 0, none⟩))).cell? ⟨bx, 0, none⟩ = some (.pointer (some ⟨p, 0, none⟩)) := hcb.cell; clear kbx hbx)
    | ((with_reducible refine gate_dst (N := 7) rfl ?_); refine box_event ?hg (N := 7) ?hd (cs := #[.int .i32 0, .slice none 0 0]) (t := 74) ?hr ?_; (case hd => rfl); (case hg => rfl); (case hr => first | (go_simp; done) | (go_simp; rfl)); intro gt hgt wt kgt bgt; have hc := hcb.below bgt; have hbt := blk_ne hc.box kgt (by decide); have hst : Hid ((wx.setCell ⟨bx, 0, none⟩ (.pointer (some ⟨p, 0, none⟩))).heap.size ≤ gt) := Nat.le_of_eq hgt.symm; have hgt2 : Hid (gb ≠ gt) := Nat.ne_of_lt (Nat.lt_of_lt_of_le (blk_lt hgB.out) (Nat.le_of_eq hgt.symm)); have hnt : Hid (¬ DecS p g gt) := hcb.new hst.out; have hg := hid_mod hgB (Mod.of_below (S := fun _ => False) bgt) (Lib.hid id); have hm : Mod (DecS p g) (wx.setCell ⟨bx, 0, none⟩ (.pointer (some ⟨p, 0, none⟩))) wt := Mod.of_below bgt; have ht : Hid (wt.heap[gt]? = some (.cells #[.int .i32 0, .slice none 0 0] 74 (0, 0))) := kgt; have cx := hc.cell; clear kgt hgt bgt))
  generalize (wx.setCell ⟨bx, 0, none⟩ (.pointer (some ⟨p, 0, none⟩))) = wb at *
  have h := hcb
  go_wp2_with fail
  refine (cl_has wt p g bx rv d 1 3 hc).mono ?_
  rintro e wh0 ⟨rfl, hc2, mn⟩
  replace hg := hid_mod hg mn hngb
  replace ht := hid_mod ht mn hnt
  replace hm := hm.trans mn
  replace hc := hc2
  have cx := hc.cell
  clear hc2 mn
  cases hh0 : d.has 1 3
  · -- no
    go_wp2_with fail
    have hbtopics : Hid (wb.heap.size ≤ wh0.heap.size) := hm.size
    refine (cl_list_FetchGone wh0 p g bx rv d hc).mono ?_
    rintro e wtopics_1 ⟨Atopics, ctopics, rfl, rtopics, hc2, mn⟩
    replace hg := hid_mod hg mn hngb
    replace ht := hid_mod ht mn hnt
    replace hm := hm.trans mn
    replace hc := hc2
    have cx := hc.cell
    clear hc2 mn
    have ft := fun i => blk_frozen ht.out i
    have t1 : wtopics_1.cell? ⟨gt, 1, none⟩ = _ := blk_cell ht.out 1
    simp at t1
    have cx1 : (wtopics_1.setCell ⟨gt, 1, none⟩ (.slice Atopics (rdList rdFetchGone d).1.length ctopics)).cell? ⟨bx, 0, none⟩ = some (.pointer (some ⟨p, 0, none⟩)) := (cell_far hbt).trans (hc.cell)
    have hc1 : Cl (wtopics_1.setCell ⟨gt, 1, none⟩ (.slice Atopics (rdList rdFetchGone d).1.length ctopics)) p g bx rv ((rdList rdFetchGone d).2) := (hc.far ht.out (by decide) (by decide) (by decide) (by decide) 1 _)
    have hg1 : Hid ((wtopics_1.setCell ⟨gt, 1, none⟩ (.slice Atopics (rdList rdFetchGone d).1.length ctopics)).heap[gb]? = some (.cells #[.int .i32 0, .slice none 0 0] 74 (0, 0))) := (hid_far hg hgt2)
    have ht1 : Hid ((wtopics_1.setCell ⟨gt, 1, none⟩ (.slice Atopics (rdList rdFetchGone d).1.length ctopics)).heap[gt]? = some (.cells #[.int .i32 0, .slice Atopics (rdList rdFetchGone d).1.length ctopics] 74 (0, 0))) := hid_cast (hid_set ht 1 (.slice Atopics (rdList rdFetchGone d).1.length ctopics)) rfl
    have hm1 : Mod (DecS p g) wb (wtopics_1.setCell ⟨gt, 1, none⟩ (.slice Atopics (rdList rdFetchGone d).1.length ctopics)) := (modFar hm hst 1 _)
    have rtopics1 := (Kd.R_set rtopics ht.out (by decide) 1 (.slice Atopics (rdList rdFetchGone d).1.length ctopics))
    replace hc := hc1
    replace hg := hg1
    replace ht := ht1
    replace hm := hm1
    replace rtopics := rtopics1
    clear hc1 hg1 ht1 hm1 rtopics1
    go_wp2_with fail
    refine (cl_end (wtopics_1.setCell ⟨gt, 1, none⟩ (.slice Atopics (rdList rdFetchGone d).1.length ctopics)) p g bx rv ((rdList rdFetchGone d).2) hc).mono ?_
    rintro e we ⟨rfl, mn⟩
    replace hg := hid_mod hg mn hngb
    replace ht := hid_mod ht mn hnt
    replace hm := hm.trans mn
    replace rtopics := R_mod rtopics mn (fun k hk => h.new (Nat.le_trans hbtopics.out hk))
    have fg := fun i => blk_frozen hg.out i
    have t0 : we.cell? ⟨gt, 0, none⟩ = _ := blk_cell ht.out 0
    have z0 : we.cell? ⟨gb, 0, none⟩ = _ := blk_cell hg.out 0
    have t1 : we.cell? ⟨gt, 1, none⟩ = _ := blk_cell ht.out 1
    have z1 : we.cell? ⟨gb, 1, none⟩ = _ := blk_cell hg.out 1
    simp at t0 z0 t1 z1
    have erd : rdFetchRep d = (⟨0, (rdList rdFetchGone d).1⟩, (rdList rdFetchGone d).2) := by simp only [rdFetchRep, hh0, Bool.false_eq_true, if_true, if_false]
    have hbe : Below w.heap.size w we := Below.mod hbw hbw.size hm (fun i hi hs => by have := bgb.size; rcases hs with rfl | rfl <;> omega)
    by_cases hfin : ((rdList rdFetchGone d).2).fin = 0
    · have hf1 : (((rdList rdFetchGone d).2).fin != 0) = false := by simp [hfin]
      have edc : Hid (decFin (⟨0, []⟩ : FetchRep) (rdFetchRep d) = (⟨0, (rdList rdFetchGone d).1⟩, 0)) := Lib.hid (by rw [erd]; exact decFin_ok hfin)
      clear hfin erd
      go_wp2
      refine bodyPost_ret (v := .tuple #[.agg #[.int .i32 0, .slice Atopics (rdList rdFetchGone d).1.length ctopics], .int .i64 (0)]) (by simp [results, Tryz.results29, go_sem, z0, z1]) rfl ?_
      rw [edc.out]
      exact ⟨[.int .i32 0, .slice Atopics (rdList rdFetchGone d).1.length ctopics], rfl, kFetchRep_mkM _ _ _ (⟨0, (rdList rdFetchGone d).1⟩ : FetchRep) (Kd.R_lower (Kd.R_set (Kd.R_set rtopics hg.out (by decide) 0 _) (hid_set hg 0 _).out (by decide) 1 _) (Nat.le_trans hbw.size hbtopics.out)), (Below.setCell (Below.setCell hbe (p := ⟨gb, 0, none⟩) hsgb.out _) (p := ⟨gb, 1, none⟩) hsgb.out _)⟩
    · have hf1 : (((rdList rdFetchGone d).2).fin != 0) = true := by simp [hfin]
      have edc : Hid (decFin (⟨0, []⟩ : FetchRep) (rdFetchRep d) = (⟨0, []⟩, ((rdList rdFetchGone d).2).fin)) := Lib.hid (by rw [erd]; exact decFin_bad hfin)
      clear hfin erd
      go_wp2
      refine bodyPost_ret (v := .tuple #[.agg #[.int .i32 0, .slice none 0 0], .int .i64 (((rdList rdFetchGone d).2).fin)]) (by simp [results, Tryz.results29, go_sem, z0, z1]) rfl ?_
      rw [edc.out]
      exact ⟨[.int .i32 0, .slice none 0 0], rfl, kFetchRep_mkM _ _ _ (⟨0, []⟩ : FetchRep) (Kd.R_nil _ _ _ _ _), (Below.setCell (Below.setCell hbe (p := ⟨gb, 0, none⟩) hsgb.out _) (p := ⟨gb, 1, none⟩) hsgb.out _)⟩
  · -- yes
    go_wp2_with fail
    refine (cl_i32 wh0 p g bx rv d hc).mono ?_
    rintro e wthrottle_0 ⟨rfl, hc2, mn⟩
    replace hg := hid_mod hg mn hngb
    replace ht := hid_mod ht mn hnt
    replace hm := hm.trans mn
    replace hc := hc2
    have cx := hc.cell
    clear hc2 mn
    have ft := fun i => blk_frozen ht.out i
    have t0 : wthrottle_0.cell? ⟨gt, 0, none⟩ = _ := blk_cell ht.out 0
    simp at t0
    have cx1 : (wthrottle_0.setCell ⟨gt, 0, none⟩ (.int .i32 (d.i32.1))).cell? ⟨bx, 0, none⟩ = some (.pointer (some ⟨p, 0, none⟩)) := (cell_far hbt).trans (hc.cell)
    have hc1 : Cl (wthrottle_0.setCell ⟨gt, 0, none⟩ (.int .i32 (d.i32.1))) p g bx rv d.i32.2 := (hc.far ht.out (by decide) (by decide) (by decide) (by decide) 0 _)
    have hg1 : Hid ((wthrottle_0.setCell ⟨gt, 0, none⟩ (.int .i32 (d.i32.1))).heap[gb]? = some (.cells #[.int .i32 0, .slice none 0 0] 74 (0, 0))) := (hid_far hg hgt2)
    have ht1 : Hid ((wthrottle_0.setCell ⟨gt, 0, none⟩ (.int .i32 (d.i32.1))).heap[gt]? = some (.cells #[.int .i32 (d.i32.1), .slice none 0 0] 74 (0, 0))) := hid_cast (hid_set ht 0 (.int .i32 (d.i32.1))) rfl
    have hm1 : Mod (DecS p g) wb (wthrottle_0.setCell ⟨gt, 0, none⟩ (.int .i32 (d.i32.1))) := (modFar hm hst 0 _)
    replace hc := hc1
    replace hg := hg1
    replace ht := ht1
    replace hm := hm1
    clear hc1 hg1 ht1 hm1
    go_wp2_with fail
    have hbtopics : Hid (wb.heap.size ≤ (wthrottle_0.setCell ⟨gt, 0, none⟩ (.int .i32 (d.i32.1))).heap.size) := hm.size
    refine (cl_list_FetchGone (wthrottle_0.setCell ⟨gt, 0, none⟩ (.int .i32 (d.i32.1))) p g bx rv d.i32.2 hc).mono ?_
    rintro e wtopics_1 ⟨Atopics, ctopics, rfl, rtopics, hc2, mn⟩
    replace hg := hid_mod hg mn hngb
    replace ht := hid_mod ht mn hnt
    replace hm := hm.trans mn
    replace hc := hc2
    have cx := hc.cell
    clear hc2 mn
    have ft := fun i => blk_frozen ht.out i
    have t1 : wtopics_1.cell? ⟨gt, 1, none⟩ = _ := blk_cell ht.out 1
    simp at t1
    have cx1 : (wtopics_1.setCell ⟨gt, 1, none⟩ (.slice Atopics (rdList rdFetchGone d.i32.2).1.length ctopics)).cell? ⟨bx, 0, none⟩ = some (.pointer (some ⟨p, 0, none⟩)) := (cell_far hbt).trans (hc.cell)
    have hc1 : Cl (wtopics_1.setCell ⟨gt, 1, none⟩ (.slice Atopics (rdList rdFetchGone d.i32.2).1.length ctopics)) p g bx rv ((rdList rdFetchGone d.i32.2).2) := (hc.far ht.out (by decide) (by decide) (by decide) (by decide) 1 _)
    have hg1 : Hid ((wtopics_1.setCell ⟨gt, 1, none⟩ (.slice Atopics (rdList rdFetchGone d.i32.2).1.length ctopics)).heap[gb]? = some (.cells #[.int .i32 0, .slice none 0 0] 74 (0, 0))) := (hid_far hg hgt2)
    have ht1 : Hid ((wtopics_1.setCell ⟨gt, 1, none⟩ (.slice Atopics (rdList rdFetchGone d.i32.2).1.length ctopics)).heap[gt]? = some (.cells #[.int .i32 (d.i32.1), .slice Atopics (rdList rdFetchGone d.i32.2).1.length ctopics] 74 (0, 0))) := hid_cast (hid_set ht 1 (.slice Atopics (rdList rdFetchGone d.i32.2).1.length ctopics)) rfl
    have hm1 : Mod (DecS p g) wb (wtopics_1.setCell ⟨gt, 1, none⟩ (.slice Atopics (rdList rdFetchGone d.i32.2).1.length ctopics)) := (modFar hm hst 1 _)
    have rtopics1 := (Kd.R_set rtopics ht.out (by decide) 1 (.slice Atopics (rdList rdFetchGone d.i32.2).1.length ctopics))
    replace hc := hc1
    replace hg := hg1
    replace ht := ht1
    replace hm := hm1
    replace rtopics := rtopics1
    clear hc1 hg1 ht1 hm1 rtopics1
    go_wp2_with fail
    refine (cl_end (wtopics_1.setCell ⟨gt, 1, none⟩ (.slice Atopics (rdList rdFetchGone d.i32.2).1.length ctopics)) p g bx rv ((rdList rdFetchGone d.i32.2).2) hc).mono ?_
    rintro e we ⟨rfl, mn⟩
    replace hg := hid_mod hg mn hngb
    replace ht := hid_mod ht mn hnt
    replace hm := hm.trans mn
    replace rtopics := R_mod rtopics mn (fun k hk => h.new (Nat.le_trans hbtopics.out hk))
    have fg := fun i => blk_frozen hg.out i
    have t0 : we.cell? ⟨gt, 0, none⟩ = _ := blk_cell ht.out 0
    have z0 : we.cell? ⟨gb, 0, none⟩ = _ := blk_cell hg.out 0
    have t1 : we.cell? ⟨gt, 1, none⟩ = _ := blk_cell ht.out 1
    have z1 : we.cell? ⟨gb, 1, none⟩ = _ := blk_cell hg.out 1
    simp at t0 z0 t1 z1
    have erd : rdFetchRep d = (⟨d.i32.1, (rdList rdFetchGone d.i32.2).1⟩, (rdList rdFetchGone d.i32.2).2) := by simp only [rdFetchRep, hh0, Bool.false_eq_true, if_true, if_false]
    have hbe : Below w.heap.size w we := Below.mod hbw hbw.size hm (fun i hi hs => by have := bgb.size; rcases hs with rfl | rfl <;> omega)
    by_cases hfin : ((rdList rdFetchGone d.i32.2).2).fin = 0
    · have hf1 : (((rdList rdFetchGone d.i32.2).2).fin != 0) = false := by simp [hfin]
      have edc : Hid (decFin (⟨0, []⟩ : FetchRep) (rdFetchRep d) = (⟨d.i32.1, (rdList rdFetchGone d.i32.2).1⟩, 0)) := Lib.hid (by rw [erd]; exact decFin_ok hfin)
      clear hfin erd
      go_wp2
      refine bodyPost_ret (v := .tuple #[.agg #[.int .i32 (d.i32.1), .slice Atopics (rdList rdFetchGone d.i32.2).1.length ctopics], .int .i64 (0)]) (by simp [results, Tryz.results29, go_sem, z0, z1]) rfl ?_
      rw [edc.out]
      exact ⟨[.int .i32 (d.i32.1), .slice Atopics (rdList rdFetchGone d.i32.2).1.length ctopics], rfl, kFetchRep_mkM _ _ _ (⟨d.i32.1, (rdList rdFetchGone d.i32.2).1⟩ : FetchRep) (Kd.R_lower (Kd.R_set (Kd.R_set rtopics hg.out (by decide) 0 _) (hid_set hg 0 _).out (by decide) 1 _) (Nat.le_trans hbw.size hbtopics.out)), (Below.setCell (Below.setCell hbe (p := ⟨gb, 0, none⟩) hsgb.out _) (p := ⟨gb, 1, none⟩) hsgb.out _)⟩
    · have hf1 : (((rdList rdFetchGone d.i32.2).2).fin != 0) = true := by simp [hfin]
      have edc : Hid (decFin (⟨0, []⟩ : FetchRep) (rdFetchRep d) = (⟨0, []⟩, ((rdList rdFetchGone d.i32.2).2).fin)) := Lib.hid (by rw [erd]; exact decFin_bad hfin)
      clear hfin erd
      go_wp2
      refine bodyPost_ret (v := .tuple #[.agg #[.int .i32 0, .slice none 0 0], .int .i64 (((rdList rdFetchGone d.i32.2).2).fin)]) (by simp [results, Tryz.results29, go_sem, z0, z1]) rfl ?_
      rw [edc.out]
      exact ⟨[.int .i32 0, .slice none 0 0], rfl, kFetchRep_mkM _ _ _ (⟨0, []⟩ : FetchRep) (Kd.R_nil _ _ _ _ _), (Below.setCell (Below.setCell hbe (p := ⟨gb, 0, none⟩) hsgb.out _) (p := ⟨gb, 1, none⟩) hsgb.out _)⟩

end Go.Proofs.YteckmgmcfngddaaGreat
end

section
/- A list of numbers. -/
set_option linter.unusedVariables false
set_option linter.unusedSimpArgs false
namespace Go.Proofs.YteckmgmcfngddaaGreat
open Go.RowKit Go.Proofs.YteckmgmcfngddaaGreatW.PrintWords

theorem info_i64 : (Tryz.prog.info? 2).map (fun i => (i.zero, i.size, i.bytes)) = some (some (.int .i64 0), 1, 8) := by kernel_rfl
set_option maxRecDepth 100000 in
set_option maxHeartbeats 6400000 in
theorem cl_list_i64 (w : World) (p g bx : Nat) (rv : Value) (d : DS) (h : Cl w p g bx rv d) :
    Calls Tryz.prog 111 #[.pointer (some ⟨p, 0, none⟩), .func (.func 91) #[.pointer (some ⟨p, 0, none⟩)] #[]] w (ClPostR (Kd.int .i64) 2 p g bx rv (rdList DS.i64 d).1 (rdList DS.i64 d).2 w) := by
  obtain ⟨r0, r1⟩ := d.i32_range
  go_enter Tryz.func111, Tryz.ntmps111
  go_wp2_with fail
  refine (cl_i32 w p g bx rv d h).mono ?_
  rintro e w1 ⟨rfl, h1, m1⟩
  obtain ⟨q, hbk⟩ := h1.dec.blk
  have c2 : w1.cell? ⟨p, 2, none⟩ = _ := blk_cell hbk 2
  have f2 := blk_frozen hbk 2
  simp at c2
  clear hbk
  go_upto_block 0 with fail
  go_cut [10] (fun v10 wx => Cl wx p g bx rv (rdHead d) ∧ Mod (DecS p g) w wx)
  case first =>
    by_cases he : d.i32.2.e = 0
    · have he' : (d.i32.2.e != 0) = false := by simp [he]
      by_cases h0 : d.i32.1 < 0
      · have h0' : decide (d.i32.1 < 0) = true := by simpa using h0
        have hh := Lib.hid (rdHead_neg he h0)
        clear he
        go_wp2
        go_meet
        rw [hh.out]
        exact ⟨h1.failed 5 (by decide), m1.trans (mod_dec' p g 0 _)⟩
      · have h0' : decide (d.i32.1 < 0) = false := by simpa using h0
        by_cases h2 : d.i32.1 > 16
        · have h2' : decide (d.i32.1 > 16) = true := by simpa using h2
          have hh := Lib.hid (rdHead_big he h0 h2)
          clear he
          go_wp2
          go_meet
          rw [hh.out]
          exact ⟨h1.failed 9 (by decide), m1.trans (mod_dec' p g 0 _)⟩
        · have h2' : decide (d.i32.1 > 16) = false := by simpa using h2
          have hh := Lib.hid (rdHead_ok he h0 h2)
          clear he
          go_wp2
          go_meet
          rw [hh.out]
          exact ⟨h1, m1⟩
    · have he' : (d.i32.2.e != 0) = true := by simp [he]
      have hh := Lib.hid (rdHead_err he)
      clear he
      go_wp2
      go_meet
      rw [hh.out]
      exact ⟨h1, m1⟩
  case rest =>
    obtain ⟨hc, hm⟩ := hcut
    clear c2 f2 h1 m1
    go_wp2_with fail
    go_loopg [6, 7] (d.i32.1.toNat) (fun gk v6 v7 wr => ∃ (k : Nat) (out : List Int) (dk : DS) (A : Option Addr) (c : Nat), v7 = .int .i32 k ∧ v6 = .slice A out.length c ∧ Hid (out.length = k) ∧ k + gk ≤ 2147483647 ∧ Hid (gk + k = d.i32.1.toNat) ∧ (Kd.int .i64).R 2 wr w.heap.size (fun _ => True) (.slice A out.length c) out ∧ Cl wr p g bx rv dk ∧ Mod (DecS p g) w wr ∧ Hid (rdGo DS.i64 gk out dk = rdList DS.i64 d) ∧ Hid (dk.e = 0 → d.i32.1 ≤ 16))
    case atStart => exact ⟨0, [], rdHead d, none, 0, rfl, rfl, rfl, by omega, by simp [Hid], Kd.R_nil _ _ _ _ _, hc, hm, rfl, rdHead_le d⟩
    case round =>
      obtain ⟨k, out, dk, A, c, rfl, rfl, hok, hk2, hgk, ho, hcr, hmr, heq, hle⟩ := hrel
      clear hc hm
      obtain ⟨q, hbk⟩ := hcr.dec.blk
      have c2 : wr.cell? ⟨p, 2, none⟩ = _ := blk_cell hbk 2
      simp at c2
      clear hbk
      by_cases hlt : (k : Int) < d.i32.1
      · have hlt' : decide ((k : Int) < d.i32.1) = true := by simpa using hlt
        by_cases he : dk.e = 0
        · have he' : (dk.e == 0) = true := by simp [he]
          have hn16 := hle.out he
          obtain ⟨j, rfl⟩ : ∃ j, gk = j + 1 := ⟨gk - 1, by have := hgk.out; omega⟩
          have hstep : Hid (rdGo DS.i64 j (out ++ [dk.i64.1]) (DS.i64 dk).2 = rdList DS.i64 d) := Lib.hid (by rw [← heq.out]; exact (rdGo_step DS.i64 j out dk he).symm)
          clear he heq
          go_wp2_with fail
          refine (cl_i64 wr p g bx rv dk hcr).mono ?_
          rintro e w2 ⟨rfl, hc2, mn⟩
          have kv : (Kd.int .i64).M w2 wr.heap.size (fun _ => True) dk.i64.1 [.int .i64 dk.i64.1] := rfl
          have ho2 := R_mod ho mn (fun q hq => h.new hq)
          have hlen : (out.length + 1) * 8 ≤ 140737488355328 := by have := hok.out; omega
          have HLEN := Lib.hid hlen
          clear hlen
          go_wp2_with (at_builtin; refine Kd.R_append (Kd.int .i64) (w0 := w2) w.heap.size rfl (.tmp 40) (.tmp 43) 194 2 (.int .i64 0) 8 rfl Tryz.underlying194 info_i64 rfl (by decide) (by decide) _ out dk.i64.1 [.int .i64 dk.i64.1] (fun _ => True) (fun q => some q ≠ (Value.slice A out.length c).ownBlock) rfl rfl (M_fresh kv ho (Nat.le_refl _) hmr.size) (fun q hq => ⟨trivial, hq⟩) (fun _ _ => trivial) ho2 (Below.refl _ _) (Nat.le_trans hmr.size mn.size) HLEN.out ?_; intro v1 w3 ho3 hb3 hg3 hat3)
          obtain ⟨A', c', rfl⟩ := Kd.R_slice ho3
          have hc3 : Cl w3 p g bx rv (DS.i64 dk).2 := hc2.grown hg3 (fun q hq => by obtain ⟨cs, hcs⟩ := R_owntyped ho2 q hq; exact ⟨cs, _, hcs, by decide, by decide, by decide, by decide⟩)
          have hm3 : Mod (DecS p g) w w3 := (hmr.trans mn).grown hg3 (fun q hq => R_ownge ho2 q hq)
          clear hat3 hb3 hg3
          go_wp2
          go_roundg j
          case measure => omega
          case rel => exact ⟨k + 1, out ++ [dk.i64.1], (DS.i64 dk).2, A', c', by go_num, by simp, Lib.hid (by have := hok.out; simp [this]), by omega, Lib.hid (by have := hgk.out; omega), ho3, hc3, hm3, hstep, fun _ => hn16⟩
        · have he' : (dk.e == 0) = false := by simp [he]
          have hend : Hid (rdList DS.i64 d = (out, dk)) := Lib.hid (by rw [← heq.out]; exact rdGo_stop DS.i64 gk out dk he)
          clear he heq
          go_wp2
          go_ret
          rw [hend.out]
          exact ⟨A, c, rfl, ho, hcr, hmr⟩
      · have hlt' : decide ((k : Int) < d.i32.1) = false := by simpa using hlt
        have hend : Hid (rdList DS.i64 d = (out, dk)) := Lib.hid (by
          rw [← heq.out]
          have := hgk.out
          rw [show gk = 0 from by omega]
          rfl)
        clear heq
        go_wp2
        go_ret
        rw [hend.out]
        exact ⟨A, c, rfl, ho, hcr, hmr⟩

end Go.Proofs.YteckmgmcfngddaaGreat
end
