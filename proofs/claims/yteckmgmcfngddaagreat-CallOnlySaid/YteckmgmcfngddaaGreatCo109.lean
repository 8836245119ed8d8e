/- A part of a proof. Proved: Rows.CallOnlySaid: for every byte slice the law leatlaw16.CallOnly returns true, and the slice reads afterwards as it read before. No condition but the row's own reach. -/
import Derived.Test.YteckmgmcfngddaaGreatCo102
import Derived.Test.YteckmgmcfngddaaGreatCo108
import Derived.Test.YteckmgmcfngddaaGreatCo105
import Derived.Test.YteckmgmcfngddaaGreatCo107
section
/- The reader of a part: ListDone. -/
set_option linter.unusedVariables false
set_option linter.unusedSimpArgs false
namespace Go.Proofs.YteckmgmcfngddaaGreat
open Go.RowKit Go.Proofs.YteckmgmcfngddaaGreatW.PrintWords

def rdListDone (d : DS) : ListDone × DS :=
  let r0 := d.i32
  let r1 := r0.2.i16
  let r2 := if r1.2.has 0 0 = true then (rdList DS.i64 r1.2) else ([], r1.2)
  let r3 := if r2.2.has 1 3 = true then r2.2.i64 else (0, r2.2)
  let r4 := if r2.2.has 1 3 = true then r3.2.i64 else (0, r3.2)
  let r5 := if r4.2.has 3 3 = true then r4.2.i32 else (0, r4.2)
  (⟨r0.1, r1.1, r2.1, r3.1, r4.1, r5.1⟩, r5.2)

set_option maxRecDepth 100000 in
set_option maxHeartbeats 6400000 in
theorem cl_ListDone (w : World) (p g bx : Nat) (rv : Value) (d : DS) (h : Cl w p g bx rv d) :
    Calls Tryz.prog 110 #[.pointer (some ⟨bx, 0, none⟩)] w (ClPostM kListDone p g bx rv (rdListDone d).1 (rdListDone d).2 w) := by
  have hmf : ∀ (fn : Fn) (first cap : Array Value) (w : World), (Instr.makeFunc fn first cap).run Tryz.prog w = .ok (.func fn first cap) w := fun _ _ _ _ => rfl
  go_enter Tryz.func110, Tryz.ntmps110
  go_wp2_with (first | ((with_reducible refine gate_dst (N := 1) rfl ?_); refine box_event ?hg (N := 1) ?hd (cs := #[.int .i32 0, .int .i16 0, .slice none 0 0, .int .i64 0, .int .i64 0, .int .i32 0]) (t := 196) ?hr ?_; (case hd => rfl); (case hg => rfl); (case hr => first | (go_simp; done) | (go_simp; rfl)); intro gb hgb w0 kgb bgb; have hc0 := h.below bgb; have hm0 : Mod (DecS p g) w w0 := Mod.of_below bgb; have hg0 : Hid (w0.heap[gb]? = some (.cells #[.int .i32 0, .int .i16 0, .slice none 0 0, .int .i64 0, .int .i64 0, .int .i32 0] 196 (0, 0))) := kgb; have hc := h.below bgb; have hbx := blk_ne hc.box kgb (by decide); have hngb : Hid (¬ DecS p g gb) := h.new (Nat.le_of_eq hgb.symm); have hsgb : Hid (w.heap.size ≤ gb) := Nat.le_of_eq hgb.symm; have hg : Hid (w0.drew.heap[gb]? = some (.cells #[.int .i32 0, .int .i16 0, .slice none 0 0, .int .i64 0, .int .i64 0, .int .i32 0] 196 (0, 0))) := kgb; have hm : Mod (DecS p g) w w0.drew := (Mod.of_below bgb).drew; have hc := hc.drew; have cx := hc.cell; clear hgb kgb bgb))
  go_simp
  go_cut [2] (fun v2 wx => ∃ gt, v2 = .pointer (some ⟨gt, 0, none⟩) ∧ Cl wx p g bx rv d.i32.2.i16.2 ∧ Hid (wx.heap[gb]? = some (.cells #[.int .i32 0, .int .i16 0, .slice none 0 0, .int .i64 0, .int .i64 0, .int .i32 0] 196 (0, 0))) ∧ Hid (wx.heap[gt]? = some (.cells #[.int .i32 (d.i32.1), .int .i16 (d.i32.2.i16.1), .slice none 0 0, .int .i64 0, .int .i64 0, .int .i32 0] 196 (0, 0))) ∧ Mod (DecS p g) w wx ∧ Hid (w.heap.size ≤ gt) ∧ Hid (gb ≠ gt))
  case first =>
    go_region_held3 (fun w' => w'.cell? ⟨bx, 0, none⟩ = some (.pointer (some ⟨p, 0, none⟩))) (first | with_reducible exact cx | with_reducible exact (hc.alloc _).cell | with_reducible exact (hc0.alloc _).drew.cell | with_reducible exact (cell_far (by assumption)).trans ((cell_far (by assumption)).trans ((cell_far (by assumption)).trans ((cell_far (by assumption)).trans ((cell_far (by assumption)).trans ((cell_far (by assumption)).trans (hc.cell)))))) | with_reducible exact (cell_far (by assumption)).trans ((cell_far (by assumption)).trans ((cell_far (by assumption)).trans ((cell_far (by assumption)).trans ((cell_far (by assumption)).trans ((cell_far (by assumption)).trans ((hc.alloc _).cell)))))))
      (first
        | (go_at_call 58; (with_reducible refine (cl_i32 _ p g bx rv _ hc).mono ?_); rintro e wn ⟨rfl, hc2, mn⟩; (try (have ht := hid_mod ht mn hnt; have ft := fun i => blk_frozen ht.out i; have t0 := blk_cell ht.out 0; have t1 := blk_cell ht.out 1; have t2 := blk_cell ht.out 2; have t3 := blk_cell ht.out 3; have t4 := blk_cell ht.out 4; have t5 := blk_cell ht.out 5; simp at t0 t1 t2 t3 t4 t5)); have hg := hid_mod hg mn hngb; have hm := hm.trans mn; have hc := hc2; have cx := hc.cell; clear hc2 mn)
        | (go_at_call 58; (with_reducible refine (cl_i32 _ p g bx rv _ (hc.alloc (Obj.cells #[.int .i32 0, .int .i16 0, .slice none 0 0, .int .i64 0, .int .i64 0, .int .i32 0] 196 (0, 0)))).mono ?_); rintro e wn ⟨rfl, hc2, mn⟩; have hst : Hid (w.heap.size ≤ _) := hm.size; have hnt := Lib.hid (h.new hst.out); have hgt2 := hid_neOf hg; have hbt := Nat.ne_of_lt (blk_lt hc.box); have ht := hid_newOf hm (Obj.cells #[.int .i32 0, .int .i16 0, .slice none 0 0, .int .i64 0, .int .i64 0, .int .i32 0] 196 (0, 0)); have hg := hid_oldOf hg (Obj.cells #[.int .i32 0, .int .i16 0, .slice none 0 0, .int .i64 0, .int .i64 0, .int .i32 0] 196 (0, 0)); have hm := hm.alloc (Obj.cells #[.int .i32 0, .int .i16 0, .slice none 0 0, .int .i64 0, .int .i64 0, .int .i32 0] 196 (0, 0)); (try (have ht := hid_mod ht mn hnt; have ft := fun i => blk_frozen ht.out i; have t0 := blk_cell ht.out 0; have t1 := blk_cell ht.out 1; have t2 := blk_cell ht.out 2; have t3 := blk_cell ht.out 3; have t4 := blk_cell ht.out 4; have t5 := blk_cell ht.out 5; simp at t0 t1 t2 t3 t4 t5)); have hg := hid_mod hg mn hngb; have hm := hm.trans mn; have hc := hc2; have cx := hc.cell; clear hc2 mn)
        | (go_at_call 58; (with_reducible refine (cl_i32 _ p g bx rv _ ((hc0.alloc (Obj.cells #[.int .i32 0, .int .i16 0, .slice none 0 0, .int .i64 0, .int .i64 0, .int .i32 0] 196 (0, 0))).drew)).mono ?_); rintro e wn ⟨rfl, hc2, mn⟩; have hst : Hid (w.heap.size ≤ _) := hm0.size; have hnt := Lib.hid (h.new hst.out); have hgt2 := hid_neOf hg0; have hbt := Nat.ne_of_lt (blk_lt hc0.box); have ht : Hid ((w0.alloc (Obj.cells #[.int .i32 0, .int .i16 0, .slice none 0 0, .int .i64 0, .int .i64 0, .int .i32 0] 196 (0, 0))).drew.heap[w0.heap.size]? = some (Obj.cells #[.int .i32 0, .int .i16 0, .slice none 0 0, .int .i64 0, .int .i64 0, .int .i32 0] 196 (0, 0))) := hid_newOf hm0 (Obj.cells #[.int .i32 0, .int .i16 0, .slice none 0 0, .int .i64 0, .int .i64 0, .int .i32 0] 196 (0, 0)); have hg : Hid ((w0.alloc (Obj.cells #[.int .i32 0, .int .i16 0, .slice none 0 0, .int .i64 0, .int .i64 0, .int .i32 0] 196 (0, 0))).drew.heap[gb]? = some (Obj.cells #[.int .i32 0, .int .i16 0, .slice none 0 0, .int .i64 0, .int .i64 0, .int .i32 0] 196 (0, 0))) := hid_oldOf hg0 (Obj.cells #[.int .i32 0, .int .i16 0, .slice none 0 0, .int .i64 0, .int .i64 0, .int .i32 0] 196 (0, 0)); have hm : Mod (DecS p g) w (w0.alloc (Obj.cells #[.int .i32 0, .int .i16 0, .slice none 0 0, .int .i64 0, .int .i64 0, .int .i32 0] 196 (0, 0))).drew := (hm0.alloc (Obj.cells #[.int .i32 0, .int .i16 0, .slice none 0 0, .int .i64 0, .int .i64 0, .int .i32 0] 196 (0, 0))).drew; (try (have ht := hid_mod ht mn hnt; have ft := fun i => blk_frozen ht.out i; have t0 := blk_cell ht.out 0; have t1 := blk_cell ht.out 1; have t2 := blk_cell ht.out 2; have t3 := blk_cell ht.out 3; have t4 := blk_cell ht.out 4; have t5 := blk_cell ht.out 5; simp at t0 t1 t2 t3 t4 t5)); have hg := hid_mod hg mn hngb; have hm := hm.trans mn; have hc := hc2; have cx := hc.cell; clear hc2 mn)
        | (go_at_call 57; (with_reducible refine (cl_i16 _ p g bx rv _ hc).mono ?_); rintro e wn ⟨rfl, hc2, mn⟩; (try (have ht := hid_mod ht mn hnt; have ft := fun i => blk_frozen ht.out i; have t0 := blk_cell ht.out 0; have t1 := blk_cell ht.out 1; have t2 := blk_cell ht.out 2; have t3 := blk_cell ht.out 3; have t4 := blk_cell ht.out 4; have t5 := blk_cell ht.out 5; simp at t0 t1 t2 t3 t4 t5)); have hg := hid_mod hg mn hngb; have hm := hm.trans mn; have hc := hc2; have cx := hc.cell; clear hc2 mn)
        | (go_at_call 57; (with_reducible refine (cl_i16 _ p g bx rv _ (hc.alloc (Obj.cells #[.int .i32 0, .int .i16 0, .slice none 0 0, .int .i64 0, .int .i64 0, .int .i32 0] 196 (0, 0)))).mono ?_); rintro e wn ⟨rfl, hc2, mn⟩; have hst : Hid (w.heap.size ≤ _) := hm.size; have hnt := Lib.hid (h.new hst.out); have hgt2 := hid_neOf hg; have hbt := Nat.ne_of_lt (blk_lt hc.box); have ht := hid_newOf hm (Obj.cells #[.int .i32 0, .int .i16 0, .slice none 0 0, .int .i64 0, .int .i64 0, .int .i32 0] 196 (0, 0)); have hg := hid_oldOf hg (Obj.cells #[.int .i32 0, .int .i16 0, .slice none 0 0, .int .i64 0, .int .i64 0, .int .i32 0] 196 (0, 0)); have hm := hm.alloc (Obj.cells #[.int .i32 0, .int .i16 0, .slice none 0 0, .int .i64 0, .int .i64 0, .int .i32 0] 196 (0, 0)); (try (have ht := hid_mod ht mn hnt; have ft := fun i => blk_frozen ht.out i; have t0 := blk_cell ht.out 0; have t1 := blk_cell ht.out 1; have t2 := blk_cell ht.out 2; have t3 := blk_cell ht.out 3; have t4 := blk_cell ht.out 4; have t5 := blk_cell ht.out 5; simp at t0 t1 t2 t3 t4 t5)); have hg := hid_mod hg mn hngb; have hm := hm.trans mn; have hc := hc2; have cx := hc.cell; clear hc2 mn)
        | (go_at_call 57; (with_reducible refine (cl_i16 _ p g bx rv _ ((hc0.alloc (Obj.cells #[.int .i32 0, .int .i16 0, .slice none 0 0, .int .i64 0, .int .i64 0, .int .i32 0] 196 (0, 0))).drew)).mono ?_); rintro e wn ⟨rfl, hc2, mn⟩; have hst : Hid (w.heap.size ≤ _) := hm0.size; have hnt := Lib.hid (h.new hst.out); have hgt2 := hid_neOf hg0; have hbt := Nat.ne_of_lt (blk_lt hc0.box); have ht : Hid ((w0.alloc (Obj.cells #[.int .i32 0, .int .i16 0, .slice none 0 0, .int .i64 0, .int .i64 0, .int .i32 0] 196 (0, 0))).drew.heap[w0.heap.size]? = some (Obj.cells #[.int .i32 0, .int .i16 0, .slice none 0 0, .int .i64 0, .int .i64 0, .int .i32 0] 196 (0, 0))) := hid_newOf hm0 (Obj.cells #[.int .i32 0, .int .i16 0, .slice none 0 0, .int .i64 0, .int .i64 0, .int .i32 0] 196 (0, 0)); have hg : Hid ((w0.alloc (Obj.cells #[.int .i32 0, .int .i16 0, .slice none 0 0, .int .i64 0, .int .i64 0, .int .i32 0] 196 (0, 0))).drew.heap[gb]? = some (Obj.cells #[.int .i32 0, .int .i16 0, .slice none 0 0, .int .i64 0, .int .i64 0, .int .i32 0] 196 (0, 0))) := hid_oldOf hg0 (Obj.cells #[.int .i32 0, .int .i16 0, .slice none 0 0, .int .i64 0, .int .i64 0, .int .i32 0] 196 (0, 0)); have hm : Mod (DecS p g) w (w0.alloc (Obj.cells #[.int .i32 0, .int .i16 0, .slice none 0 0, .int .i64 0, .int .i64 0, .int .i32 0] 196 (0, 0))).drew := (hm0.alloc (Obj.cells #[.int .i32 0, .int .i16 0, .slice none 0 0, .int .i64 0, .int .i64 0, .int .i32 0] 196 (0, 0))).drew; (try (have ht := hid_mod ht mn hnt; have ft := fun i => blk_frozen ht.out i; have t0 := blk_cell ht.out 0; have t1 := blk_cell ht.out 1; have t2 := blk_cell ht.out 2; have t3 := blk_cell ht.out 3; have t4 := blk_cell ht.out 4; have t5 := blk_cell ht.out 5; simp at t0 t1 t2 t3 t4 t5)); have hg := hid_mod hg mn hngb; have hm := hm.trans mn; have hc := hc2; have cx := hc.cell; clear hc2 mn)
        | fail)
    all_goals (go_wp2_with fail; go_meet; first | (with_reducible exact ⟨_, rfl, hc.alloc _, hid_oldOf hg _, hid_newOf hm _, hm.alloc _, Lib.hid hm.size, hid_neOf hg⟩) | exact ⟨_, rfl, ((((((hc.far ht.out (by decide) (by decide) (by decide) (by decide) 0 _).far (hid_set ht 0 _).out (by decide) (by decide) (by decide) (by decide) 1 _).far (hid_set (hid_set ht 0 _) 1 _).out (by decide) (by decide) (by decide) (by decide) 2 _).far (hid_set (hid_set (hid_set ht 0 _) 1 _) 2 _).out (by decide) (by decide) (by decide) (by decide) 3 _).far (hid_set (hid_set (hid_set (hid_set ht 0 _) 1 _) 2 _) 3 _).out (by decide) (by decide) (by decide) (by decide) 4 _).far (hid_set (hid_set (hid_set (hid_set (hid_set ht 0 _) 1 _) 2 _) 3 _) 4 _).out (by decide) (by decide) (by decide) (by decide) 5 _), (hid_far (hid_far (hid_far (hid_far (hid_far (hid_far hg hgt2) hgt2) hgt2) hgt2) hgt2) hgt2), hid_cast (hid_set (hid_set (hid_set (hid_set (hid_set (hid_set ht 0 _) 1 _) 2 _) 3 _) 4 _) 5 _) rfl, (modFar (modFar (modFar (modFar (modFar (modFar hm hst 0 _) hst 1 _) hst 2 _) hst 3 _) hst 4 _) hst 5 _), hst, hgt2⟩)
  case rest =>
    obtain ⟨gt, rfl, hc, hg, ht, hm, hst, hgt2⟩ := hcut
    have cx := hc.cell
    have hnt : Hid (¬ DecS p g gt) := h.new hst.out
    have hbt := blk_ne hc.box ht.out (by decide)
    go_wp2_with fail
    refine (cl_has wc p g bx rv d.i32.2.i16.2 0 0 hc).mono ?_
    rintro e wh0 ⟨rfl, hc2, mn⟩
    replace hg := hid_mod hg mn hngb
    replace ht := hid_mod ht mn hnt
    replace hm := hm.trans mn
    replace hc := hc2
    have cx := hc.cell
    clear hc2 mn
    cases hh0 : d.i32.2.i16.2.has 0 0
    · -- no
      go_wp2_with fail
      refine (cl_has wh0 p g bx rv d.i32.2.i16.2 1 3 hc).mono ?_
      rintro e wh1 ⟨rfl, hc2, mn⟩
      replace hg := hid_mod hg mn hngb
      replace ht := hid_mod ht mn hnt
      replace hm := hm.trans mn
      replace hc := hc2
      have cx := hc.cell
      clear hc2 mn
      cases hh1 : d.i32.2.i16.2.has 1 3
      · -- no
        go_wp2_with fail
        refine (cl_has wh1 p g bx rv d.i32.2.i16.2 3 3 hc).mono ?_
        rintro e wh2 ⟨rfl, hc2, mn⟩
        replace hg := hid_mod hg mn hngb
        replace ht := hid_mod ht mn hnt
        replace hm := hm.trans mn
        replace hc := hc2
        have cx := hc.cell
        clear hc2 mn
        cases hh2 : d.i32.2.i16.2.has 3 3
        · -- no
          have fg := fun i => blk_frozen hg.out i
          have t0 : wh2.cell? ⟨gt, 0, none⟩ = _ := blk_cell ht.out 0
          have z0 : wh2.cell? ⟨gb, 0, none⟩ = _ := blk_cell hg.out 0
          have t1 : wh2.cell? ⟨gt, 1, none⟩ = _ := blk_cell ht.out 1
          have z1 : wh2.cell? ⟨gb, 1, none⟩ = _ := blk_cell hg.out 1
          have t2 : wh2.cell? ⟨gt, 2, none⟩ = _ := blk_cell ht.out 2
          have z2 : wh2.cell? ⟨gb, 2, none⟩ = _ := blk_cell hg.out 2
          have t3 : wh2.cell? ⟨gt, 3, none⟩ = _ := blk_cell ht.out 3
          have z3 : wh2.cell? ⟨gb, 3, none⟩ = _ := blk_cell hg.out 3
          have t4 : wh2.cell? ⟨gt, 4, none⟩ = _ := blk_cell ht.out 4
          have z4 : wh2.cell? ⟨gb, 4, none⟩ = _ := blk_cell hg.out 4
          have t5 : wh2.cell? ⟨gt, 5, none⟩ = _ := blk_cell ht.out 5
          have z5 : wh2.cell? ⟨gb, 5, none⟩ = _ := blk_cell hg.out 5
          simp at t0 z0 t1 z1 t2 z2 t3 z3 t4 z4 t5 z5
          go_wp2
          have erd : rdListDone d = (⟨d.i32.1, d.i32.2.i16.1, [], 0, 0, 0⟩, d.i32.2.i16.2) := by simp only [rdListDone, hh0, hh1, hh2, Bool.false_eq_true, if_true, if_false]
          rw [erd]
          refine bodyPost_ret (v := .agg #[.int .i32 (d.i32.1), .int .i16 (d.i32.2.i16.1), .slice none 0 0, .int .i64 0, .int .i64 0, .int .i32 0]) (by simp [results, Tryz.results110, go_sem, z0, z1, z2, z3, z4, z5]) rfl ⟨[.int .i32 (d.i32.1), .int .i16 (d.i32.2.i16.1), .slice none 0 0, .int .i64 0, .int .i64 0, .int .i32 0], rfl, ?_, ?_, ?_⟩
          · exact kListDone_mkM _ _ _ (⟨d.i32.1, d.i32.2.i16.1, [], 0, 0, 0⟩ : ListDone) (Kd.R_nil _ _ _ _ _)
          · exact ((((((hc.far hg.out (by decide) (by decide) (by decide) (by decide) 0 _).far (hid_set hg 0 _).out (by decide) (by decide) (by decide) (by decide) 1 _).far (hid_set (hid_set hg 0 _) 1 _).out (by decide) (by decide) (by decide) (by decide) 2 _).far (hid_set (hid_set (hid_set hg 0 _) 1 _) 2 _).out (by decide) (by decide) (by decide) (by decide) 3 _).far (hid_set (hid_set (hid_set (hid_set hg 0 _) 1 _) 2 _) 3 _).out (by decide) (by decide) (by decide) (by decide) 4 _).far (hid_set (hid_set (hid_set (hid_set (hid_set hg 0 _) 1 _) 2 _) 3 _) 4 _).out (by decide) (by decide) (by decide) (by decide) 5 _)
          · exact (modFar (modFar (modFar (modFar (modFar (modFar hm hsgb 0 _) hsgb 1 _) hsgb 2 _) hsgb 3 _) hsgb 4 _) hsgb 5 _)
        · -- yes
          go_wp2_with fail
          refine (cl_i32 wh2 p g bx rv d.i32.2.i16.2 hc).mono ?_
          rintro e wepoch_2 ⟨rfl, hc2, mn⟩
          replace hg := hid_mod hg mn hngb
          replace ht := hid_mod ht mn hnt
          replace hm := hm.trans mn
          replace hc := hc2
          have cx := hc.cell
          clear hc2 mn
          have ft := fun i => blk_frozen ht.out i
          have t5 : wepoch_2.cell? ⟨gt, 5, none⟩ = _ := blk_cell ht.out 5
          simp at t5
          have cx1 : (wepoch_2.setCell ⟨gt, 5, none⟩ (.int .i32 (d.i32.2.i16.2.i32.1))).cell? ⟨bx, 0, none⟩ = some (.pointer (some ⟨p, 0, none⟩)) := (cell_far hbt).trans (hc.cell)
          have hc1 : Cl (wepoch_2.setCell ⟨gt, 5, none⟩ (.int .i32 (d.i32.2.i16.2.i32.1))) p g bx rv d.i32.2.i16.2.i32.2 := (hc.far ht.out (by decide) (by decide) (by decide) (by decide) 5 _)
          have hg1 : Hid ((wepoch_2.setCell ⟨gt, 5, none⟩ (.int .i32 (d.i32.2.i16.2.i32.1))).heap[gb]? = some (.cells #[.int .i32 0, .int .i16 0, .slice none 0 0, .int .i64 0, .int .i64 0, .int .i32 0] 196 (0, 0))) := (hid_far hg hgt2)
          have ht1 : Hid ((wepoch_2.setCell ⟨gt, 5, none⟩ (.int .i32 (d.i32.2.i16.2.i32.1))).heap[gt]? = some (.cells #[.int .i32 (d.i32.1), .int .i16 (d.i32.2.i16.1), .slice none 0 0, .int .i64 0, .int .i64 0, .int .i32 (d.i32.2.i16.2.i32.1)] 196 (0, 0))) := hid_cast (hid_set ht 5 (.int .i32 (d.i32.2.i16.2.i32.1))) rfl
          have hm1 : Mod (DecS p g) w (wepoch_2.setCell ⟨gt, 5, none⟩ (.int .i32 (d.i32.2.i16.2.i32.1))) := (modFar hm hst 5 _)
          replace hc := hc1
          replace hg := hg1
          replace ht := ht1
          replace hm := hm1
          clear hc1 hg1 ht1 hm1
          have fg := fun i => blk_frozen hg.out i
          have t0 : (wepoch_2.setCell ⟨gt, 5, none⟩ (.int .i32 (d.i32.2.i16.2.i32.1))).cell? ⟨gt, 0, none⟩ = _ := blk_cell ht.out 0
          have z0 : (wepoch_2.setCell ⟨gt, 5, none⟩ (.int .i32 (d.i32.2.i16.2.i32.1))).cell? ⟨gb, 0, none⟩ = _ := blk_cell hg.out 0
          have t1 : (wepoch_2.setCell ⟨gt, 5, none⟩ (.int .i32 (d.i32.2.i16.2.i32.1))).cell? ⟨gt, 1, none⟩ = _ := blk_cell ht.out 1
          have z1 : (wepoch_2.setCell ⟨gt, 5, none⟩ (.int .i32 (d.i32.2.i16.2.i32.1))).cell? ⟨gb, 1, none⟩ = _ := blk_cell hg.out 1
          have t2 : (wepoch_2.setCell ⟨gt, 5, none⟩ (.int .i32 (d.i32.2.i16.2.i32.1))).cell? ⟨gt, 2, none⟩ = _ := blk_cell ht.out 2
          have z2 : (wepoch_2.setCell ⟨gt, 5, none⟩ (.int .i32 (d.i32.2.i16.2.i32.1))).cell? ⟨gb, 2, none⟩ = _ := blk_cell hg.out 2
          have t3 : (wepoch_2.setCell ⟨gt, 5, none⟩ (.int .i32 (d.i32.2.i16.2.i32.1))).cell? ⟨gt, 3, none⟩ = _ := blk_cell ht.out 3
          have z3 : (wepoch_2.setCell ⟨gt, 5, none⟩ (.int .i32 (d.i32.2.i16.2.i32.1))).cell? ⟨gb, 3, none⟩ = _ := blk_cell hg.out 3
          have t4 : (wepoch_2.setCell ⟨gt, 5, none⟩ (.int .i32 (d.i32.2.i16.2.i32.1))).cell? ⟨gt, 4, none⟩ = _ := blk_cell ht.out 4
          have z4 : (wepoch_2.setCell ⟨gt, 5, none⟩ (.int .i32 (d.i32.2.i16.2.i32.1))).cell? ⟨gb, 4, none⟩ = _ := blk_cell hg.out 4
          have t5 : (wepoch_2.setCell ⟨gt, 5, none⟩ (.int .i32 (d.i32.2.i16.2.i32.1))).cell? ⟨gt, 5, none⟩ = _ := blk_cell ht.out 5
          have z5 : (wepoch_2.setCell ⟨gt, 5, none⟩ (.int .i32 (d.i32.2.i16.2.i32.1))).cell? ⟨gb, 5, none⟩ = _ := blk_cell hg.out 5
          simp at t0 z0 t1 z1 t2 z2 t3 z3 t4 z4 t5 z5
          go_wp2
          have erd : rdListDone d = (⟨d.i32.1, d.i32.2.i16.1, [], 0, 0, d.i32.2.i16.2.i32.1⟩, d.i32.2.i16.2.i32.2) := by simp only [rdListDone, hh0, hh1, hh2, Bool.false_eq_true, if_true, if_false]
          rw [erd]
          refine bodyPost_ret (v := .agg #[.int .i32 (d.i32.1), .int .i16 (d.i32.2.i16.1), .slice none 0 0, .int .i64 0, .int .i64 0, .int .i32 (d.i32.2.i16.2.i32.1)]) (by simp [results, Tryz.results110, go_sem, z0, z1, z2, z3, z4, z5]) rfl ⟨[.int .i32 (d.i32.1), .int .i16 (d.i32.2.i16.1), .slice none 0 0, .int .i64 0, .int .i64 0, .int .i32 (d.i32.2.i16.2.i32.1)], rfl, ?_, ?_, ?_⟩
          · exact kListDone_mkM _ _ _ (⟨d.i32.1, d.i32.2.i16.1, [], 0, 0, d.i32.2.i16.2.i32.1⟩ : ListDone) (Kd.R_nil _ _ _ _ _)
          · exact ((((((hc.far hg.out (by decide) (by decide) (by decide) (by decide) 0 _).far (hid_set hg 0 _).out (by decide) (by decide) (by decide) (by decide) 1 _).far (hid_set (hid_set hg 0 _) 1 _).out (by decide) (by decide) (by decide) (by decide) 2 _).far (hid_set (hid_set (hid_set hg 0 _) 1 _) 2 _).out (by decide) (by decide) (by decide) (by decide) 3 _).far (hid_set (hid_set (hid_set (hid_set hg 0 _) 1 _) 2 _) 3 _).out (by decide) (by decide) (by decide) (by decide) 4 _).far (hid_set (hid_set (hid_set (hid_set (hid_set hg 0 _) 1 _) 2 _) 3 _) 4 _).out (by decide) (by decide) (by decide) (by decide) 5 _)
          · exact (modFar (modFar (modFar (modFar (modFar (modFar hm hsgb 0 _) hsgb 1 _) hsgb 2 _) hsgb 3 _) hsgb 4 _) hsgb 5 _)
      · -- yes
        go_wp2_with fail
        go_cut [18] (fun vq wx => Cl wx p g bx rv d.i32.2.i16.2.i64.2.i64.2 ∧ Hid (wx.heap[gb]? = some (.cells #[.int .i32 0, .int .i16 0, .slice none 0 0, .int .i64 0, .int .i64 0, .int .i32 0] 196 (0, 0))) ∧ Hid (wx.heap[gt]? = some (.cells #[.int .i32 (d.i32.1), .int .i16 (d.i32.2.i16.1), .slice none 0 0, .int .i64 (d.i32.2.i16.2.i64.1), .int .i64 (d.i32.2.i16.2.i64.2.i64.1), .int .i32 0] 196 (0, 0))) ∧ Mod (DecS p g) w wx)
        case first =>
          have hc := hc.drew
          have hg : Hid ((wh1).drew.heap[gb]? = some (.cells #[.int .i32 0, .int .i16 0, .slice none 0 0, .int .i64 0, .int .i64 0, .int .i32 0] 196 (0, 0))) := hg
          have ht : Hid ((wh1).drew.heap[gt]? = some (.cells #[.int .i32 (d.i32.1), .int .i16 (d.i32.2.i16.1), .slice none 0 0, .int .i64 0, .int .i64 0, .int .i32 0] 196 (0, 0))) := ht
          have hm : Mod (DecS p g) w (wh1).drew := hm.drew
          have cx := hc.cell
          go_region_held3 (fun w' => w'.cell? ⟨bx, 0, none⟩ = some (.pointer (some ⟨p, 0, none⟩))) (first | with_reducible exact cx | with_reducible exact (cell_far (by assumption)).trans (hc.cell) | with_reducible exact (cell_far (by assumption)).trans ((cell_far (by assumption)).trans (hc.cell)))
            (first
              | (go_at_call 91; (with_reducible refine (cl_i64 _ p g bx rv _ hc).mono ?_); rintro e wn ⟨rfl, hc2, mn⟩; have hg := hid_mod hg mn hngb; have ht := hid_mod ht mn hnt; have hm := hm.trans mn; have hc := hc2; have cx := hc.cell; clear hc2 mn; have ft := fun i => blk_frozen ht.out i; have t3 := blk_cell ht.out 3; have t4 := blk_cell ht.out 4; simp at t3 t4)
              | fail)
          all_goals (go_wp2_with fail; go_meet; first | exact ⟨((hc.far ht.out (by decide) (by decide) (by decide) (by decide) 3 _).far (hid_set ht 3 (.int .i64 (d.i32.2.i16.2.i64.1))).out (by decide) (by decide) (by decide) (by decide) 4 _), (hid_far (hid_far hg hgt2) hgt2), hid_cast (hid_set (hid_set ht 3 (.int .i64 (d.i32.2.i16.2.i64.1))) 4 (.int .i64 (d.i32.2.i16.2.i64.2.i64.1))) rfl, (modFar (modFar hm hst 3 _) hst 4 _)⟩ | exact ⟨((hc.far ht.out (by decide) (by decide) (by decide) (by decide) 4 _).far (hid_set ht 4 (.int .i64 (d.i32.2.i16.2.i64.2.i64.1))).out (by decide) (by decide) (by decide) (by decide) 3 _), (hid_far (hid_far hg hgt2) hgt2), hid_cast (hid_set (hid_set ht 4 (.int .i64 (d.i32.2.i16.2.i64.2.i64.1))) 3 (.int .i64 (d.i32.2.i16.2.i64.1))) rfl, (modFar (modFar hm hst 4 _) hst 3 _)⟩)
        case rest =>
          obtain ⟨hc, hg, ht, hm⟩ := hcut
          have cx := hc.cell
          go_wp2_with fail
          refine (cl_has wc p g bx rv d.i32.2.i16.2.i64.2.i64.2 3 3 hc).mono ?_
          rintro e wh2 ⟨rfl, hc2, mn⟩
          replace hg := hid_mod hg mn hngb
          replace ht := hid_mod ht mn hnt
          replace hm := hm.trans mn
          replace hc := hc2
          have cx := hc.cell
          clear hc2 mn
          cases hh2 : d.i32.2.i16.2.i64.2.i64.2.has 3 3
          · -- no
            have fg := fun i => blk_frozen hg.out i
            have t0 : wh2.cell? ⟨gt, 0, none⟩ = _ := blk_cell ht.out 0
            have z0 : wh2.cell? ⟨gb, 0, none⟩ = _ := blk_cell hg.out 0
            have t1 : wh2.cell? ⟨gt, 1, none⟩ = _ := blk_cell ht.out 1
            have z1 : wh2.cell? ⟨gb, 1, none⟩ = _ := blk_cell hg.out 1
            have t2 : wh2.cell? ⟨gt, 2, none⟩ = _ := blk_cell ht.out 2
            have z2 : wh2.cell? ⟨gb, 2, none⟩ = _ := blk_cell hg.out 2
            have t3 : wh2.cell? ⟨gt, 3, none⟩ = _ := blk_cell ht.out 3
            have z3 : wh2.cell? ⟨gb, 3, none⟩ = _ := blk_cell hg.out 3
            have t4 : wh2.cell? ⟨gt, 4, none⟩ = _ := blk_cell ht.out 4
            have z4 : wh2.cell? ⟨gb, 4, none⟩ = _ := blk_cell hg.out 4
            have t5 : wh2.cell? ⟨gt, 5, none⟩ = _ := blk_cell ht.out 5
            have z5 : wh2.cell? ⟨gb, 5, none⟩ = _ := blk_cell hg.out 5
            simp at t0 z0 t1 z1 t2 z2 t3 z3 t4 z4 t5 z5
            go_wp2
            have erd : rdListDone d = (⟨d.i32.1, d.i32.2.i16.1, [], d.i32.2.i16.2.i64.1, d.i32.2.i16.2.i64.2.i64.1, 0⟩, d.i32.2.i16.2.i64.2.i64.2) := by simp only [rdListDone, hh0, hh1, hh2, Bool.false_eq_true, if_true, if_false]
            rw [erd]
            refine bodyPost_ret (v := .agg #[.int .i32 (d.i32.1), .int .i16 (d.i32.2.i16.1), .slice none 0 0, .int .i64 (d.i32.2.i16.2.i64.1), .int .i64 (d.i32.2.i16.2.i64.2.i64.1), .int .i32 0]) (by simp [results, Tryz.results110, go_sem, z0, z1, z2, z3, z4, z5]) rfl ⟨[.int .i32 (d.i32.1), .int .i16 (d.i32.2.i16.1), .slice none 0 0, .int .i64 (d.i32.2.i16.2.i64.1), .int .i64 (d.i32.2.i16.2.i64.2.i64.1), .int .i32 0], rfl, ?_, ?_, ?_⟩
            · exact kListDone_mkM _ _ _ (⟨d.i32.1, d.i32.2.i16.1, [], d.i32.2.i16.2.i64.1, d.i32.2.i16.2.i64.2.i64.1, 0⟩ : ListDone) (Kd.R_nil _ _ _ _ _)
            · exact ((((((hc.far hg.out (by decide) (by decide) (by decide) (by decide) 0 _).far (hid_set hg 0 _).out (by decide) (by decide) (by decide) (by decide) 1 _).far (hid_set (hid_set hg 0 _) 1 _).out (by decide) (by decide) (by decide) (by decide) 2 _).far (hid_set (hid_set (hid_set hg 0 _) 1 _) 2 _).out (by decide) (by decide) (by decide) (by decide) 3 _).far (hid_set (hid_set (hid_set (hid_set hg 0 _) 1 _) 2 _) 3 _).out (by decide) (by decide) (by decide) (by decide) 4 _).far (hid_set (hid_set (hid_set (hid_set (hid_set hg 0 _) 1 _) 2 _) 3 _) 4 _).out (by decide) (by decide) (by decide) (by decide) 5 _)
            · exact (modFar (modFar (modFar (modFar (modFar (modFar hm hsgb 0 _) hsgb 1 _) hsgb 2 _) hsgb 3 _) hsgb 4 _) hsgb 5 _)
          · -- yes
            go_wp2_with fail
            refine (cl_i32 wh2 p g bx rv d.i32.2.i16.2.i64.2.i64.2 hc).mono ?_
            rintro e wepoch_2 ⟨rfl, hc2, mn⟩
            replace hg := hid_mod hg mn hngb
            replace ht := hid_mod ht mn hnt
            replace hm := hm.trans mn
            replace hc := hc2
            have cx := hc.cell
            clear hc2 mn
            have ft := fun i => blk_frozen ht.out i
            have t5 : wepoch_2.cell? ⟨gt, 5, none⟩ = _ := blk_cell ht.out 5
            simp at t5
            have cx1 : (wepoch_2.setCell ⟨gt, 5, none⟩ (.int .i32 (d.i32.2.i16.2.i64.2.i64.2.i32.1))).cell? ⟨bx, 0, none⟩ = some (.pointer (some ⟨p, 0, none⟩)) := (cell_far hbt).trans (hc.cell)
            have hc1 : Cl (wepoch_2.setCell ⟨gt, 5, none⟩ (.int .i32 (d.i32.2.i16.2.i64.2.i64.2.i32.1))) p g bx rv d.i32.2.i16.2.i64.2.i64.2.i32.2 := (hc.far ht.out (by decide) (by decide) (by decide) (by decide) 5 _)
            have hg1 : Hid ((wepoch_2.setCell ⟨gt, 5, none⟩ (.int .i32 (d.i32.2.i16.2.i64.2.i64.2.i32.1))).heap[gb]? = some (.cells #[.int .i32 0, .int .i16 0, .slice none 0 0, .int .i64 0, .int .i64 0, .int .i32 0] 196 (0, 0))) := (hid_far hg hgt2)
            have ht1 : Hid ((wepoch_2.setCell ⟨gt, 5, none⟩ (.int .i32 (d.i32.2.i16.2.i64.2.i64.2.i32.1))).heap[gt]? = some (.cells #[.int .i32 (d.i32.1), .int .i16 (d.i32.2.i16.1), .slice none 0 0, .int .i64 (d.i32.2.i16.2.i64.1), .int .i64 (d.i32.2.i16.2.i64.2.i64.1), .int .i32 (d.i32.2.i16.2.i64.2.i64.2.i32.1)] 196 (0, 0))) := hid_cast (hid_set ht 5 (.int .i32 (d.i32.2.i16.2.i64.2.i64.2.i32.1))) rfl
            have hm1 : Mod (DecS p g) w (wepoch_2.setCell ⟨gt, 5, none⟩ (.int .i32 (d.i32.2.i16.2.i64.2.i64.2.i32.1))) := (modFar hm hst 5 _)
            replace hc := hc1
            replace hg := hg1
            replace ht := ht1
            replace hm := hm1
            clear hc1 hg1 ht1 hm1
            have fg := fun i => blk_frozen hg.out i
            have t0 : (wepoch_2.setCell ⟨gt, 5, none⟩ (.int .i32 (d.i32.2.i16.2.i64.2.i64.2.i32.1))).cell? ⟨gt, 0, none⟩ = _ := blk_cell ht.out 0
            have z0 : (wepoch_2.setCell ⟨gt, 5, none⟩ (.int .i32 (d.i32.2.i16.2.i64.2.i64.2.i32.1))).cell? ⟨gb, 0, none⟩ = _ := blk_cell hg.out 0
            have t1 : (wepoch_2.setCell ⟨gt, 5, none⟩ (.int .i32 (d.i32.2.i16.2.i64.2.i64.2.i32.1))).cell? ⟨gt, 1, none⟩ = _ := blk_cell ht.out 1
            have z1 : (wepoch_2.setCell ⟨gt, 5, none⟩ (.int .i32 (d.i32.2.i16.2.i64.2.i64.2.i32.1))).cell? ⟨gb, 1, none⟩ = _ := blk_cell hg.out 1
            have t2 : (wepoch_2.setCell ⟨gt, 5, none⟩ (.int .i32 (d.i32.2.i16.2.i64.2.i64.2.i32.1))).cell? ⟨gt, 2, none⟩ = _ := blk_cell ht.out 2
            have z2 : (wepoch_2.setCell ⟨gt, 5, none⟩ (.int .i32 (d.i32.2.i16.2.i64.2.i64.2.i32.1))).cell? ⟨gb, 2, none⟩ = _ := blk_cell hg.out 2
            have t3 : (wepoch_2.setCell ⟨gt, 5, none⟩ (.int .i32 (d.i32.2.i16.2.i64.2.i64.2.i32.1))).cell? ⟨gt, 3, none⟩ = _ := blk_cell ht.out 3
            have z3 : (wepoch_2.setCell ⟨gt, 5, none⟩ (.int .i32 (d.i32.2.i16.2.i64.2.i64.2.i32.1))).cell? ⟨gb, 3, none⟩ = _ := blk_cell hg.out 3
            have t4 : (wepoch_2.setCell ⟨gt, 5, none⟩ (.int .i32 (d.i32.2.i16.2.i64.2.i64.2.i32.1))).cell? ⟨gt, 4, none⟩ = _ := blk_cell ht.out 4
            have z4 : (wepoch_2.setCell ⟨gt, 5, none⟩ (.int .i32 (d.i32.2.i16.2.i64.2.i64.2.i32.1))).cell? ⟨gb, 4, none⟩ = _ := blk_cell hg.out 4
            have t5 : (wepoch_2.setCell ⟨gt, 5, none⟩ (.int .i32 (d.i32.2.i16.2.i64.2.i64.2.i32.1))).cell? ⟨gt, 5, none⟩ = _ := blk_cell ht.out 5
            have z5 : (wepoch_2.setCell ⟨gt, 5, none⟩ (.int .i32 (d.i32.2.i16.2.i64.2.i64.2.i32.1))).cell? ⟨gb, 5, none⟩ = _ := blk_cell hg.out 5
            simp at t0 z0 t1 z1 t2 z2 t3 z3 t4 z4 t5 z5
            go_wp2
            have erd : rdListDone d = (⟨d.i32.1, d.i32.2.i16.1, [], d.i32.2.i16.2.i64.1, d.i32.2.i16.2.i64.2.i64.1, d.i32.2.i16.2.i64.2.i64.2.i32.1⟩, d.i32.2.i16.2.i64.2.i64.2.i32.2) := by simp only [rdListDone, hh0, hh1, hh2, Bool.false_eq_true, if_true, if_false]
            rw [erd]
            refine bodyPost_ret (v := .agg #[.int .i32 (d.i32.1), .int .i16 (d.i32.2.i16.1), .slice none 0 0, .int .i64 (d.i32.2.i16.2.i64.1), .int .i64 (d.i32.2.i16.2.i64.2.i64.1), .int .i32 (d.i32.2.i16.2.i64.2.i64.2.i32.1)]) (by simp [results, Tryz.results110, go_sem, z0, z1, z2, z3, z4, z5]) rfl ⟨[.int .i32 (d.i32.1), .int .i16 (d.i32.2.i16.1), .slice none 0 0, .int .i64 (d.i32.2.i16.2.i64.1), .int .i64 (d.i32.2.i16.2.i64.2.i64.1), .int .i32 (d.i32.2.i16.2.i64.2.i64.2.i32.1)], rfl, ?_, ?_, ?_⟩
            · exact kListDone_mkM _ _ _ (⟨d.i32.1, d.i32.2.i16.1, [], d.i32.2.i16.2.i64.1, d.i32.2.i16.2.i64.2.i64.1, d.i32.2.i16.2.i64.2.i64.2.i32.1⟩ : ListDone) (Kd.R_nil _ _ _ _ _)
            · exact ((((((hc.far hg.out (by decide) (by decide) (by decide) (by decide) 0 _).far (hid_set hg 0 _).out (by decide) (by decide) (by decide) (by decide) 1 _).far (hid_set (hid_set hg 0 _) 1 _).out (by decide) (by decide) (by decide) (by decide) 2 _).far (hid_set (hid_set (hid_set hg 0 _) 1 _) 2 _).out (by decide) (by decide) (by decide) (by decide) 3 _).far (hid_set (hid_set (hid_set (hid_set hg 0 _) 1 _) 2 _) 3 _).out (by decide) (by decide) (by decide) (by decide) 4 _).far (hid_set (hid_set (hid_set (hid_set (hid_set hg 0 _) 1 _) 2 _) 3 _) 4 _).out (by decide) (by decide) (by decide) (by decide) 5 _)
            · exact (modFar (modFar (modFar (modFar (modFar (modFar hm hsgb 0 _) hsgb 1 _) hsgb 2 _) hsgb 3 _) hsgb 4 _) hsgb 5 _)
    · -- yes
      go_wp2_with fail
      have hboffsets : Hid (w.heap.size ≤ wh0.heap.size) := hm.size
      refine (cl_list_i64 wh0 p g bx rv d.i32.2.i16.2 hc).mono ?_
      rintro e woffsets_0 ⟨Aoffsets, coffsets, rfl, roffsets, hc2, mn⟩
      replace hg := hid_mod hg mn hngb
      replace ht := hid_mod ht mn hnt
      replace hm := hm.trans mn
      replace hc := hc2
      have cx := hc.cell
      clear hc2 mn
      have ft := fun i => blk_frozen ht.out i
      have t2 : woffsets_0.cell? ⟨gt, 2, none⟩ = _ := blk_cell ht.out 2
      simp at t2
      have cx1 : (woffsets_0.setCell ⟨gt, 2, none⟩ (.slice Aoffsets (rdList DS.i64 d.i32.2.i16.2).1.length coffsets)).cell? ⟨bx, 0, none⟩ = some (.pointer (some ⟨p, 0, none⟩)) := (cell_far hbt).trans (hc.cell)
      have hc1 : Cl (woffsets_0.setCell ⟨gt, 2, none⟩ (.slice Aoffsets (rdList DS.i64 d.i32.2.i16.2).1.length coffsets)) p g bx rv ((rdList DS.i64 d.i32.2.i16.2).2) := (hc.far ht.out (by decide) (by decide) (by decide) (by decide) 2 _)
      have hg1 : Hid ((woffsets_0.setCell ⟨gt, 2, none⟩ (.slice Aoffsets (rdList DS.i64 d.i32.2.i16.2).1.length coffsets)).heap[gb]? = some (.cells #[.int .i32 0, .int .i16 0, .slice none 0 0, .int .i64 0, .int .i64 0, .int .i32 0] 196 (0, 0))) := (hid_far hg hgt2)
      have ht1 : Hid ((woffsets_0.setCell ⟨gt, 2, none⟩ (.slice Aoffsets (rdList DS.i64 d.i32.2.i16.2).1.length coffsets)).heap[gt]? = some (.cells #[.int .i32 (d.i32.1), .int .i16 (d.i32.2.i16.1), .slice Aoffsets (rdList DS.i64 d.i32.2.i16.2).1.length coffsets, .int .i64 0, .int .i64 0, .int .i32 0] 196 (0, 0))) := hid_cast (hid_set ht 2 (.slice Aoffsets (rdList DS.i64 d.i32.2.i16.2).1.length coffsets)) rfl
      have hm1 : Mod (DecS p g) w (woffsets_0.setCell ⟨gt, 2, none⟩ (.slice Aoffsets (rdList DS.i64 d.i32.2.i16.2).1.length coffsets)) := (modFar hm hst 2 _)
      have roffsets1 := (Kd.R_set roffsets ht.out (by decide) 2 (.slice Aoffsets (rdList DS.i64 d.i32.2.i16.2).1.length coffsets))
      replace hc := hc1
      replace hg := hg1
      replace ht := ht1
      replace hm := hm1
      replace roffsets := roffsets1
      clear hc1 hg1 ht1 hm1 roffsets1
      go_wp2_with fail
      refine (cl_has (woffsets_0.setCell ⟨gt, 2, none⟩ (.slice Aoffsets (rdList DS.i64 d.i32.2.i16.2).1.length coffsets)) p g bx rv ((rdList DS.i64 d.i32.2.i16.2).2) 1 3 hc).mono ?_
      rintro e wh1 ⟨rfl, hc2, mn⟩
      replace hg := hid_mod hg mn hngb
      replace ht := hid_mod ht mn hnt
      replace hm := hm.trans mn
      replace roffsets := R_mod roffsets mn (fun k hk => h.new (Nat.le_trans hboffsets.out hk))
      replace hc := hc2
      have cx := hc.cell
      clear hc2 mn
      cases hh1 : ((rdList DS.i64 d.i32.2.i16.2).2).has 1 3
      · -- no
        go_wp2_with fail
        refine (cl_has wh1 p g bx rv ((rdList DS.i64 d.i32.2.i16.2).2) 3 3 hc).mono ?_
        rintro e wh2 ⟨rfl, hc2, mn⟩
        replace hg := hid_mod hg mn hngb
        replace ht := hid_mod ht mn hnt
        replace hm := hm.trans mn
        replace roffsets := R_mod roffsets mn (fun k hk => h.new (Nat.le_trans hboffsets.out hk))
        replace hc := hc2
        have cx := hc.cell
        clear hc2 mn
        cases hh2 : ((rdList DS.i64 d.i32.2.i16.2).2).has 3 3
        · -- no
          have fg := fun i => blk_frozen hg.out i
          have t0 : wh2.cell? ⟨gt, 0, none⟩ = _ := blk_cell ht.out 0
          have z0 : wh2.cell? ⟨gb, 0, none⟩ = _ := blk_cell hg.out 0
          have t1 : wh2.cell? ⟨gt, 1, none⟩ = _ := blk_cell ht.out 1
          have z1 : wh2.cell? ⟨gb, 1, none⟩ = _ := blk_cell hg.out 1
          have t2 : wh2.cell? ⟨gt, 2, none⟩ = _ := blk_cell ht.out 2
          have z2 : wh2.cell? ⟨gb, 2, none⟩ = _ := blk_cell hg.out 2
          have t3 : wh2.cell? ⟨gt, 3, none⟩ = _ := blk_cell ht.out 3
          have z3 : wh2.cell? ⟨gb, 3, none⟩ = _ := blk_cell hg.out 3
          have t4 : wh2.cell? ⟨gt, 4, none⟩ = _ := blk_cell ht.out 4
          have z4 : wh2.cell? ⟨gb, 4, none⟩ = _ := blk_cell hg.out 4
          have t5 : wh2.cell? ⟨gt, 5, none⟩ = _ := blk_cell ht.out 5
          have z5 : wh2.cell? ⟨gb, 5, none⟩ = _ := blk_cell hg.out 5
          simp at t0 z0 t1 z1 t2 z2 t3 z3 t4 z4 t5 z5
          go_wp2
          have erd : rdListDone d = (⟨d.i32.1, d.i32.2.i16.1, (rdList DS.i64 d.i32.2.i16.2).1, 0, 0, 0⟩, (rdList DS.i64 d.i32.2.i16.2).2) := by simp only [rdListDone, hh0, hh1, hh2, Bool.false_eq_true, if_true, if_false]
          rw [erd]
          refine bodyPost_ret (v := .agg #[.int .i32 (d.i32.1), .int .i16 (d.i32.2.i16.1), .slice Aoffsets (rdList DS.i64 d.i32.2.i16.2).1.length coffsets, .int .i64 0, .int .i64 0, .int .i32 0]) (by simp [results, Tryz.results110, go_sem, z0, z1, z2, z3, z4, z5]) rfl ⟨[.int .i32 (d.i32.1), .int .i16 (d.i32.2.i16.1), .slice Aoffsets (rdList DS.i64 d.i32.2.i16.2).1.length coffsets, .int .i64 0, .int .i64 0, .int .i32 0], rfl, ?_, ?_, ?_⟩
          · exact kListDone_mkM _ _ _ (⟨d.i32.1, d.i32.2.i16.1, (rdList DS.i64 d.i32.2.i16.2).1, 0, 0, 0⟩ : ListDone) (Kd.R_lower (Kd.R_set (Kd.R_set (Kd.R_set (Kd.R_set (Kd.R_set (Kd.R_set roffsets hg.out (by decide) 0 _) (hid_set hg 0 _).out (by decide) 1 _) (hid_set (hid_set hg 0 _) 1 _).out (by decide) 2 _) (hid_set (hid_set (hid_set hg 0 _) 1 _) 2 _).out (by decide) 3 _) (hid_set (hid_set (hid_set (hid_set hg 0 _) 1 _) 2 _) 3 _).out (by decide) 4 _) (hid_set (hid_set (hid_set (hid_set (hid_set hg 0 _) 1 _) 2 _) 3 _) 4 _).out (by decide) 5 _) hboffsets.out)
          · exact ((((((hc.far hg.out (by decide) (by decide) (by decide) (by decide) 0 _).far (hid_set hg 0 _).out (by decide) (by decide) (by decide) (by decide) 1 _).far (hid_set (hid_set hg 0 _) 1 _).out (by decide) (by decide) (by decide) (by decide) 2 _).far (hid_set (hid_set (hid_set hg 0 _) 1 _) 2 _).out (by decide) (by decide) (by decide) (by decide) 3 _).far (hid_set (hid_set (hid_set (hid_set hg 0 _) 1 _) 2 _) 3 _).out (by decide) (by decide) (by decide) (by decide) 4 _).far (hid_set (hid_set (hid_set (hid_set (hid_set hg 0 _) 1 _) 2 _) 3 _) 4 _).out (by decide) (by decide) (by decide) (by decide) 5 _)
          · exact (modFar (modFar (modFar (modFar (modFar (modFar hm hsgb 0 _) hsgb 1 _) hsgb 2 _) hsgb 3 _) hsgb 4 _) hsgb 5 _)
        · -- yes
          go_wp2_with fail
          refine (cl_i32 wh2 p g bx rv ((rdList DS.i64 d.i32.2.i16.2).2) hc).mono ?_
          rintro e wepoch_2 ⟨rfl, hc2, mn⟩
          replace hg := hid_mod hg mn hngb
          replace ht := hid_mod ht mn hnt
          replace hm := hm.trans mn
          replace roffsets := R_mod roffsets mn (fun k hk => h.new (Nat.le_trans hboffsets.out hk))
          replace hc := hc2
          have cx := hc.cell
          clear hc2 mn
          have ft := fun i => blk_frozen ht.out i
          have t5 : wepoch_2.cell? ⟨gt, 5, none⟩ = _ := blk_cell ht.out 5
          simp at t5
          have cx1 : (wepoch_2.setCell ⟨gt, 5, none⟩ (.int .i32 ((rdList DS.i64 d.i32.2.i16.2).2.i32.1))).cell? ⟨bx, 0, none⟩ = some (.pointer (some ⟨p, 0, none⟩)) := (cell_far hbt).trans (hc.cell)
          have hc1 : Cl (wepoch_2.setCell ⟨gt, 5, none⟩ (.int .i32 ((rdList DS.i64 d.i32.2.i16.2).2.i32.1))) p g bx rv ((rdList DS.i64 d.i32.2.i16.2).2.i32.2) := (hc.far ht.out (by decide) (by decide) (by decide) (by decide) 5 _)
          have hg1 : Hid ((wepoch_2.setCell ⟨gt, 5, none⟩ (.int .i32 ((rdList DS.i64 d.i32.2.i16.2).2.i32.1))).heap[gb]? = some (.cells #[.int .i32 0, .int .i16 0, .slice none 0 0, .int .i64 0, .int .i64 0, .int .i32 0] 196 (0, 0))) := (hid_far hg hgt2)
          have ht1 : Hid ((wepoch_2.setCell ⟨gt, 5, none⟩ (.int .i32 ((rdList DS.i64 d.i32.2.i16.2).2.i32.1))).heap[gt]? = some (.cells #[.int .i32 (d.i32.1), .int .i16 (d.i32.2.i16.1), .slice Aoffsets (rdList DS.i64 d.i32.2.i16.2).1.length coffsets, .int .i64 0, .int .i64 0, .int .i32 ((rdList DS.i64 d.i32.2.i16.2).2.i32.1)] 196 (0, 0))) := hid_cast (hid_set ht 5 (.int .i32 ((rdList DS.i64 d.i32.2.i16.2).2.i32.1))) rfl
          have hm1 : Mod (DecS p g) w (wepoch_2.setCell ⟨gt, 5, none⟩ (.int .i32 ((rdList DS.i64 d.i32.2.i16.2).2.i32.1))) := (modFar hm hst 5 _)
          have roffsets1 := (Kd.R_set roffsets ht.out (by decide) 5 (.int .i32 ((rdList DS.i64 d.i32.2.i16.2).2.i32.1)))
          replace hc := hc1
          replace hg := hg1
          replace ht := ht1
          replace hm := hm1
          replace roffsets := roffsets1
          clear hc1 hg1 ht1 hm1 roffsets1
          have fg := fun i => blk_frozen hg.out i
          have t0 : (wepoch_2.setCell ⟨gt, 5, none⟩ (.int .i32 ((rdList DS.i64 d.i32.2.i16.2).2.i32.1))).cell? ⟨gt, 0, none⟩ = _ := blk_cell ht.out 0
          have z0 : (wepoch_2.setCell ⟨gt, 5, none⟩ (.int .i32 ((rdList DS.i64 d.i32.2.i16.2).2.i32.1))).cell? ⟨gb, 0, none⟩ = _ := blk_cell hg.out 0
          have t1 : (wepoch_2.setCell ⟨gt, 5, none⟩ (.int .i32 ((rdList DS.i64 d.i32.2.i16.2).2.i32.1))).cell? ⟨gt, 1, none⟩ = _ := blk_cell ht.out 1
          have z1 : (wepoch_2.setCell ⟨gt, 5, none⟩ (.int .i32 ((rdList DS.i64 d.i32.2.i16.2).2.i32.1))).cell? ⟨gb, 1, none⟩ = _ := blk_cell hg.out 1
          have t2 : (wepoch_2.setCell ⟨gt, 5, none⟩ (.int .i32 ((rdList DS.i64 d.i32.2.i16.2).2.i32.1))).cell? ⟨gt, 2, none⟩ = _ := blk_cell ht.out 2
          have z2 : (wepoch_2.setCell ⟨gt, 5, none⟩ (.int .i32 ((rdList DS.i64 d.i32.2.i16.2).2.i32.1))).cell? ⟨gb, 2, none⟩ = _ := blk_cell hg.out 2
          have t3 : (wepoch_2.setCell ⟨gt, 5, none⟩ (.int .i32 ((rdList DS.i64 d.i32.2.i16.2).2.i32.1))).cell? ⟨gt, 3, none⟩ = _ := blk_cell ht.out 3
          have z3 : (wepoch_2.setCell ⟨gt, 5, none⟩ (.int .i32 ((rdList DS.i64 d.i32.2.i16.2).2.i32.1))).cell? ⟨gb, 3, none⟩ = _ := blk_cell hg.out 3
          have t4 : (wepoch_2.setCell ⟨gt, 5, none⟩ (.int .i32 ((rdList DS.i64 d.i32.2.i16.2).2.i32.1))).cell? ⟨gt, 4, none⟩ = _ := blk_cell ht.out 4
          have z4 : (wepoch_2.setCell ⟨gt, 5, none⟩ (.int .i32 ((rdList DS.i64 d.i32.2.i16.2).2.i32.1))).cell? ⟨gb, 4, none⟩ = _ := blk_cell hg.out 4
          have t5 : (wepoch_2.setCell ⟨gt, 5, none⟩ (.int .i32 ((rdList DS.i64 d.i32.2.i16.2).2.i32.1))).cell? ⟨gt, 5, none⟩ = _ := blk_cell ht.out 5
          have z5 : (wepoch_2.setCell ⟨gt, 5, none⟩ (.int .i32 ((rdList DS.i64 d.i32.2.i16.2).2.i32.1))).cell? ⟨gb, 5, none⟩ = _ := blk_cell hg.out 5
          simp at t0 z0 t1 z1 t2 z2 t3 z3 t4 z4 t5 z5
          go_wp2
          have erd : rdListDone d = (⟨d.i32.1, d.i32.2.i16.1, (rdList DS.i64 d.i32.2.i16.2).1, 0, 0, (rdList DS.i64 d.i32.2.i16.2).2.i32.1⟩, (rdList DS.i64 d.i32.2.i16.2).2.i32.2) := by simp only [rdListDone, hh0, hh1, hh2, Bool.false_eq_true, if_true, if_false]
          rw [erd]
          refine bodyPost_ret (v := .agg #[.int .i32 (d.i32.1), .int .i16 (d.i32.2.i16.1), .slice Aoffsets (rdList DS.i64 d.i32.2.i16.2).1.length coffsets, .int .i64 0, .int .i64 0, .int .i32 ((rdList DS.i64 d.i32.2.i16.2).2.i32.1)]) (by simp [results, Tryz.results110, go_sem, z0, z1, z2, z3, z4, z5]) rfl ⟨[.int .i32 (d.i32.1), .int .i16 (d.i32.2.i16.1), .slice Aoffsets (rdList DS.i64 d.i32.2.i16.2).1.length coffsets, .int .i64 0, .int .i64 0, .int .i32 ((rdList DS.i64 d.i32.2.i16.2).2.i32.1)], rfl, ?_, ?_, ?_⟩
          · exact kListDone_mkM _ _ _ (⟨d.i32.1, d.i32.2.i16.1, (rdList DS.i64 d.i32.2.i16.2).1, 0, 0, (rdList DS.i64 d.i32.2.i16.2).2.i32.1⟩ : ListDone) (Kd.R_lower (Kd.R_set (Kd.R_set (Kd.R_set (Kd.R_set (Kd.R_set (Kd.R_set roffsets hg.out (by decide) 0 _) (hid_set hg 0 _).out (by decide) 1 _) (hid_set (hid_set hg 0 _) 1 _).out (by decide) 2 _) (hid_set (hid_set (hid_set hg 0 _) 1 _) 2 _).out (by decide) 3 _) (hid_set (hid_set (hid_set (hid_set hg 0 _) 1 _) 2 _) 3 _).out (by decide) 4 _) (hid_set (hid_set (hid_set (hid_set (hid_set hg 0 _) 1 _) 2 _) 3 _) 4 _).out (by decide) 5 _) hboffsets.out)
          · exact ((((((hc.far hg.out (by decide) (by decide) (by decide) (by decide) 0 _).far (hid_set hg 0 _).out (by decide) (by decide) (by decide) (by decide) 1 _).far (hid_set (hid_set hg 0 _) 1 _).out (by decide) (by decide) (by decide) (by decide) 2 _).far (hid_set (hid_set (hid_set hg 0 _) 1 _) 2 _).out (by decide) (by decide) (by decide) (by decide) 3 _).far (hid_set (hid_set (hid_set (hid_set hg 0 _) 1 _) 2 _) 3 _).out (by decide) (by decide) (by decide) (by decide) 4 _).far (hid_set (hid_set (hid_set (hid_set (hid_set hg 0 _) 1 _) 2 _) 3 _) 4 _).out (by decide) (by decide) (by decide) (by decide) 5 _)
          · exact (modFar (modFar (modFar (modFar (modFar (modFar hm hsgb 0 _) hsgb 1 _) hsgb 2 _) hsgb 3 _) hsgb 4 _) hsgb 5 _)
      · -- yes
        go_wp2_with fail
        go_cut [18] (fun vq wx => Cl wx p g bx rv ((rdList DS.i64 d.i32.2.i16.2).2.i64.2.i64.2) ∧ Hid (wx.heap[gb]? = some (.cells #[.int .i32 0, .int .i16 0, .slice none 0 0, .int .i64 0, .int .i64 0, .int .i32 0] 196 (0, 0))) ∧ Hid (wx.heap[gt]? = some (.cells #[.int .i32 (d.i32.1), .int .i16 (d.i32.2.i16.1), .slice Aoffsets (rdList DS.i64 d.i32.2.i16.2).1.length coffsets, .int .i64 ((rdList DS.i64 d.i32.2.i16.2).2.i64.1), .int .i64 ((rdList DS.i64 d.i32.2.i16.2).2.i64.2.i64.1), .int .i32 0] 196 (0, 0))) ∧ Mod (DecS p g) w wx ∧ (Kd.int .i64).R 2 wx wh0.heap.size (fun _ => True) (.slice Aoffsets (rdList DS.i64 d.i32.2.i16.2).1.length coffsets) (rdList DS.i64 d.i32.2.i16.2).1)
        case first =>
          have hc := hc.drew
          have hg : Hid ((wh1).drew.heap[gb]? = some (.cells #[.int .i32 0, .int .i16 0, .slice none 0 0, .int .i64 0, .int .i64 0, .int .i32 0] 196 (0, 0))) := hg
          have ht : Hid ((wh1).drew.heap[gt]? = some (.cells #[.int .i32 (d.i32.1), .int .i16 (d.i32.2.i16.1), .slice Aoffsets (rdList DS.i64 d.i32.2.i16.2).1.length coffsets, .int .i64 0, .int .i64 0, .int .i32 0] 196 (0, 0))) := ht
          have hm : Mod (DecS p g) w (wh1).drew := hm.drew
          have roffsets : (Kd.int .i64).R 2 (wh1).drew wh0.heap.size (fun _ => True) (.slice Aoffsets (rdList DS.i64 d.i32.2.i16.2).1.length coffsets) (rdList DS.i64 d.i32.2.i16.2).1 := roffsets
          have cx := hc.cell
          go_region_held3 (fun w' => w'.cell? ⟨bx, 0, none⟩ = some (.pointer (some ⟨p, 0, none⟩))) (first | with_reducible exact cx | with_reducible exact (cell_far (by assumption)).trans (hc.cell) | with_reducible exact (cell_far (by assumption)).trans ((cell_far (by assumption)).trans (hc.cell)))
            (first
              | (go_at_call 91; (with_reducible refine (cl_i64 _ p g bx rv _ hc).mono ?_); rintro e wn ⟨rfl, hc2, mn⟩; have hg := hid_mod hg mn hngb; have ht := hid_mod ht mn hnt; have hm := hm.trans mn; have roffsets := R_mod roffsets mn (fun k hk => h.new (Nat.le_trans hboffsets.out hk)); have hc := hc2; have cx := hc.cell; clear hc2 mn; have ft := fun i => blk_frozen ht.out i; have t3 := blk_cell ht.out 3; have t4 := blk_cell ht.out 4; simp at t3 t4)
              | fail)
          all_goals (go_wp2_with fail; go_meet; first | exact ⟨((hc.far ht.out (by decide) (by decide) (by decide) (by decide) 3 _).far (hid_set ht 3 (.int .i64 ((rdList DS.i64 d.i32.2.i16.2).2.i64.1))).out (by decide) (by decide) (by decide) (by decide) 4 _), (hid_far (hid_far hg hgt2) hgt2), hid_cast (hid_set (hid_set ht 3 (.int .i64 ((rdList DS.i64 d.i32.2.i16.2).2.i64.1))) 4 (.int .i64 ((rdList DS.i64 d.i32.2.i16.2).2.i64.2.i64.1))) rfl, (modFar (modFar hm hst 3 _) hst 4 _), (Kd.R_set (Kd.R_set roffsets ht.out (by decide) 3 (.int .i64 ((rdList DS.i64 d.i32.2.i16.2).2.i64.1))) (hid_set ht 3 (.int .i64 ((rdList DS.i64 d.i32.2.i16.2).2.i64.1))).out (by decide) 4 (.int .i64 ((rdList DS.i64 d.i32.2.i16.2).2.i64.2.i64.1)))⟩ | exact ⟨((hc.far ht.out (by decide) (by decide) (by decide) (by decide) 4 _).far (hid_set ht 4 (.int .i64 ((rdList DS.i64 d.i32.2.i16.2).2.i64.2.i64.1))).out (by decide) (by decide) (by decide) (by decide) 3 _), (hid_far (hid_far hg hgt2) hgt2), hid_cast (hid_set (hid_set ht 4 (.int .i64 ((rdList DS.i64 d.i32.2.i16.2).2.i64.2.i64.1))) 3 (.int .i64 ((rdList DS.i64 d.i32.2.i16.2).2.i64.1))) rfl, (modFar (modFar hm hst 4 _) hst 3 _), (Kd.R_set (Kd.R_set roffsets ht.out (by decide) 4 (.int .i64 ((rdList DS.i64 d.i32.2.i16.2).2.i64.2.i64.1))) (hid_set ht 4 (.int .i64 ((rdList DS.i64 d.i32.2.i16.2).2.i64.2.i64.1))).out (by decide) 3 (.int .i64 ((rdList DS.i64 d.i32.2.i16.2).2.i64.1)))⟩)
        case rest =>
          obtain ⟨hc, hg, ht, hm, roffsets⟩ := hcut
          have cx := hc.cell
          go_wp2_with fail
          refine (cl_has wc p g bx rv ((rdList DS.i64 d.i32.2.i16.2).2.i64.2.i64.2) 3 3 hc).mono ?_
          rintro e wh2 ⟨rfl, hc2, mn⟩
          replace hg := hid_mod hg mn hngb
          replace ht := hid_mod ht mn hnt
          replace hm := hm.trans mn
          replace roffsets := R_mod roffsets mn (fun k hk => h.new (Nat.le_trans hboffsets.out hk))
          replace hc := hc2
          have cx := hc.cell
          clear hc2 mn
          cases hh2 : ((rdList DS.i64 d.i32.2.i16.2).2.i64.2.i64.2).has 3 3
          · -- no
            have fg := fun i => blk_frozen hg.out i
            have t0 : wh2.cell? ⟨gt, 0, none⟩ = _ := blk_cell ht.out 0
            have z0 : wh2.cell? ⟨gb, 0, none⟩ = _ := blk_cell hg.out 0
            have t1 : wh2.cell? ⟨gt, 1, none⟩ = _ := blk_cell ht.out 1
            have z1 : wh2.cell? ⟨gb, 1, none⟩ = _ := blk_cell hg.out 1
            have t2 : wh2.cell? ⟨gt, 2, none⟩ = _ := blk_cell ht.out 2
            have z2 : wh2.cell? ⟨gb, 2, none⟩ = _ := blk_cell hg.out 2
            have t3 : wh2.cell? ⟨gt, 3, none⟩ = _ := blk_cell ht.out 3
            have z3 : wh2.cell? ⟨gb, 3, none⟩ = _ := blk_cell hg.out 3
            have t4 : wh2.cell? ⟨gt, 4, none⟩ = _ := blk_cell ht.out 4
            have z4 : wh2.cell? ⟨gb, 4, none⟩ = _ := blk_cell hg.out 4
            have t5 : wh2.cell? ⟨gt, 5, none⟩ = _ := blk_cell ht.out 5
            have z5 : wh2.cell? ⟨gb, 5, none⟩ = _ := blk_cell hg.out 5
            simp at t0 z0 t1 z1 t2 z2 t3 z3 t4 z4 t5 z5
            go_wp2
            have erd : rdListDone d = (⟨d.i32.1, d.i32.2.i16.1, (rdList DS.i64 d.i32.2.i16.2).1, (rdList DS.i64 d.i32.2.i16.2).2.i64.1, (rdList DS.i64 d.i32.2.i16.2).2.i64.2.i64.1, 0⟩, (rdList DS.i64 d.i32.2.i16.2).2.i64.2.i64.2) := by simp only [rdListDone, hh0, hh1, hh2, Bool.false_eq_true, if_true, if_false]
            rw [erd]
            refine bodyPost_ret (v := .agg #[.int .i32 (d.i32.1), .int .i16 (d.i32.2.i16.1), .slice Aoffsets (rdList DS.i64 d.i32.2.i16.2).1.length coffsets, .int .i64 ((rdList DS.i64 d.i32.2.i16.2).2.i64.1), .int .i64 ((rdList DS.i64 d.i32.2.i16.2).2.i64.2.i64.1), .int .i32 0]) (by simp [results, Tryz.results110, go_sem, z0, z1, z2, z3, z4, z5]) rfl ⟨[.int .i32 (d.i32.1), .int .i16 (d.i32.2.i16.1), .slice Aoffsets (rdList DS.i64 d.i32.2.i16.2).1.length coffsets, .int .i64 ((rdList DS.i64 d.i32.2.i16.2).2.i64.1), .int .i64 ((rdList DS.i64 d.i32.2.i16.2).2.i64.2.i64.1), .int .i32 0], rfl, ?_, ?_, ?_⟩
            · exact kListDone_mkM _ _ _ (⟨d.i32.1, d.i32.2.i16.1, (rdList DS.i64 d.i32.2.i16.2).1, (rdList DS.i64 d.i32.2.i16.2).2.i64.1, (rdList DS.i64 d.i32.2.i16.2).2.i64.2.i64.1, 0⟩ : ListDone) (Kd.R_lower (Kd.R_set (Kd.R_set (Kd.R_set (Kd.R_set (Kd.R_set (Kd.R_set roffsets hg.out (by decide) 0 _) (hid_set hg 0 _).out (by decide) 1 _) (hid_set (hid_set hg 0 _) 1 _).out (by decide) 2 _) (hid_set (hid_set (hid_set hg 0 _) 1 _) 2 _).out (by decide) 3 _) (hid_set (hid_set (hid_set (hid_set hg 0 _) 1 _) 2 _) 3 _).out (by decide) 4 _) (hid_set (hid_set (hid_set (hid_set (hid_set hg 0 _) 1 _) 2 _) 3 _) 4 _).out (by decide) 5 _) hboffsets.out)
            · exact ((((((hc.far hg.out (by decide) (by decide) (by decide) (by decide) 0 _).far (hid_set hg 0 _).out (by decide) (by decide) (by decide) (by decide) 1 _).far (hid_set (hid_set hg 0 _) 1 _).out (by decide) (by decide) (by decide) (by decide) 2 _).far (hid_set (hid_set (hid_set hg 0 _) 1 _) 2 _).out (by decide) (by decide) (by decide) (by decide) 3 _).far (hid_set (hid_set (hid_set (hid_set hg 0 _) 1 _) 2 _) 3 _).out (by decide) (by decide) (by decide) (by decide) 4 _).far (hid_set (hid_set (hid_set (hid_set (hid_set hg 0 _) 1 _) 2 _) 3 _) 4 _).out (by decide) (by decide) (by decide) (by decide) 5 _)
            · exact (modFar (modFar (modFar (modFar (modFar (modFar hm hsgb 0 _) hsgb 1 _) hsgb 2 _) hsgb 3 _) hsgb 4 _) hsgb 5 _)
          · -- yes
            go_wp2_with fail
            refine (cl_i32 wh2 p g bx rv ((rdList DS.i64 d.i32.2.i16.2).2.i64.2.i64.2) hc).mono ?_
            rintro e wepoch_2 ⟨rfl, hc2, mn⟩
            replace hg := hid_mod hg mn hngb
            replace ht := hid_mod ht mn hnt
            replace hm := hm.trans mn
            replace roffsets := R_mod roffsets mn (fun k hk => h.new (Nat.le_trans hboffsets.out hk))
            replace hc := hc2
            have cx := hc.cell
            clear hc2 mn
            have ft := fun i => blk_frozen ht.out i
            have t5 : wepoch_2.cell? ⟨gt, 5, none⟩ = _ := blk_cell ht.out 5
            simp at t5
            have cx1 : (wepoch_2.setCell ⟨gt, 5, none⟩ (.int .i32 ((rdList DS.i64 d.i32.2.i16.2).2.i64.2.i64.2.i32.1))).cell? ⟨bx, 0, none⟩ = some (.pointer (some ⟨p, 0, none⟩)) := (cell_far hbt).trans (hc.cell)
            have hc1 : Cl (wepoch_2.setCell ⟨gt, 5, none⟩ (.int .i32 ((rdList DS.i64 d.i32.2.i16.2).2.i64.2.i64.2.i32.1))) p g bx rv ((rdList DS.i64 d.i32.2.i16.2).2.i64.2.i64.2.i32.2) := (hc.far ht.out (by decide) (by decide) (by decide) (by decide) 5 _)
            have hg1 : Hid ((wepoch_2.setCell ⟨gt, 5, none⟩ (.int .i32 ((rdList DS.i64 d.i32.2.i16.2).2.i64.2.i64.2.i32.1))).heap[gb]? = some (.cells #[.int .i32 0, .int .i16 0, .slice none 0 0, .int .i64 0, .int .i64 0, .int .i32 0] 196 (0, 0))) := (hid_far hg hgt2)
            have ht1 : Hid ((wepoch_2.setCell ⟨gt, 5, none⟩ (.int .i32 ((rdList DS.i64 d.i32.2.i16.2).2.i64.2.i64.2.i32.1))).heap[gt]? = some (.cells #[.int .i32 (d.i32.1), .int .i16 (d.i32.2.i16.1), .slice Aoffsets (rdList DS.i64 d.i32.2.i16.2).1.length coffsets, .int .i64 ((rdList DS.i64 d.i32.2.i16.2).2.i64.1), .int .i64 ((rdList DS.i64 d.i32.2.i16.2).2.i64.2.i64.1), .int .i32 ((rdList DS.i64 d.i32.2.i16.2).2.i64.2.i64.2.i32.1)] 196 (0, 0))) := hid_cast (hid_set ht 5 (.int .i32 ((rdList DS.i64 d.i32.2.i16.2).2.i64.2.i64.2.i32.1))) rfl
            have hm1 : Mod (DecS p g) w (wepoch_2.setCell ⟨gt, 5, none⟩ (.int .i32 ((rdList DS.i64 d.i32.2.i16.2).2.i64.2.i64.2.i32.1))) := (modFar hm hst 5 _)
            have roffsets1 := (Kd.R_set roffsets ht.out (by decide) 5 (.int .i32 ((rdList DS.i64 d.i32.2.i16.2).2.i64.2.i64.2.i32.1)))
            replace hc := hc1
            replace hg := hg1
            replace ht := ht1
            replace hm := hm1
            replace roffsets := roffsets1
            clear hc1 hg1 ht1 hm1 roffsets1
            have fg := fun i => blk_frozen hg.out i
            have t0 : (wepoch_2.setCell ⟨gt, 5, none⟩ (.int .i32 ((rdList DS.i64 d.i32.2.i16.2).2.i64.2.i64.2.i32.1))).cell? ⟨gt, 0, none⟩ = _ := blk_cell ht.out 0
            have z0 : (wepoch_2.setCell ⟨gt, 5, none⟩ (.int .i32 ((rdList DS.i64 d.i32.2.i16.2).2.i64.2.i64.2.i32.1))).cell? ⟨gb, 0, none⟩ = _ := blk_cell hg.out 0
            have t1 : (wepoch_2.setCell ⟨gt, 5, none⟩ (.int .i32 ((rdList DS.i64 d.i32.2.i16.2).2.i64.2.i64.2.i32.1))).cell? ⟨gt, 1, none⟩ = _ := blk_cell ht.out 1
            have z1 : (wepoch_2.setCell ⟨gt, 5, none⟩ (.int .i32 ((rdList DS.i64 d.i32.2.i16.2).2.i64.2.i64.2.i32.1))).cell? ⟨gb, 1, none⟩ = _ := blk_cell hg.out 1
            have t2 : (wepoch_2.setCell ⟨gt, 5, none⟩ (.int .i32 ((rdList DS.i64 d.i32.2.i16.2).2.i64.2.i64.2.i32.1))).cell? ⟨gt, 2, none⟩ = _ := blk_cell ht.out 2
            have z2 : (wepoch_2.setCell ⟨gt, 5, none⟩ (.int .i32 ((rdList DS.i64 d.i32.2.i16.2).2.i64.2.i64.2.i32.1))).cell? ⟨gb, 2, none⟩ = _ := blk_cell hg.out 2
            have t3 : (wepoch_2.setCell ⟨gt, 5, none⟩ (.int .i32 ((rdList DS.i64 d.i32.2.i16.2).2.i64.2.i64.2.i32.1))).cell? ⟨gt, 3, none⟩ = _ := blk_cell ht.out 3
            have z3 : (wepoch_2.setCell ⟨gt, 5, none⟩ (.int .i32 ((rdList DS.i64 d.i32.2.i16.2).2.i64.2.i64.2.i32.1))).cell? ⟨gb, 3, none⟩ = _ := blk_cell hg.out 3
            have t4 : (wepoch_2.setCell ⟨gt, 5, none⟩ (.int .i32 ((rdList DS.i64 d.i32.2.i16.2).2.i64.2.i64.2.i32.1))).cell? ⟨gt, 4, none⟩ = _ := blk_cell ht.out 4
            have z4 : (wepoch_2.setCell ⟨gt, 5, none⟩ (.int .i32 ((rdList DS.i64 d.i32.2.i16.2).2.i64.2.i64.2.i32.1))).cell? ⟨gb, 4, none⟩ = _ := blk_cell hg.out 4
            have t5 : (wepoch_2.setCell ⟨gt, 5, none⟩ (.int .i32 ((rdList DS.i64 d.i32.2.i16.2).2.i64.2.i64.2.i32.1))).cell? ⟨gt, 5, none⟩ = _ := blk_cell ht.out 5
            have z5 : (wepoch_2.setCell ⟨gt, 5, none⟩ (.int .i32 ((rdList DS.i64 d.i32.2.i16.2).2.i64.2.i64.2.i32.1))).cell? ⟨gb, 5, none⟩ = _ := blk_cell hg.out 5
            simp at t0 z0 t1 z1 t2 z2 t3 z3 t4 z4 t5 z5
            go_wp2
            have erd : rdListDone d = (⟨d.i32.1, d.i32.2.i16.1, (rdList DS.i64 d.i32.2.i16.2).1, (rdList DS.i64 d.i32.2.i16.2).2.i64.1, (rdList DS.i64 d.i32.2.i16.2).2.i64.2.i64.1, (rdList DS.i64 d.i32.2.i16.2).2.i64.2.i64.2.i32.1⟩, (rdList DS.i64 d.i32.2.i16.2).2.i64.2.i64.2.i32.2) := by simp only [rdListDone, hh0, hh1, hh2, Bool.false_eq_true, if_true, if_false]
            rw [erd]
            refine bodyPost_ret (v := .agg #[.int .i32 (d.i32.1), .int .i16 (d.i32.2.i16.1), .slice Aoffsets (rdList DS.i64 d.i32.2.i16.2).1.length coffsets, .int .i64 ((rdList DS.i64 d.i32.2.i16.2).2.i64.1), .int .i64 ((rdList DS.i64 d.i32.2.i16.2).2.i64.2.i64.1), .int .i32 ((rdList DS.i64 d.i32.2.i16.2).2.i64.2.i64.2.i32.1)]) (by simp [results, Tryz.results110, go_sem, z0, z1, z2, z3, z4, z5]) rfl ⟨[.int .i32 (d.i32.1), .int .i16 (d.i32.2.i16.1), .slice Aoffsets (rdList DS.i64 d.i32.2.i16.2).1.length coffsets, .int .i64 ((rdList DS.i64 d.i32.2.i16.2).2.i64.1), .int .i64 ((rdList DS.i64 d.i32.2.i16.2).2.i64.2.i64.1), .int .i32 ((rdList DS.i64 d.i32.2.i16.2).2.i64.2.i64.2.i32.1)], rfl, ?_, ?_, ?_⟩
            · exact kListDone_mkM _ _ _ (⟨d.i32.1, d.i32.2.i16.1, (rdList DS.i64 d.i32.2.i16.2).1, (rdList DS.i64 d.i32.2.i16.2).2.i64.1, (rdList DS.i64 d.i32.2.i16.2).2.i64.2.i64.1, (rdList DS.i64 d.i32.2.i16.2).2.i64.2.i64.2.i32.1⟩ : ListDone) (Kd.R_lower (Kd.R_set (Kd.R_set (Kd.R_set (Kd.R_set (Kd.R_set (Kd.R_set roffsets hg.out (by decide) 0 _) (hid_set hg 0 _).out (by decide) 1 _) (hid_set (hid_set hg 0 _) 1 _).out (by decide) 2 _) (hid_set (hid_set (hid_set hg 0 _) 1 _) 2 _).out (by decide) 3 _) (hid_set (hid_set (hid_set (hid_set hg 0 _) 1 _) 2 _) 3 _).out (by decide) 4 _) (hid_set (hid_set (hid_set (hid_set (hid_set hg 0 _) 1 _) 2 _) 3 _) 4 _).out (by decide) 5 _) hboffsets.out)
            · exact ((((((hc.far hg.out (by decide) (by decide) (by decide) (by decide) 0 _).far (hid_set hg 0 _).out (by decide) (by decide) (by decide) (by decide) 1 _).far (hid_set (hid_set hg 0 _) 1 _).out (by decide) (by decide) (by decide) (by decide) 2 _).far (hid_set (hid_set (hid_set hg 0 _) 1 _) 2 _).out (by decide) (by decide) (by decide) (by decide) 3 _).far (hid_set (hid_set (hid_set (hid_set hg 0 _) 1 _) 2 _) 3 _).out (by decide) (by decide) (by decide) (by decide) 4 _).far (hid_set (hid_set (hid_set (hid_set (hid_set hg 0 _) 1 _) 2 _) 3 _) 4 _).out (by decide) (by decide) (by decide) (by decide) 5 _)
            · exact (modFar (modFar (modFar (modFar (modFar (modFar hm hsgb 0 _) hsgb 1 _) hsgb 2 _) hsgb 3 _) hsgb 4 _) hsgb 5 _)

end Go.Proofs.YteckmgmcfngddaaGreat
end

section
/- A list of parts: ListDone. -/
set_option linter.unusedVariables false
set_option linter.unusedSimpArgs false
namespace Go.Proofs.YteckmgmcfngddaaGreat
open Go.RowKit Go.Proofs.YteckmgmcfngddaaGreatW.PrintWords

theorem info_ListDone : (Tryz.prog.info? 196).map (fun i => (i.zero, i.size, i.bytes)) = some (some (.agg #[.int .i32 0, .int .i16 0, .slice none 0 0, .int .i64 0, .int .i64 0, .int .i32 0]), 6, 56) := by kernel_rfl
set_option maxRecDepth 100000 in
set_option maxHeartbeats 6400000 in
theorem cl_list_ListDone (w : World) (p g bx : Nat) (rv : Value) (d : DS) (h : Cl w p g bx rv d) :
    Calls Tryz.prog 109 #[.pointer (some ⟨p, 0, none⟩), .func (.func 110) #[] #[.pointer (some ⟨bx, 0, none⟩)]] w (ClPostR kListDone 196 p g bx rv (rdList rdListDone d).1 (rdList rdListDone d).2 w) := by
  obtain ⟨r0, r1⟩ := d.i32_range
  go_enter Tryz.func109, Tryz.ntmps109
  go_wp2_with fail
  refine (cl_i32 w p g bx rv d h).mono ?_
  rintro e w1 ⟨rfl, h1, m1⟩
  obtain ⟨q, hbk⟩ := h1.dec.blk
  have c2 : w1.cell? ⟨p, 2, none⟩ = _ := blk_cell hbk 2
  have f2 := blk_frozen hbk 2
  simp at c2
  clear hbk
  go_upto_block 0 with fail
  go_cut [10] (fun v10 wx => Cl wx p g bx rv (rdHead d) ∧ Mod (DecS p g) w wx)
  case first =>
    by_cases he : d.i32.2.e = 0
    · have he' : (d.i32.2.e != 0) = false := by simp [he]
      by_cases h0 : d.i32.1 < 0
      · have h0' : decide (d.i32.1 < 0) = true := by simpa using h0
        have hh := Lib.hid (rdHead_neg he h0)
        clear he
        go_wp2
        go_meet
        rw [hh.out]
        exact ⟨h1.failed 5 (by decide), m1.trans (mod_dec' p g 0 _)⟩
      · have h0' : decide (d.i32.1 < 0) = false := by simpa using h0
        by_cases h2 : d.i32.1 > 16
        · have h2' : decide (d.i32.1 > 16) = true := by simpa using h2
          have hh := Lib.hid (rdHead_big he h0 h2)
          clear he
          go_wp2
          go_meet
          rw [hh.out]
          exact ⟨h1.failed 9 (by decide), m1.trans (mod_dec' p g 0 _)⟩
        · have h2' : decide (d.i32.1 > 16) = false := by simpa using h2
          have hh := Lib.hid (rdHead_ok he h0 h2)
          clear he
          go_wp2
          go_meet
          rw [hh.out]
          exact ⟨h1, m1⟩
    · have he' : (d.i32.2.e != 0) = true := by simp [he]
      have hh := Lib.hid (rdHead_err he)
      clear he
      go_wp2
      go_meet
      rw [hh.out]
      exact ⟨h1, m1⟩
  case rest =>
    obtain ⟨hc, hm⟩ := hcut
    clear c2 f2 h1 m1
    go_wp2_with fail
    go_loopg [6, 7] (d.i32.1.toNat) (fun gk v6 v7 wr => ∃ (k : Nat) (out : List ListDone) (dk : DS) (A : Option Addr) (c : Nat), v7 = .int .i32 k ∧ v6 = .slice A out.length c ∧ Hid (out.length = k) ∧ k + gk ≤ 2147483647 ∧ Hid (gk + k = d.i32.1.toNat) ∧ kListDone.R 196 wr w.heap.size (fun _ => True) (.slice A out.length c) out ∧ Cl wr p g bx rv dk ∧ Mod (DecS p g) w wr ∧ Hid (rdGo rdListDone gk out dk = rdList rdListDone d) ∧ Hid (dk.e = 0 → d.i32.1 ≤ 16))
    case atStart => exact ⟨0, [], rdHead d, none, 0, rfl, rfl, rfl, by omega, by simp [Hid], Kd.R_nil _ _ _ _ _, hc, hm, rfl, rdHead_le d⟩
    case round =>
      obtain ⟨k, out, dk, A, c, rfl, rfl, hok, hk2, hgk, ho, hcr, hmr, heq, hle⟩ := hrel
      clear hc hm
      obtain ⟨q, hbk⟩ := hcr.dec.blk
      have c2 : wr.cell? ⟨p, 2, none⟩ = _ := blk_cell hbk 2
      simp at c2
      clear hbk
      by_cases hlt : (k : Int) < d.i32.1
      · have hlt' : decide ((k : Int) < d.i32.1) = true := by simpa using hlt
        by_cases he : dk.e = 0
        · have he' : (dk.e == 0) = true := by simp [he]
          have hn16 := hle.out he
          obtain ⟨j, rfl⟩ : ∃ j, gk = j + 1 := ⟨gk - 1, by have := hgk.out; omega⟩
          have hstep : Hid (rdGo rdListDone j (out ++ [(rdListDone dk).1]) (rdListDone dk).2 = rdList rdListDone d) := Lib.hid (by rw [← heq.out]; exact (rdGo_step rdListDone j out dk he).symm)
          clear he heq
          go_wp2_with fail
          refine (cl_ListDone wr p g bx rv dk hcr).mono ?_
          rintro e w2 ⟨cs, rfl, kv, hc2, mn⟩
          obtain ⟨A0, c0, rfl, g0⟩ := kListDone_openM kv
          have ho2 := R_mod ho mn (fun q hq => h.new hq)
          have hlen : (out.length + 1) * 56 ≤ 140737488355328 := by have := hok.out; omega
          have HLEN := Lib.hid hlen
          clear hlen
          go_wp2_with (at_builtin; refine Kd.R_append kListDone (w0 := w2) w.heap.size rfl (.tmp 40) (.tmp 43) 190 196 (.agg #[.int .i32 0, .int .i16 0, .slice none 0 0, .int .i64 0, .int .i64 0, .int .i32 0]) 56 rfl Tryz.underlying190 info_ListDone rfl (by decide) (by decide) _ out (rdListDone dk).1 [.int .i32 (rdListDone dk).1.index, .int .i16 (rdListDone dk).1.code, .slice A0 (rdListDone dk).1.offsets.length c0, .int .i64 (rdListDone dk).1.time, .int .i64 (rdListDone dk).1.offset, .int .i32 (rdListDone dk).1.epoch] (fun _ => True) (fun q => some q ≠ (Value.slice A out.length c).ownBlock) rfl rfl (M_fresh kv ho (Nat.le_refl _) hmr.size) (fun q hq => ⟨trivial, hq⟩) (fun _ _ => trivial) ho2 (Below.refl _ _) (Nat.le_trans hmr.size mn.size) HLEN.out ?_; intro v1 w3 ho3 hb3 hg3 hat3)
          obtain ⟨A', c', rfl⟩ := Kd.R_slice ho3
          have hc3 : Cl w3 p g bx rv (rdListDone dk).2 := hc2.grown hg3 (fun q hq => by obtain ⟨cs, hcs⟩ := R_owntyped ho2 q hq; exact ⟨cs, _, hcs, by decide, by decide, by decide, by decide⟩)
          have hm3 : Mod (DecS p g) w w3 := (hmr.trans mn).grown hg3 (fun q hq => R_ownge ho2 q hq)
          clear hat3 hb3 hg3
          go_wp2
          go_roundg j
          case measure => omega
          case rel => exact ⟨k + 1, out ++ [(rdListDone dk).1], (rdListDone dk).2, A', c', by go_num, by simp, Lib.hid (by have := hok.out; simp [this]), by omega, Lib.hid (by have := hgk.out; omega), ho3, hc3, hm3, hstep, fun _ => hn16⟩
        · have he' : (dk.e == 0) = false := by simp [he]
          have hend : Hid (rdList rdListDone d = (out, dk)) := Lib.hid (by rw [← heq.out]; exact rdGo_stop rdListDone gk out dk he)
          clear he heq
          go_wp2
          go_ret
          rw [hend.out]
          exact ⟨A, c, rfl, ho, hcr, hmr⟩
      · have hlt' : decide ((k : Int) < d.i32.1) = false := by simpa using hlt
        have hend : Hid (rdList rdListDone d = (out, dk)) := Lib.hid (by
          rw [← heq.out]
          have := hgk.out
          rw [show gk = 0 from by omega]
          rfl)
        clear heq
        go_wp2
        go_ret
        rw [hend.out]
        exact ⟨A, c, rfl, ho, hcr, hmr⟩

end Go.Proofs.YteckmgmcfngddaaGreat
end

section
/- The reader of a part: ListGone. -/
set_option linter.unusedVariables false
set_option linter.unusedSimpArgs false
namespace Go.Proofs.YteckmgmcfngddaaGreat
open Go.RowKit Go.Proofs.YteckmgmcfngddaaGreatW.PrintWords

def rdListGone (d : DS) : ListGone × DS :=
  let r0 := d.str
  let r1 := (rdList rdListDone r0.2)
  (⟨r0.1, r1.1⟩, r1.2)

set_option maxRecDepth 100000 in
set_option maxHeartbeats 6400000 in
theorem cl_ListGone (w : World) (p g bx : Nat) (rv : Value) (d : DS) (h : Cl w p g bx rv d) :
    Calls Tryz.prog 108 #[.pointer (some ⟨bx, 0, none⟩)] w (ClPostM kListGone p g bx rv (rdListGone d).1 (rdListGone d).2 w) := by
  have hmf : ∀ (fn : Fn) (first cap : Array Value) (w : World), (Instr.makeFunc fn first cap).run Tryz.prog w = .ok (.func fn first cap) w := fun _ _ _ _ => rfl
  go_enter Tryz.func108, Tryz.ntmps108
  go_wp2_with (first | ((with_reducible refine gate_dst (N := 1) rfl ?_); refine box_event ?hg (N := 1) ?hd (cs := #[.string ⟨#[]⟩, .slice none 0 0]) (t := 192) ?hr ?_; (case hd => rfl); (case hg => rfl); (case hr => first | (go_simp; done) | (go_simp; rfl)); intro gb hgb w0 kgb bgb; have hc0 := h.below bgb; have hm0 : Mod (DecS p g) w w0 := Mod.of_below bgb; have hg0 : Hid (w0.heap[gb]? = some (.cells #[.string ⟨#[]⟩, .slice none 0 0] 192 (0, 0))) := kgb; have hc := h.below bgb; have hbx := blk_ne hc.box kgb (by decide); have hngb : Hid (¬ DecS p g gb) := h.new (Nat.le_of_eq hgb.symm); have hsgb : Hid (w.heap.size ≤ gb) := Nat.le_of_eq hgb.symm; have hg : Hid (w0.heap[gb]? = some (.cells #[.string ⟨#[]⟩, .slice none 0 0] 192 (0, 0))) := kgb; have hm : Mod (DecS p g) w w0 := (Mod.of_below bgb); have cx := hc.cell; clear hgb kgb bgb))
  refine (cl_str w0 p g bx rv d hc).mono ?_
  rintro e w1 ⟨rfl, hc2, mn⟩
  have hg := hid_mod hg mn hngb
  have hm := hm.trans mn
  have hc := hc2
  have cx := hc.cell
  clear hc2 mn
  go_wp2_with (first | ((with_reducible refine gate_dst (N := 2) rfl ?_); refine box_event ?hg (N := 2) ?hd (cs := #[.string ⟨#[]⟩, .slice none 0 0]) (t := 192) ?hr ?_; (case hd => rfl); (case hg => rfl); (case hr => first | (go_simp; done) | (go_simp; rfl)); intro gt hgt wt kgt bgt; have hc := hc.below bgt; have hbt := blk_ne hc.box kgt (by decide); have hst : Hid (w.heap.size ≤ gt) := Nat.le_trans hm.size (Nat.le_of_eq hgt.symm); have hgt2 : Hid (gb ≠ gt) := Nat.ne_of_lt (Nat.lt_of_lt_of_le (blk_lt hg.out) (Nat.le_of_eq hgt.symm)); have hnt : Hid (¬ DecS p g gt) := h.new hst.out; have hg := hid_mod hg (Mod.of_below (S := fun _ => False) bgt) (Lib.hid id); have hm := hm.trans (Mod.of_below bgt); have ht : Hid (wt.heap[gt]? = some (.cells #[.string ⟨#[]⟩, .slice none 0 0] 192 (0, 0))) := kgt; clear kgt hgt bgt; have ft := fun i => blk_frozen ht.out i; have t0 : wt.cell? ⟨gt, 0, none⟩ = _ := blk_cell ht.out 0; have t1 : wt.cell? ⟨gt, 1, none⟩ = _ := blk_cell ht.out 1; simp at t0 t1; have cx : ((wt.setCell ⟨gt, 0, none⟩ (.string (d.str.1))).setCell ⟨gt, 1, none⟩ (.slice none 0 0)).cell? ⟨bx, 0, none⟩ = some (.pointer (some ⟨p, 0, none⟩)) := (cell_far hbt).trans ((cell_far hbt).trans (hc.cell))))
  have hc1 : Cl (((wt.setCell ⟨gt, 0, none⟩ (.string (d.str.1))).setCell ⟨gt, 1, none⟩ (.slice none 0 0))) p g bx rv d.str.2 := ((hc.far ht.out (by decide) (by decide) (by decide) (by decide) 0 _).far (hid_set ht 0 _).out (by decide) (by decide) (by decide) (by decide) 1 _)
  have hg1 : Hid ((((wt.setCell ⟨gt, 0, none⟩ (.string (d.str.1))).setCell ⟨gt, 1, none⟩ (.slice none 0 0))).heap[gb]? = some (.cells #[.string ⟨#[]⟩, .slice none 0 0] 192 (0, 0))) := (hid_far (hid_far hg hgt2) hgt2)
  have ht1 : Hid ((((wt.setCell ⟨gt, 0, none⟩ (.string (d.str.1))).setCell ⟨gt, 1, none⟩ (.slice none 0 0))).heap[gt]? = some (.cells #[.string (d.str.1), .slice none 0 0] 192 (0, 0))) := hid_cast (hid_set (hid_set ht 0 _) 1 _) rfl
  have hm1 : Mod (DecS p g) w (((wt.setCell ⟨gt, 0, none⟩ (.string (d.str.1))).setCell ⟨gt, 1, none⟩ (.slice none 0 0))) := (modFar (modFar hm hst 0 _) hst 1 _)
  generalize ((wt.setCell ⟨gt, 0, none⟩ (.string (d.str.1))).setCell ⟨gt, 1, none⟩ (.slice none 0 0)) = wc at *
  replace hc := hc1
  replace hg := hg1
  replace ht := ht1
  replace hm := hm1
  clear hc1 hg1 ht1 hm1
  go_wp2_with fail
  have hbparts : Hid (w.heap.size ≤ wc.heap.size) := hm.size
  refine (cl_list_ListDone wc p g bx rv d.str.2 hc).mono ?_
  rintro e wparts_0 ⟨Aparts, cparts, rfl, rparts, hc2, mn⟩
  replace hg := hid_mod hg mn hngb
  replace ht := hid_mod ht mn hnt
  replace hm := hm.trans mn
  replace hc := hc2
  have cx := hc.cell
  clear hc2 mn
  have ft := fun i => blk_frozen ht.out i
  have t1 : wparts_0.cell? ⟨gt, 1, none⟩ = _ := blk_cell ht.out 1
  simp at t1
  have cx1 : (wparts_0.setCell ⟨gt, 1, none⟩ (.slice Aparts (rdList rdListDone d.str.2).1.length cparts)).cell? ⟨bx, 0, none⟩ = some (.pointer (some ⟨p, 0, none⟩)) := (cell_far hbt).trans (hc.cell)
  have hc1 : Cl (wparts_0.setCell ⟨gt, 1, none⟩ (.slice Aparts (rdList rdListDone d.str.2).1.length cparts)) p g bx rv ((rdList rdListDone d.str.2).2) := (hc.far ht.out (by decide) (by decide) (by decide) (by decide) 1 _)
  have hg1 : Hid ((wparts_0.setCell ⟨gt, 1, none⟩ (.slice Aparts (rdList rdListDone d.str.2).1.length cparts)).heap[gb]? = some (.cells #[.string ⟨#[]⟩, .slice none 0 0] 192 (0, 0))) := (hid_far hg hgt2)
  have ht1 : Hid ((wparts_0.setCell ⟨gt, 1, none⟩ (.slice Aparts (rdList rdListDone d.str.2).1.length cparts)).heap[gt]? = some (.cells #[.string (d.str.1), .slice Aparts (rdList rdListDone d.str.2).1.length cparts] 192 (0, 0))) := hid_cast (hid_set ht 1 (.slice Aparts (rdList rdListDone d.str.2).1.length cparts)) rfl
  have hm1 : Mod (DecS p g) w (wparts_0.setCell ⟨gt, 1, none⟩ (.slice Aparts (rdList rdListDone d.str.2).1.length cparts)) := (modFar hm hst 1 _)
  have rparts1 := (Kd.R_set rparts ht.out (by decide) 1 (.slice Aparts (rdList rdListDone d.str.2).1.length cparts))
  replace hc := hc1
  replace hg := hg1
  replace ht := ht1
  replace hm := hm1
  replace rparts := rparts1
  clear hc1 hg1 ht1 hm1 rparts1
  have fg := fun i => blk_frozen hg.out i
  have t0 : (wparts_0.setCell ⟨gt, 1, none⟩ (.slice Aparts (rdList rdListDone d.str.2).1.length cparts)).cell? ⟨gt, 0, none⟩ = _ := blk_cell ht.out 0
  have z0 : (wparts_0.setCell ⟨gt, 1, none⟩ (.slice Aparts (rdList rdListDone d.str.2).1.length cparts)).cell? ⟨gb, 0, none⟩ = _ := blk_cell hg.out 0
  have t1 : (wparts_0.setCell ⟨gt, 1, none⟩ (.slice Aparts (rdList rdListDone d.str.2).1.length cparts)).cell? ⟨gt, 1, none⟩ = _ := blk_cell ht.out 1
  have z1 : (wparts_0.setCell ⟨gt, 1, none⟩ (.slice Aparts (rdList rdListDone d.str.2).1.length cparts)).cell? ⟨gb, 1, none⟩ = _ := blk_cell hg.out 1
  simp at t0 z0 t1 z1
  go_wp2
  have erd : rdListGone d = (⟨d.str.1, (rdList rdListDone d.str.2).1⟩, (rdList rdListDone d.str.2).2) := by simp only [rdListGone, Bool.false_eq_true, if_true, if_false]
  rw [erd]
  refine bodyPost_ret (v := .agg #[.string (d.str.1), .slice Aparts (rdList rdListDone d.str.2).1.length cparts]) (by simp [results, Tryz.results108, go_sem, z0, z1]) rfl ⟨[.string (d.str.1), .slice Aparts (rdList rdListDone d.str.2).1.length cparts], rfl, ?_, ?_, ?_⟩
  · exact kListGone_mkM _ _ _ (⟨d.str.1, (rdList rdListDone d.str.2).1⟩ : ListGone) (Kd.R_lower (Kd.R_set (Kd.R_set rparts hg.out (by decide) 0 _) (hid_set hg 0 _).out (by decide) 1 _) hbparts.out)
  · exact ((hc.far hg.out (by decide) (by decide) (by decide) (by decide) 0 _).far (hid_set hg 0 _).out (by decide) (by decide) (by decide) (by decide) 1 _)
  · exact (modFar (modFar hm hsgb 0 _) hsgb 1 _)

end Go.Proofs.YteckmgmcfngddaaGreat
end

section
/- A list of parts: ListGone. -/
set_option linter.unusedVariables false
set_option linter.unusedSimpArgs false
namespace Go.Proofs.YteckmgmcfngddaaGreat
open Go.RowKit Go.Proofs.YteckmgmcfngddaaGreatW.PrintWords

theorem info_ListGone : (Tryz.prog.info? 192).map (fun i => (i.zero, i.size, i.bytes)) = some (some (.agg #[.string ⟨#[]⟩, .slice none 0 0]), 2, 40) := by kernel_rfl
set_option maxRecDepth 100000 in
set_option maxHeartbeats 6400000 in
theorem cl_list_ListGone (w : World) (p g bx : Nat) (rv : Value) (d : DS) (h : Cl w p g bx rv d) :
    Calls Tryz.prog 107 #[.pointer (some ⟨p, 0, none⟩), .func (.func 108) #[] #[.pointer (some ⟨bx, 0, none⟩)]] w (ClPostR kListGone 192 p g bx rv (rdList rdListGone d).1 (rdList rdListGone d).2 w) := by
  obtain ⟨r0, r1⟩ := d.i32_range
  go_enter Tryz.func107, Tryz.ntmps107
  go_wp2_with fail
  refine (cl_i32 w p g bx rv d h).mono ?_
  rintro e w1 ⟨rfl, h1, m1⟩
  obtain ⟨q, hbk⟩ := h1.dec.blk
  have c2 : w1.cell? ⟨p, 2, none⟩ = _ := blk_cell hbk 2
  have f2 := blk_frozen hbk 2
  simp at c2
  clear hbk
  go_upto_block 0 with fail
  go_cut [10] (fun v10 wx => Cl wx p g bx rv (rdHead d) ∧ Mod (DecS p g) w wx)
  case first =>
    by_cases he : d.i32.2.e = 0
    · have he' : (d.i32.2.e != 0) = false := by simp [he]
      by_cases h0 : d.i32.1 < 0
      · have h0' : decide (d.i32.1 < 0) = true := by simpa using h0
        have hh := Lib.hid (rdHead_neg he h0)
        clear he
        go_wp2
        go_meet
        rw [hh.out]
        exact ⟨h1.failed 5 (by decide), m1.trans (mod_dec' p g 0 _)⟩
      · have h0' : decide (d.i32.1 < 0) = false := by simpa using h0
        by_cases h2 : d.i32.1 > 16
        · have h2' : decide (d.i32.1 > 16) = true := by simpa using h2
          have hh := Lib.hid (rdHead_big he h0 h2)
          clear he
          go_wp2
          go_meet
          rw [hh.out]
          exact ⟨h1.failed 9 (by decide), m1.trans (mod_dec' p g 0 _)⟩
        · have h2' : decide (d.i32.1 > 16) = false := by simpa using h2
          have hh := Lib.hid (rdHead_ok he h0 h2)
          clear he
          go_wp2
          go_meet
          rw [hh.out]
          exact ⟨h1, m1⟩
    · have he' : (d.i32.2.e != 0) = true := by simp [he]
      have hh := Lib.hid (rdHead_err he)
      clear he
      go_wp2
      go_meet
      rw [hh.out]
      exact ⟨h1, m1⟩
  case rest =>
    obtain ⟨hc, hm⟩ := hcut
    clear c2 f2 h1 m1
    go_wp2_with fail
    go_loopg [6, 7] (d.i32.1.toNat) (fun gk v6 v7 wr => ∃ (k : Nat) (out : List ListGone) (dk : DS) (A : Option Addr) (c : Nat), v7 = .int .i32 k ∧ v6 = .slice A out.length c ∧ Hid (out.length = k) ∧ k + gk ≤ 2147483647 ∧ Hid (gk + k = d.i32.1.toNat) ∧ kListGone.R 192 wr w.heap.size (fun _ => True) (.slice A out.length c) out ∧ Cl wr p g bx rv dk ∧ Mod (DecS p g) w wr ∧ Hid (rdGo rdListGone gk out dk = rdList rdListGone d) ∧ Hid (dk.e = 0 → d.i32.1 ≤ 16))
    case atStart => exact ⟨0, [], rdHead d, none, 0, rfl, rfl, rfl, by omega, by simp [Hid], Kd.R_nil _ _ _ _ _, hc, hm, rfl, rdHead_le d⟩
    case round =>
      obtain ⟨k, out, dk, A, c, rfl, rfl, hok, hk2, hgk, ho, hcr, hmr, heq, hle⟩ := hrel
      clear hc hm
      obtain ⟨q, hbk⟩ := hcr.dec.blk
      have c2 : wr.cell? ⟨p, 2, none⟩ = _ := blk_cell hbk 2
      simp at c2
      clear hbk
      by_cases hlt : (k : Int) < d.i32.1
      · have hlt' : decide ((k : Int) < d.i32.1) = true := by simpa using hlt
        by_cases he : dk.e = 0
        · have he' : (dk.e == 0) = true := by simp [he]
          have hn16 := hle.out he
          obtain ⟨j, rfl⟩ : ∃ j, gk = j + 1 := ⟨gk - 1, by have := hgk.out; omega⟩
          have hstep : Hid (rdGo rdListGone j (out ++ [(rdListGone dk).1]) (rdListGone dk).2 = rdList rdListGone d) := Lib.hid (by rw [← heq.out]; exact (rdGo_step rdListGone j out dk he).symm)
          clear he heq
          go_wp2_with fail
          refine (cl_ListGone wr p g bx rv dk hcr).mono ?_
          rintro e w2 ⟨cs, rfl, kv, hc2, mn⟩
          obtain ⟨A0, c0, rfl, g0⟩ := kListGone_openM kv
          have ho2 := R_mod ho mn (fun q hq => h.new hq)
          have hlen : (out.length + 1) * 40 ≤ 140737488355328 := by have := hok.out; omega
          have HLEN := Lib.hid hlen
          clear hlen
          go_wp2_with (at_builtin; refine Kd.R_append kListGone (w0 := w2) w.heap.size rfl (.tmp 40) (.tmp 43) 60 192 (.agg #[.string ⟨#[]⟩, .slice none 0 0]) 40 rfl Tryz.underlying60 info_ListGone rfl (by decide) (by decide) _ out (rdListGone dk).1 [.string (rdListGone dk).1.name, .slice A0 (rdListGone dk).1.parts.length c0] (fun _ => True) (fun q => some q ≠ (Value.slice A out.length c).ownBlock) rfl rfl (M_fresh kv ho (Nat.le_refl _) hmr.size) (fun q hq => ⟨trivial, hq⟩) (fun _ _ => trivial) ho2 (Below.refl _ _) (Nat.le_trans hmr.size mn.size) HLEN.out ?_; intro v1 w3 ho3 hb3 hg3 hat3)
          obtain ⟨A', c', rfl⟩ := Kd.R_slice ho3
          have hc3 : Cl w3 p g bx rv (rdListGone dk).2 := hc2.grown hg3 (fun q hq => by obtain ⟨cs, hcs⟩ := R_owntyped ho2 q hq; exact ⟨cs, _, hcs, by decide, by decide, by decide, by decide⟩)
          have hm3 : Mod (DecS p g) w w3 := (hmr.trans mn).grown hg3 (fun q hq => R_ownge ho2 q hq)
          clear hat3 hb3 hg3
          go_wp2
          go_roundg j
          case measure => omega
          case rel => exact ⟨k + 1, out ++ [(rdListGone dk).1], (rdListGone dk).2, A', c', by go_num, by simp, Lib.hid (by have := hok.out; simp [this]), by omega, Lib.hid (by have := hgk.out; omega), ho3, hc3, hm3, hstep, fun _ => hn16⟩
        · have he' : (dk.e == 0) = false := by simp [he]
          have hend : Hid (rdList rdListGone d = (out, dk)) := Lib.hid (by rw [← heq.out]; exact rdGo_stop rdListGone gk out dk he)
          clear he heq
          go_wp2
          go_ret
          rw [hend.out]
          exact ⟨A, c, rfl, ho, hcr, hmr⟩
      · have hlt' : decide ((k : Int) < d.i32.1) = false := by simpa using hlt
        have hend : Hid (rdList rdListGone d = (out, dk)) := Lib.hid (by
          rw [← heq.out]
          have := hgk.out
          rw [show gk = 0 from by omega]
          rfl)
        clear heq
        go_wp2
        go_ret
        rw [hend.out]
        exact ⟨A, c, rfl, ho, hcr, hmr⟩

end Go.Proofs.YteckmgmcfngddaaGreat
end

section
/- The message ListRep read. -/
set_option linter.unusedVariables false
set_option linter.unusedSimpArgs false
namespace Go.Proofs.YteckmgmcfngddaaGreat
open Go.RowKit Go.Proofs.YteckmgmcfngddaaGreatW.PrintWords

def rdListRep (d : DS) : ListRep × DS :=
  let r0 := if d.has 2 3 = true then d.i32 else (0, d)
  let r1 := (rdList rdListGone r0.2)
  (⟨r0.1, r1.1⟩, r1.2)

set_option maxRecDepth 100000 in
set_option maxHeartbeats 6400000 in
theorem dec_ListRep (w : World) (v : Int) (A : Option Addr) (c : Nat) (xs : List Int) (hr : ReadsInt w .u8 A xs.length xs) (hl : xs.length ≤ 140737488355328) :
    Calls Tryz.prog 24 #[.int .i64 v, .slice A xs.length c] w (DecPost kListRep (decFin (⟨0, []⟩ : ListRep) (rdListRep (DS.new v xs))) w) := by
  have hmf : ∀ (fn : Fn) (first cap : Array Value) (w : World), (Instr.makeFunc fn first cap).run Tryz.prog w = .ok (.func fn first cap) w := fun _ _ _ _ => rfl
  have HR := Lib.hid hr
  clear hr
  go_enter Tryz.func24, Tryz.ntmps24
  go_wp2_with (first | ((with_reducible refine gate_dst (N := 4) rfl ?_); refine box_event ?hg (N := 4) ?hd (cs := #[.int .i32 0, .slice none 0 0]) (t := 62) ?hr ?_; (case hd => rfl); (case hg => rfl); (case hr => first | (go_simp; done) | (go_simp; rfl)); intro gb hgb wg kgb bgb; have hgg : Hid (wg.heap[gb]? = some (.cells #[.int .i32 0, .slice none 0 0] 62 (0, 0))) := kgb; have hsgb : Hid (w.heap.size ≤ gb) := Nat.le_of_eq hgb.symm; clear kgb hgb))
  refine (newDec wg v A c xs (HR.out.below bgb) hl).mono ?_
  rintro e wn ⟨p, g, rv, rfl, hd0, hpw, hgw, bn⟩
  have hlb : (DS.new v xs).b.length ≤ 140737488355328 := hl
  generalize DS.new v xs = d at *
  have hgn := hid_mod hgg (Mod.of_below (S := fun _ => False) bn) (Lib.hid id)
  have hgbw := blk_lt hgg.out
  have hngb : Hid (¬ DecS p g gb) := fun hs => by rcases hs with rfl | rfl <;> omega
  have hbn : Below w.heap.size w wn := bgb.trans (bn.mono bgb.size)
  go_wp2_with (first
    | ((with_reducible refine gate_dst (N := 6) rfl ?_); refine box_event ?hg (N := 6) ?hd (cs := #[.pointer none]) (t := 113) ?hr ?_; (case hd => rfl); (case hg => rfl); (case hr => first | (go_simp; done) | (go_simp; rfl)); intro bx hbx wx kbx bbx; have hd1 := hd0.below bbx; have hnx : ¬ DecS p g bx := hd0.new (Nat.le_of_eq hbx.symm); have hgx := hid_mod hgn (Mod.of_below (S := fun _ => False) bbx) (Lib.hid id); have hgbx : Hid (gb ≠ bx) := Nat.ne_of_lt (Nat.lt_of_lt_of_le (blk_lt hgn.out) (Nat.le_of_eq hbx.symm)); have hcb : Cl (wx.setCell ⟨bx, 0, none⟩ (.pointer (some ⟨p, 0, none⟩))) p g bx rv d := ⟨hd1.far kbx (by decide) (by decide) (by decide) 0 _, by simpa using blk_set kbx 0 (.pointer (some ⟨p, 0, none⟩)), fun e => hnx (.inl e), fun e => hnx (.inr e), hlb⟩; have hgB : Hid ((wx.setCell ⟨bx, 0, none⟩ (.pointer (some ⟨p, 0, none⟩))).heap[gb]? = some (.cells #[.int .i32 0, .slice none 0 0] 62 (0, 0))) := hid_far hgx hgbx; have hbw : Below w.heap.size w (wx.setCell ⟨bx, 0, none⟩ (.pointer (some ⟨p, 0, none⟩))) := (hbn.trans (bbx.mono hbn.size)).setCell (p := ⟨bx, 0, none⟩) (Nat.le_trans hbn.size (Nat.le_of_eq hbx.symm)) _; have hbxgb : bx ≠ gb := fun e => hgbx.out e.symm; have fx := fun i => blk_frozen kbx i; have x0 : wx.cell? ⟨bx, 0, none⟩ = _ := blk_cell kbx 0; simp at x0; have cx : (wx.setCell ⟨bx, 0, none⟩ (.pointer (some ⟨p, 0, none⟩))).cell? ⟨bx, 0, none⟩ = some (.pointer (some ⟨p, 0, none⟩)) := hcb.cell; clear kbx hbx)
    | ((with_reducible refine gate_dst (N := 7) rfl ?_); refine box_event ?hg (N := 7) ?hd (cs := #[.int .i32 0, .slice none 0 0]) (t := 62) ?hr ?_; (case hd => rfl); (case hg => rfl); (case hr => first | (go_simp; done) | (go_simp; rfl)); intro gt hgt wt kgt bgt; have hc := hcb.below bgt; have hbt := blk_ne hc.box kgt (by decide); have hst : Hid ((wx.setCell ⟨bx, 0, none⟩ (.pointer (some ⟨p, 0, none⟩))).heap.size ≤ gt) := Nat.le_of_eq hgt.symm; have hgt2 : Hid (gb ≠ gt) := Nat.ne_of_lt (Nat.lt_of_lt_of_le (blk_lt hgB.out) (Nat.le_of_eq hgt.symm)); have hnt : Hid (¬ DecS p g gt) := hcb.new hst.out; have hg := hid_mod hgB (Mod.of_below (S := fun _ => False) bgt) (Lib.hid id); have hm : Mod (DecS p g) (wx.setCell ⟨bx, 0, none⟩ (.pointer (some ⟨p, 0, none⟩))) wt := Mod.of_below bgt; have ht : Hid (wt.heap[gt]? = some (.cells #[.int .i32 0, .slice none 0 0] 62 (0, 0))) := kgt; have cx := hc.cell; clear kgt hgt bgt))
  generalize (wx.setCell ⟨bx, 0, none⟩ (.pointer (some ⟨p, 0, none⟩))) = wb at *
  have h := hcb
  go_wp2_with fail
  refine (cl_has wt p g bx rv d 2 3 hc).mono ?_
  rintro e wh0 ⟨rfl, hc2, mn⟩
  replace hg := hid_mod hg mn hngb
  replace ht := hid_mod ht mn hnt
  replace hm := hm.trans mn
  replace hc := hc2
  have cx := hc.cell
  clear hc2 mn
  cases hh0 : d.has 2 3
  · -- no
    go_wp2_with fail
    have hbtopics : Hid (wb.heap.size ≤ wh0.heap.size) := hm.size
    refine (cl_list_ListGone wh0 p g bx rv d hc).mono ?_
    rintro e wtopics_1 ⟨Atopics, ctopics, rfl, rtopics, hc2, mn⟩
    replace hg := hid_mod hg mn hngb
    replace ht := hid_mod ht mn hnt
    replace hm := hm.trans mn
    replace hc := hc2
    have cx := hc.cell
    clear hc2 mn
    have ft := fun i => blk_frozen ht.out i
    have t1 : wtopics_1.cell? ⟨gt, 1, none⟩ = _ := blk_cell ht.out 1
    simp at t1
    have cx1 : (wtopics_1.setCell ⟨gt, 1, none⟩ (.slice Atopics (rdList rdListGone d).1.length ctopics)).cell? ⟨bx, 0, none⟩ = some (.pointer (some ⟨p, 0, none⟩)) := (cell_far hbt).trans (hc.cell)
    have hc1 : Cl (wtopics_1.setCell ⟨gt, 1, none⟩ (.slice Atopics (rdList rdListGone d).1.length ctopics)) p g bx rv ((rdList rdListGone d).2) := (hc.far ht.out (by decide) (by decide) (by decide) (by decide) 1 _)
    have hg1 : Hid ((wtopics_1.setCell ⟨gt, 1, none⟩ (.slice Atopics (rdList rdListGone d).1.length ctopics)).heap[gb]? = some (.cells #[.int .i32 0, .slice none 0 0] 62 (0, 0))) := (hid_far hg hgt2)
    have ht1 : Hid ((wtopics_1.setCell ⟨gt, 1, none⟩ (.slice Atopics (rdList rdListGone d).1.length ctopics)).heap[gt]? = some (.cells #[.int .i32 0, .slice Atopics (rdList rdListGone d).1.length ctopics] 62 (0, 0))) := hid_cast (hid_set ht 1 (.slice Atopics (rdList rdListGone d).1.length ctopics)) rfl
    have hm1 : Mod (DecS p g) wb (wtopics_1.setCell ⟨gt, 1, none⟩ (.slice Atopics (rdList rdListGone d).1.length ctopics)) := (modFar hm hst 1 _)
    have rtopics1 := (Kd.R_set rtopics ht.out (by decide) 1 (.slice Atopics (rdList rdListGone d).1.length ctopics))
    replace hc := hc1
    replace hg := hg1
    replace ht := ht1
    replace hm := hm1
    replace rtopics := rtopics1
    clear hc1 hg1 ht1 hm1 rtopics1
    go_wp2_with fail
    refine (cl_end (wtopics_1.setCell ⟨gt, 1, none⟩ (.slice Atopics (rdList rdListGone d).1.length ctopics)) p g bx rv ((rdList rdListGone d).2) hc).mono ?_
    rintro e we ⟨rfl, mn⟩
    replace hg := hid_mod hg mn hngb
    replace ht := hid_mod ht mn hnt
    replace hm := hm.trans mn
    replace rtopics := R_mod rtopics mn (fun k hk => h.new (Nat.le_trans hbtopics.out hk))
    have fg := fun i => blk_frozen hg.out i
    have t0 : we.cell? ⟨gt, 0, none⟩ = _ := blk_cell ht.out 0
    have z0 : we.cell? ⟨gb, 0, none⟩ = _ := blk_cell hg.out 0
    have t1 : we.cell? ⟨gt, 1, none⟩ = _ := blk_cell ht.out 1
    have z1 : we.cell? ⟨gb, 1, none⟩ = _ := blk_cell hg.out 1
    simp at t0 z0 t1 z1
    have erd : rdListRep d = (⟨0, (rdList rdListGone d).1⟩, (rdList rdListGone d).2) := by simp only [rdListRep, hh0, Bool.false_eq_true, if_true, if_false]
    have hbe : Below w.heap.size w we := Below.mod hbw hbw.size hm (fun i hi hs => by have := bgb.size; rcases hs with rfl | rfl <;> omega)
    by_cases hfin : ((rdList rdListGone d).2).fin = 0
    · have hf1 : (((rdList rdListGone d).2).fin != 0) = false := by simp [hfin]
      have edc : Hid (decFin (⟨0, []⟩ : ListRep) (rdListRep d) = (⟨0, (rdList rdListGone d).1⟩, 0)) := Lib.hid (by rw [erd]; exact decFin_ok hfin)
      clear hfin erd
      go_wp2
      refine bodyPost_ret (v := .tuple #[.agg #[.int .i32 0, .slice Atopics (rdList rdListGone d).1.length ctopics], .int .i64 (0)]) (by simp [results, Tryz.results24, go_sem, z0, z1]) rfl ?_
      rw [edc.out]
      exact ⟨[.int .i32 0, .slice Atopics (rdList rdListGone d).1.length ctopics], rfl, kListRep_mkM _ _ _ (⟨0, (rdList rdListGone d).1⟩ : ListRep) (Kd.R_lower (Kd.R_set (Kd.R_set rtopics hg.out (by decide) 0 _) (hid_set hg 0 _).out (by decide) 1 _) (Nat.le_trans hbw.size hbtopics.out)), (Below.setCell (Below.setCell hbe (p := ⟨gb, 0, none⟩) hsgb.out _) (p := ⟨gb, 1, none⟩) hsgb.out _)⟩
    · have hf1 : (((rdList rdListGone d).2).fin != 0) = true := by simp [hfin]
      have edc : Hid (decFin (⟨0, []⟩ : ListRep) (rdListRep d) = (⟨0, []⟩, ((rdList rdListGone d).2).fin)) := Lib.hid (by rw [erd]; exact decFin_bad hfin)
      clear hfin erd
      go_wp2
      refine bodyPost_ret (v := .tuple #[.agg #[.int .i32 0, .slice none 0 0], .int .i64 (((rdList rdListGone d).2).fin)]) (by simp [results, Tryz.results24, go_sem, z0, z1]) rfl ?_
      rw [edc.out]
      exact ⟨[.int .i32 0, .slice none 0 0], rfl, kListRep_mkM _ _ _ (⟨0, []⟩ : ListRep) (Kd.R_nil _ _ _ _ _), (Below.setCell (Below.setCell hbe (p := ⟨gb, 0, none⟩) hsgb.out _) (p := ⟨gb, 1, none⟩) hsgb.out _)⟩
  · -- yes
    go_wp2_with fail
    refine (cl_i32 wh0 p g bx rv d hc).mono ?_
    rintro e wthrottle_0 ⟨rfl, hc2, mn⟩
    replace hg := hid_mod hg mn hngb
    replace ht := hid_mod ht mn hnt
    replace hm := hm.trans mn
    replace hc := hc2
    have cx := hc.cell
    clear hc2 mn
    have ft := fun i => blk_frozen ht.out i
    have t0 : wthrottle_0.cell? ⟨gt, 0, none⟩ = _ := blk_cell ht.out 0
    simp at t0
    have cx1 : (wthrottle_0.setCell ⟨gt, 0, none⟩ (.int .i32 (d.i32.1))).cell? ⟨bx, 0, none⟩ = some (.pointer (some ⟨p, 0, none⟩)) := (cell_far hbt).trans (hc.cell)
    have hc1 : Cl (wthrottle_0.setCell ⟨gt, 0, none⟩ (.int .i32 (d.i32.1))) p g bx rv d.i32.2 := (hc.far ht.out (by decide) (by decide) (by decide) (by decide) 0 _)
    have hg1 : Hid ((wthrottle_0.setCell ⟨gt, 0, none⟩ (.int .i32 (d.i32.1))).heap[gb]? = some (.cells #[.int .i32 0, .slice none 0 0] 62 (0, 0))) := (hid_far hg hgt2)
    have ht1 : Hid ((wthrottle_0.setCell ⟨gt, 0, none⟩ (.int .i32 (d.i32.1))).heap[gt]? = some (.cells #[.int .i32 (d.i32.1), .slice none 0 0] 62 (0, 0))) := hid_cast (hid_set ht 0 (.int .i32 (d.i32.1))) rfl
    have hm1 : Mod (DecS p g) wb (wthrottle_0.setCell ⟨gt, 0, none⟩ (.int .i32 (d.i32.1))) := (modFar hm hst 0 _)
    replace hc := hc1
    replace hg := hg1
    replace ht := ht1
    replace hm := hm1
    clear hc1 hg1 ht1 hm1
    go_wp2_with fail
    have hbtopics : Hid (wb.heap.size ≤ (wthrottle_0.setCell ⟨gt, 0, none⟩ (.int .i32 (d.i32.1))).heap.size) := hm.size
    refine (cl_list_ListGone (wthrottle_0.setCell ⟨gt, 0, none⟩ (.int .i32 (d.i32.1))) p g bx rv d.i32.2 hc).mono ?_
    rintro e wtopics_1 ⟨Atopics, ctopics, rfl, rtopics, hc2, mn⟩
    replace hg := hid_mod hg mn hngb
    replace ht := hid_mod ht mn hnt
    replace hm := hm.trans mn
    replace hc := hc2
    have cx := hc.cell
    clear hc2 mn
    have ft := fun i => blk_frozen ht.out i
    have t1 : wtopics_1.cell? ⟨gt, 1, none⟩ = _ := blk_cell ht.out 1
    simp at t1
    have cx1 : (wtopics_1.setCell ⟨gt, 1, none⟩ (.slice Atopics (rdList rdListGone d.i32.2).1.length ctopics)).cell? ⟨bx, 0, none⟩ = some (.pointer (some ⟨p, 0, none⟩)) := (cell_far hbt).trans (hc.cell)
    have hc1 : Cl (wtopics_1.setCell ⟨gt, 1, none⟩ (.slice Atopics (rdList rdListGone d.i32.2).1.length ctopics)) p g bx rv ((rdList rdListGone d.i32.2).2) := (hc.far ht.out (by decide) (by decide) (by decide) (by decide) 1 _)
    have hg1 : Hid ((wtopics_1.setCell ⟨gt, 1, none⟩ (.slice Atopics (rdList rdListGone d.i32.2).1.length ctopics)).heap[gb]? = some (.cells #[.int .i32 0, .slice none 0 0] 62 (0, 0))) := (hid_far hg hgt2)
    have ht1 : Hid ((wtopics_1.setCell ⟨gt, 1, none⟩ (.slice Atopics (rdList rdListGone d.i32.2).1.length ctopics)).heap[gt]? = some (.cells #[.int .i32 (d.i32.1), .slice Atopics (rdList rdListGone d.i32.2).1.length ctopics] 62 (0, 0))) := hid_cast (hid_set ht 1 (.slice Atopics (rdList rdListGone d.i32.2).1.length ctopics)) rfl
    have hm1 : Mod (DecS p g) wb (wtopics_1.setCell ⟨gt, 1, none⟩ (.slice Atopics (rdList rdListGone d.i32.2).1.length ctopics)) := (modFar hm hst 1 _)
    have rtopics1 := (Kd.R_set rtopics ht.out (by decide) 1 (.slice Atopics (rdList rdListGone d.i32.2).1.length ctopics))
    replace hc := hc1
    replace hg := hg1
    replace ht := ht1
    replace hm := hm1
    replace rtopics := rtopics1
    clear hc1 hg1 ht1 hm1 rtopics1
    go_wp2_with fail
    refine (cl_end (wtopics_1.setCell ⟨gt, 1, none⟩ (.slice Atopics (rdList rdListGone d.i32.2).1.length ctopics)) p g bx rv ((rdList rdListGone d.i32.2).2) hc).mono ?_
    rintro e we ⟨rfl, mn⟩
    replace hg := hid_mod hg mn hngb
    replace ht := hid_mod ht mn hnt
    replace hm := hm.trans mn
    replace rtopics := R_mod rtopics mn (fun k hk => h.new (Nat.le_trans hbtopics.out hk))
    have fg := fun i => blk_frozen hg.out i
    have t0 : we.cell? ⟨gt, 0, none⟩ = _ := blk_cell ht.out 0
    have z0 : we.cell? ⟨gb, 0, none⟩ = _ := blk_cell hg.out 0
    have t1 : we.cell? ⟨gt, 1, none⟩ = _ := blk_cell ht.out 1
    have z1 : we.cell? ⟨gb, 1, none⟩ = _ := blk_cell hg.out 1
    simp at t0 z0 t1 z1
    have erd : rdListRep d = (⟨d.i32.1, (rdList rdListGone d.i32.2).1⟩, (rdList rdListGone d.i32.2).2) := by simp only [rdListRep, hh0, Bool.false_eq_true, if_true, if_false]
    have hbe : Below w.heap.size w we := Below.mod hbw hbw.size hm (fun i hi hs => by have := bgb.size; rcases hs with rfl | rfl <;> omega)
    by_cases hfin : ((rdList rdListGone d.i32.2).2).fin = 0
    · have hf1 : (((rdList rdListGone d.i32.2).2).fin != 0) = false := by simp [hfin]
      have edc : Hid (decFin (⟨0, []⟩ : ListRep) (rdListRep d) = (⟨d.i32.1, (rdList rdListGone d.i32.2).1⟩, 0)) := Lib.hid (by rw [erd]; exact decFin_ok hfin)
      clear hfin erd
      go_wp2
      refine bodyPost_ret (v := .tuple #[.agg #[.int .i32 (d.i32.1), .slice Atopics (rdList rdListGone d.i32.2).1.length ctopics], .int .i64 (0)]) (by simp [results, Tryz.results24, go_sem, z0, z1]) rfl ?_
      rw [edc.out]
      exact ⟨[.int .i32 (d.i32.1), .slice Atopics (rdList rdListGone d.i32.2).1.length ctopics], rfl, kListRep_mkM _ _ _ (⟨d.i32.1, (rdList rdListGone d.i32.2).1⟩ : ListRep) (Kd.R_lower (Kd.R_set (Kd.R_set rtopics hg.out (by decide) 0 _) (hid_set hg 0 _).out (by decide) 1 _) (Nat.le_trans hbw.size hbtopics.out)), (Below.setCell (Below.setCell hbe (p := ⟨gb, 0, none⟩) hsgb.out _) (p := ⟨gb, 1, none⟩) hsgb.out _)⟩
    · have hf1 : (((rdList rdListGone d.i32.2).2).fin != 0) = true := by simp [hfin]
      have edc : Hid (decFin (⟨0, []⟩ : ListRep) (rdListRep d) = (⟨0, []⟩, ((rdList rdListGone d.i32.2).2).fin)) := Lib.hid (by rw [erd]; exact decFin_bad hfin)
      clear hfin erd
      go_wp2
      refine bodyPost_ret (v := .tuple #[.agg #[.int .i32 0, .slice none 0 0], .int .i64 (((rdList rdListGone d.i32.2).2).fin)]) (by simp [results, Tryz.results24, go_sem, z0, z1]) rfl ?_
      rw [edc.out]
      exact ⟨[.int .i32 0, .slice none 0 0], rfl, kListRep_mkM _ _ _ (⟨0, []⟩ : ListRep) (Kd.R_nil _ _ _ _ _), (Below.setCell (Below.setCell hbe (p := ⟨gb, 0, none⟩) hsgb.out _) (p := ⟨gb, 1, none⟩) hsgb.out _)⟩

end Go.Proofs.YteckmgmcfngddaaGreat
end

section
/- The layer of calls: DecodeReply. -/
set_option linter.unusedVariables false
set_option linter.unusedSimpArgs false
namespace Go.Proofs.YteckmgmcfngddaaGreat
open Go.RowKit Go.Proofs.YteckmgmcfngddaaGreatW.PrintWords

def zReply : Reply := ⟨0, 0, 0, zProdRep, zFetchRep, zListRep⟩
/-- An answer's cells, its bodies zero. -/
def repHead (key ver corr : Int) : List Value := replyCells ⟨key, ver, corr, zProdRep, zFetchRep, zListRep⟩ none none none 0 0 0
def repProd (ver : Int) (b : List Int) : ProdRep × Int := decFin zProdRep (rdProdRep (DS.new ver b))
def repFetch (ver : Int) (b : List Int) : FetchRep × Int := decFin zFetchRep (rdFetchRep (DS.new ver b))
def repList (ver : Int) (b : List Int) : ListRep × Int := decFin zListRep (rdListRep (DS.new ver b))
def repDecode (key ver : Int) (r : Int × DS) : Reply × Int :=
  if r.2.e ≠ 0 then (zReply, r.2.e)
  else if key = 0 then (if (repProd ver r.2.rest).2 ≠ 0 then (zReply, (repProd ver r.2.rest).2) else (⟨key, ver, r.1, (repProd ver r.2.rest).1, zFetchRep, zListRep⟩, 0))
  else if key = 1 then (if (repFetch ver r.2.rest).2 ≠ 0 then (zReply, (repFetch ver r.2.rest).2) else (⟨key, ver, r.1, zProdRep, (repFetch ver r.2.rest).1, zListRep⟩, 0))
  else (if (repList ver r.2.rest).2 ≠ 0 then (zReply, (repList ver r.2.rest).2) else (⟨key, ver, r.1, zProdRep, zFetchRep, (repList ver r.2.rest).1⟩, 0))
def replyDecode (key ver : Int) (xs : List Int) : Reply × Int := if headF key ver ≠ 0 then (zReply, headF key ver) else repDecode key ver (DS.raw xs).i32
theorem replyDecode_bad {key ver : Int} {xs : List Int} (h : ¬ headF key ver = 0) : replyDecode key ver xs = (zReply, headF key ver) := if_pos h
theorem replyDecode_ok {key ver : Int} {xs : List Int} (h : headF key ver = 0) : replyDecode key ver xs = repDecode key ver (DS.raw xs).i32 := if_neg (by simpa using h)
theorem repDecode_bad {key ver : Int} {r : Int × DS} (h : ¬ r.2.e = 0) : repDecode key ver r = (zReply, r.2.e) := if_pos h
theorem repDecode_prod {key ver : Int} {r : Int × DS} (h : r.2.e = 0) (hk : key = 0) : repDecode key ver r = if (repProd ver r.2.rest).2 ≠ 0 then (zReply, (repProd ver r.2.rest).2) else (⟨key, ver, r.1, (repProd ver r.2.rest).1, zFetchRep, zListRep⟩, 0) := by unfold repDecode; rw [if_neg (by simpa using h), if_pos hk]
theorem repDecode_fetch {key ver : Int} {r : Int × DS} (h : r.2.e = 0) (hk : key = 1) : repDecode key ver r = if (repFetch ver r.2.rest).2 ≠ 0 then (zReply, (repFetch ver r.2.rest).2) else (⟨key, ver, r.1, zProdRep, (repFetch ver r.2.rest).1, zListRep⟩, 0) := by unfold repDecode; rw [if_neg (by simpa using h), if_neg (by omega), if_pos hk]
theorem repDecode_list {key ver : Int} {r : Int × DS} (h : r.2.e = 0) (hk : key = 2) : repDecode key ver r = if (repList ver r.2.rest).2 ≠ 0 then (zReply, (repList ver r.2.rest).2) else (⟨key, ver, r.1, zProdRep, zFetchRep, (repList ver r.2.rest).1⟩, 0) := by unfold repDecode; rw [if_neg (by simpa using h), if_neg (by omega), if_neg (by omega)]
theorem zeroPostR {r : Reply × Int} {w w' : World} {c : Int} {cs : List Value} (hc : Hid (cs = repHead 0 0 0)) (hr : Hid (r = (zReply, c))) (hb : Below w.heap.size w w') : DecPost kReply r w (.returned (.tuple #[.agg cs.toArray, .int .i64 c])) w' := by
  have h1 := hr.out
  have h2 := hc.out
  subst h1 h2
  exact ⟨repHead 0 0 0, rfl, kReply_mkM _ _ _ zReply (Kd.R_nil _ _ _ _ _) (Kd.R_nil _ _ _ _ _) (Kd.R_nil _ _ _ _ _), hb⟩
theorem kReply_prod {w : World} {base : Nat} {ok : Nat → Prop} {k v c : Int} {m : ProdRep} {pc : List Value} (h : kProdRep.M w base ok m pc) : kReply.M w base ok ⟨k, v, c, m, zFetchRep, zListRep⟩ (putL (repHead k v c) 3 pc) := by
  obtain ⟨A0, c0, rfl, g0⟩ := kProdRep_openM h
  exact kReply_mkM w base ok (⟨k, v, c, m, zFetchRep, zListRep⟩ : Reply) g0 (Kd.R_nil _ _ _ _ _) (Kd.R_nil _ _ _ _ _)
theorem kReply_fetch {w : World} {base : Nat} {ok : Nat → Prop} {k v c : Int} {m : FetchRep} {pc : List Value} (h : kFetchRep.M w base ok m pc) : kReply.M w base ok ⟨k, v, c, zProdRep, m, zListRep⟩ (putL (repHead k v c) 5 pc) := by
  obtain ⟨A0, c0, rfl, g0⟩ := kFetchRep_openM h
  exact kReply_mkM w base ok (⟨k, v, c, zProdRep, m, zListRep⟩ : Reply) (Kd.R_nil _ _ _ _ _) g0 (Kd.R_nil _ _ _ _ _)
theorem kReply_list {w : World} {base : Nat} {ok : Nat → Prop} {k v c : Int} {m : ListRep} {pc : List Value} (h : kListRep.M w base ok m pc) : kReply.M w base ok ⟨k, v, c, zProdRep, zFetchRep, m⟩ (putL (repHead k v c) 7 pc) := by
  obtain ⟨A0, c0, rfl, g0⟩ := kListRep_openM h
  exact kReply_mkM w base ok (⟨k, v, c, zProdRep, zFetchRep, m⟩ : Reply) (Kd.R_nil _ _ _ _ _) (Kd.R_nil _ _ _ _ _) g0
theorem info_ProdRep : (Tryz.prog.info? 48).map (·.size) = some 2 := by kernel_rfl
theorem info_FetchRep : (Tryz.prog.info? 74).map (·.size) = some 2 := by kernel_rfl
theorem info_ListRep : (Tryz.prog.info? 62).map (·.size) = some 2 := by kernel_rfl

set_option maxRecDepth 100000 in
set_option maxHeartbeats 12800000 in
theorem ca_decodeReply (w : World) (key ver : Int) (A : Option Addr) (c : Nat) (xs : List Int) (hr : ReadsInt w .u8 A xs.length xs) (hl : xs.length ≤ 140737488355328) :
    Calls Tryz.prog 45 #[.int .i16 key, .int .i16 ver, .slice A xs.length c] w (DecPost kReply (replyDecode key ver xs) w) := by
  have HR := Lib.hid hr
  clear hr
  go_enter Tryz.func45, Tryz.ntmps45
  go_wp2_with (first
    | ((with_reducible refine gate_dst (N := 6) rfl ?_); refine box_event ?hg (N := 6) ?hd (cs := #[.int .i16 0, .int .i16 0, .int .i32 0, .slice none 0 0, .int .i32 0, .int .i32 0, .slice none 0 0, .int .i32 0, .slice none 0 0]) (t := 86) ?hr ?_; (case hd => rfl); (case hg => rfl); (case hr => first | (go_simp; done) | (go_simp; rfl)); intro gb hq w1 kq bq; have hgb : Blk w1 gb 86 9 (repHead 0 0 0) := ⟨kq, rfl, by simp [repHead, replyCells, Value.oneCell']⟩; have HB := Lib.hid bq; have hsg := Lib.hid (Nat.le_of_eq hq.symm); clear hq kq bq)
    | fail)
  refine (ca_head _ _ _).mono ?_
  rintro e wo ⟨rfl, rfl⟩
  have hzl : (repHead 0 0 0).length = 9 := hgb.len
  have hzo := hgb.one
  have Hza : Hid ((repHead 0 0 0).toArray = #[.int .i16 0, .int .i16 0, .int .i32 0, .slice none 0 0, .int .i32 0, .int .i32 0, .slice none 0 0, .int .i32 0, .slice none 0 0]) := Lib.hid rfl
  by_cases h1 : headF key ver = 0
  case neg =>
    have h1' : (headF key ver != 0) = true := by simp [h1]
    have HQ := Lib.hid (replyDecode_bad (xs := xs) h1)
    clear h1
    go_wp2_with (first
      | (refine bfull_event rfl 86 (.tmp 6) (.tmp 19) rfl rfl gb 9 (repHead 0 0 0) (repHead 0 0 0) 86 (by rfl) (by exact congrArg Value.agg Hza.out.symm) (by exact hgb) hzl info_Reply hzo ?_; intro w10 kj mj; have HB := Lib.hid (belowFresh HB.out mj hsg.out); have hgb := kj; clear kj mj)
      | fail)
    refine bodyPost_ret (results_blk rfl (by rfl) hgb Tryz.underlying86 rfl info_Reply (by rfl) (v := .int .i64 (headF key ver))) rfl ?_
    exact zeroPostR (Lib.hid rfl) HQ HB.out
  have h1' : (headF key ver != 0) = false := by simp [h1]
  obtain ⟨hk, hv0, hv3⟩ := headF_ok h1
  have HD := Lib.hid (replyDecode_ok (xs := xs) h1)
  clear h1
  go_wp2_with fail
  refine (newReader wo A _ c xs (HR.out.below HB.out) hl).mono ?_
  rintro e w2 ⟨g, rv, rfl, hR, hgw, hrv, hb2⟩
  have hgb := hgb.below hb2
  have hB : Below w.heap.size w w2 := HB.out.trans (hb2.mono HB.out.size)
  have hsr : Hid (w.heap.size ≤ g) := Lib.hid (Nat.le_trans HB.out.size hgw)
  have hng : gb ≠ g := (blk_ne hR.1 hgb.heap (by decide)).symm
  have hR := Lib.hid hR
  have HB := Lib.hid hB
  clear hb2 hB hgw hrv
  have hwl : (repHead key ver 0).length = 9 := rfl
  have hwo : ∀ v ∈ repHead key ver 0, v.oneCell' = true := by simp [repHead, replyCells, Value.oneCell']
  go_wp2_with (first
    | ((with_reducible refine gate_dst (N := 10) rfl ?_); refine box_event ?hg (N := 10) ?hd (cs := #[.int .i16 0, .int .i16 0, .int .i32 0, .slice none 0 0, .int .i32 0, .int .i32 0, .slice none 0 0, .int .i32 0, .slice none 0 0]) (t := 86) ?hr ?_; (case hd => rfl); (case hg => rfl); (case hr => first | (go_simp; done) | (go_simp; rfl)); intro gc hq w4 kq bq; have hgc : Blk w4 gc 86 9 (repHead 0 0 0) := ⟨kq, rfl, by simp [repHead, replyCells, Value.oneCell']⟩; have hnc := Lib.hid (Nat.ne_of_lt (Nat.lt_of_lt_of_le hgb.lt (Nat.le_of_eq hq.symm))); have hsc := Lib.hid (Nat.le_trans HB.out.size (Nat.le_of_eq hq.symm)); have hgb := hgb.below bq; have hR := Lib.hid (hR.out.grown bq); have HB := Lib.hid (HB.out.trans (bq.mono HB.out.size)); clear hq kq bq)
    | (refine bfull_event rfl 86 (.tmp 10) (.tmp 25) rfl rfl gc 9 (repHead 0 0 0) (repHead key ver 0) 86 (by rfl) (by rfl) (by exact hgc) hwl info_Reply hwo ?_; intro w5 kj mj; have hR := Lib.hid (hR.out.modAt hgc.heap (by decide) (by decide) mj); have hgb := hgb.mod mj hnc.out; have HB := Lib.hid (belowFresh HB.out mj hsc.out); have hgc := kj; clear kj mj)
    | fail)
  refine (rs_i32 w5 g rv (DS.raw xs) hR.out rfl).mono ?_
  rintro e w3 ⟨rfl, h2, m2⟩
  have hbb : (DS.raw xs).i32.2.b.length ≤ 140737488355328 := by rw [DS.i32_b]; exact hl
  have hng2 : gc ≠ g := (blk_ne hR.out.1 hgc.heap (by decide)).symm
  have hbp := h2.2.2.1
  generalize (DS.raw xs).i32 = r at *
  have hgb := hgb.mod m2 hng
  have hgc := hgc.mod m2 hng2
  have HB := Lib.hid (belowFresh HB.out m2 hsr.out)
  have hR := Lib.hid h2
  clear h2 m2
  by_cases he : r.2.e = 0
  case neg =>
    have he' : (r.2.e != 0) = true := by simp [he]
    have HQ := Lib.hid (HD.out.trans (repDecode_bad he))
    clear he
    go_wp2_with (first
      | (refine bcell_event rfl 21 31 (.tmp 29) rfl rfl gc 2 9 (repHead key ver 0) 86 (.int .i32 r.1) (by rfl) (by exact hgc) (by decide) rfl ?hr ?_; (case hr => intro hv hf; obtain ⟨v, hv⟩ := hv; go_simp; done); intro wk cs1 hc1 kj mj; have hgb := hgb.mod mj hnc.out; have HB := Lib.hid (belowFresh HB.out mj hsc.out); clear kj mj)
      | (refine bfull_event rfl 86 (.tmp 6) (.tmp 34) rfl rfl gb 9 (repHead 0 0 0) (repHead 0 0 0) 86 (by rfl) (by exact congrArg Value.agg Hza.out.symm) (by exact hgb) hzl info_Reply hzo ?_; intro w10 kj mj; have HB := Lib.hid (belowFresh HB.out mj hsg.out); have hgb := kj; clear kj mj)
      | fail)
    refine bodyPost_ret (results_blk rfl (by rfl) hgb Tryz.underlying86 rfl info_Reply (by rfl) (v := .int .i64 (r.2.e))) rfl ?_
    exact zeroPostR (Lib.hid rfl) HQ HB.out
  have he' : (r.2.e != 0) = false := by simp [he]
  have HE := Lib.hid he
  clear he
  go_wp2_with (first
    | (refine bcell_event rfl 21 31 (.tmp 29) rfl rfl gc 2 9 (repHead key ver 0) 86 (.int .i32 r.1) (by rfl) (by exact hgc) (by decide) rfl ?hr ?_; (case hr => intro hv hf; obtain ⟨v, hv⟩ := hv; go_simp; done); intro wk cs1 hc1 kj mj; have hR := Lib.hid (hR.out.modAt hgc.heap (by decide) (by decide) mj); have hgb := hgb.mod mj hnc.out; have HB := Lib.hid (belowFresh HB.out mj hsc.out); have hgc := kj; have Hvs := Lib.hid (hc1.out.trans rfl : cs1 = repHead key ver r.1); clear kj mj hc1)
    | fail)
  refine (rd_left _ g rv r.2.b r.2.pos hR.out).mono ?_
  rintro e w6 ⟨rfl, k6, rfl⟩
  have hR := Lib.hid (show RdAt (wk.drewN k6) g rv _ _ from hR.out)
  go_wp2_with fail
  rw [show ((r.2.b.length : Int) - r.2.pos) = ((r.2.b.length - r.2.pos : Nat) : Int) from by omega]
  refine (rd_take _ g rv r.2.b r.2.pos _ hR.out (Nat.le_refl _)).mono ?_
  rintro e w7 ⟨v7, rfl, ho, h2, m2⟩
  have e7 : (r.2.b.drop r.2.pos).take (r.2.b.length - r.2.pos) = r.2.rest := List.take_of_length_le (by simp)
  rw [e7] at ho
  obtain ⟨A7, c7, rfl⟩ := own_slice ho
  have HO := Lib.hid (own_reads' ho)
  have m7 : Mod (· = g) wk w7 := ((Mod.refl _ _).drewN k6).trans m2
  have hgb := hgb.mod m7 hng
  have hgc := hgc.mod m7 hng2
  have HB := Lib.hid (belowFresh HB.out m7 hsr.out)
  have hrl : r.2.rest.length ≤ 140737488355328 := by unfold DS.rest; rw [List.length_drop]; omega
  have hsb := Lib.hid (show w.heap.size ≤ w7.heap.size from HB.out.size)
  clear ho h2 m2 m7 e7 hng hng2 hR
  rcases hk with hk | hk | hk
  · have HK := Lib.hid (HD.out.trans (repDecode_prod HE.out hk))
    have k0 : (key == 0) = true := by simp [hk]
    clear hk
    go_wp2_with fail
    refine (show Calls _ _ _ _ (DecPost kProdRep (repProd ver r.2.rest) w7) from dec_ProdRep w7 ver A7 c7 r.2.rest HO.out hrl).mono ?_
    rintro e w8 ⟨pc, rfl, hM, hb8⟩
    have hpl : pc.length = 2 := kProdRep.K_len (kProdRep.K_of_M hM)
    have hpo := kProdRep.K_one (kProdRep.K_of_M hM)
    have HM := Lib.hid hM
    have hgcl := Lib.hid hgc.lt
    have hgbl := Lib.hid hgb.lt
    have hgb := hgb.below hb8
    have hgc := hgc.below hb8
    have HB := Lib.hid (HB.out.trans (hb8.mono HB.out.size))
    clear hM hb8
    by_cases hp : (repProd ver r.2.rest).2 = 0
    · have hp' : ((repProd ver r.2.rest).2 != 0) = false := by simp [hp]
      have HQ := Lib.hid (HK.out.trans (if_neg (by simpa using hp)))
      clear hp
      go_wp2_with (first
        | (refine bmid_event rfl 48 (.tmp 53) (.tmp 51) rfl rfl gc 3 9 2 cs1 pc 86 (by rfl) (by rfl) (by exact hgc) hpl (by decide) info_ProdRep hpo ?_; intro w9 cs2 hc1 kj mj; have hgb := hgb.mod mj hnc.out; have HM := Lib.hid (M_mod HM.out mj (fun q hq e => by have := hgcl.out; omega)); have HB := Lib.hid (belowFresh HB.out mj hsc.out); have hgc := kj; clear kj mj)
        | ((with_reducible refine gate_dst (N := 78) rfl ?_); refine bload_event rfl 86 (.tmp 10) rfl gc 9 cs2 86 _ (by rfl) (by exact hgc) Tryz.underlying86 rfl info_Reply ?_)
        | (refine bfull_event rfl 86 (.tmp 6) (.tmp 78) rfl rfl gb 9 (repHead 0 0 0) cs2 86 (by rfl) (by rfl) (by exact hgb) hgc.len info_Reply hgc.one ?_; intro w10 kj mj; have HM := Lib.hid (M_mod HM.out mj (fun q hq e => by have := hgbl.out; omega)); have HB := Lib.hid (belowFresh HB.out mj hsg.out); have hgb := kj; clear kj mj)
        | fail)
      refine bodyPost_ret (results_blk rfl (by rfl) hgb Tryz.underlying86 rfl info_Reply (by rfl) (v := .int .i64 (0))) rfl ?_
      refine decPost_of HQ (Lib.hid (hc1.out.trans (by rw [Hvs.out]))) (kReply_prod (kProdRep.M_lower ?_ HM.out)) HB.out
      have := hsb.out
      omega
    · have hp' : ((repProd ver r.2.rest).2 != 0) = true := by simp [hp]
      have HQ := Lib.hid (HK.out.trans (if_pos hp))
      clear hp
      go_wp2_with (first
        | (refine bmid_event rfl 48 (.tmp 53) (.tmp 51) rfl rfl gc 3 9 2 cs1 pc 86 (by rfl) (by rfl) (by exact hgc) hpl (by decide) info_ProdRep hpo ?_; intro w9 cs2 hc1 kj mj; have hgb := hgb.mod mj hnc.out; have HB := Lib.hid (belowFresh HB.out mj hsc.out); clear kj mj)
        | (refine bfull_event rfl 86 (.tmp 6) (.tmp 76) rfl rfl gb 9 (repHead 0 0 0) (repHead 0 0 0) 86 (by rfl) (by exact congrArg Value.agg Hza.out.symm) (by exact hgb) hzl info_Reply hzo ?_; intro w10 kj mj; have HB := Lib.hid (belowFresh HB.out mj hsg.out); have hgb := kj; clear kj mj)
        | fail)
      refine bodyPost_ret (results_blk rfl (by rfl) hgb Tryz.underlying86 rfl info_Reply (by rfl) (v := .int .i64 ((repProd ver r.2.rest).2))) rfl ?_
      exact zeroPostR (Lib.hid rfl) HQ HB.out
  · have HK := Lib.hid (HD.out.trans (repDecode_fetch HE.out hk))
    have k0 : (key == 0) = false := by simp [hk]
    have k1 : (key == 1) = true := by simp [hk]
    clear hk
    go_wp2_with fail
    refine (show Calls _ _ _ _ (DecPost kFetchRep (repFetch ver r.2.rest) w7) from dec_FetchRep w7 ver A7 c7 r.2.rest HO.out hrl).mono ?_
    rintro e w8 ⟨pc, rfl, hM, hb8⟩
    have hpl : pc.length = 2 := kFetchRep.K_len (kFetchRep.K_of_M hM)
    have hpo := kFetchRep.K_one (kFetchRep.K_of_M hM)
    have HM := Lib.hid hM
    have hgcl := Lib.hid hgc.lt
    have hgbl := Lib.hid hgb.lt
    have hgb := hgb.below hb8
    have hgc := hgc.below hb8
    have HB := Lib.hid (HB.out.trans (hb8.mono HB.out.size))
    clear hM hb8
    by_cases hp : (repFetch ver r.2.rest).2 = 0
    · have hp' : ((repFetch ver r.2.rest).2 != 0) = false := by simp [hp]
      have HQ := Lib.hid (HK.out.trans (if_neg (by simpa using hp)))
      clear hp
      go_wp2_with (first
        | (refine bmid_event rfl 74 (.tmp 63) (.tmp 61) rfl rfl gc 5 9 2 cs1 pc 86 (by rfl) (by rfl) (by exact hgc) hpl (by decide) info_FetchRep hpo ?_; intro w9 cs2 hc1 kj mj; have hgb := hgb.mod mj hnc.out; have HM := Lib.hid (M_mod HM.out mj (fun q hq e => by have := hgcl.out; omega)); have HB := Lib.hid (belowFresh HB.out mj hsc.out); have hgc := kj; clear kj mj)
        | ((with_reducible refine gate_dst (N := 78) rfl ?_); refine bload_event rfl 86 (.tmp 10) rfl gc 9 cs2 86 _ (by rfl) (by exact hgc) Tryz.underlying86 rfl info_Reply ?_)
        | (refine bfull_event rfl 86 (.tmp 6) (.tmp 78) rfl rfl gb 9 (repHead 0 0 0) cs2 86 (by rfl) (by rfl) (by exact hgb) hgc.len info_Reply hgc.one ?_; intro w10 kj mj; have HM := Lib.hid (M_mod HM.out mj (fun q hq e => by have := hgbl.out; omega)); have HB := Lib.hid (belowFresh HB.out mj hsg.out); have hgb := kj; clear kj mj)
        | fail)
      refine bodyPost_ret (results_blk rfl (by rfl) hgb Tryz.underlying86 rfl info_Reply (by rfl) (v := .int .i64 (0))) rfl ?_
      refine decPost_of HQ (Lib.hid (hc1.out.trans (by rw [Hvs.out]))) (kReply_fetch (kFetchRep.M_lower ?_ HM.out)) HB.out
      have := hsb.out
      omega
    · have hp' : ((repFetch ver r.2.rest).2 != 0) = true := by simp [hp]
      have HQ := Lib.hid (HK.out.trans (if_pos hp))
      clear hp
      go_wp2_with (first
        | (refine bmid_event rfl 74 (.tmp 63) (.tmp 61) rfl rfl gc 5 9 2 cs1 pc 86 (by rfl) (by rfl) (by exact hgc) hpl (by decide) info_FetchRep hpo ?_; intro w9 cs2 hc1 kj mj; have hgb := hgb.mod mj hnc.out; have HB := Lib.hid (belowFresh HB.out mj hsc.out); clear kj mj)
        | (refine bfull_event rfl 86 (.tmp 6) (.tmp 76) rfl rfl gb 9 (repHead 0 0 0) (repHead 0 0 0) 86 (by rfl) (by exact congrArg Value.agg Hza.out.symm) (by exact hgb) hzl info_Reply hzo ?_; intro w10 kj mj; have HB := Lib.hid (belowFresh HB.out mj hsg.out); have hgb := kj; clear kj mj)
        | fail)
      refine bodyPost_ret (results_blk rfl (by rfl) hgb Tryz.underlying86 rfl info_Reply (by rfl) (v := .int .i64 ((repFetch ver r.2.rest).2))) rfl ?_
      exact zeroPostR (Lib.hid rfl) HQ HB.out
  · have HK := Lib.hid (HD.out.trans (repDecode_list HE.out hk))
    have k0 : (key == 0) = false := by simp [hk]
    have k1 : (key == 1) = false := by simp [hk]
    have k2 : (key == 2) = true := by simp [hk]
    clear hk
    go_wp2_with fail
    refine (show Calls _ _ _ _ (DecPost kListRep (repList ver r.2.rest) w7) from dec_ListRep w7 ver A7 c7 r.2.rest HO.out hrl).mono ?_
    rintro e w8 ⟨pc, rfl, hM, hb8⟩
    have hpl : pc.length = 2 := kListRep.K_len (kListRep.K_of_M hM)
    have hpo := kListRep.K_one (kListRep.K_of_M hM)
    have HM := Lib.hid hM
    have hgcl := Lib.hid hgc.lt
    have hgbl := Lib.hid hgb.lt
    have hgb := hgb.below hb8
    have hgc := hgc.below hb8
    have HB := Lib.hid (HB.out.trans (hb8.mono HB.out.size))
    clear hM hb8
    by_cases hp : (repList ver r.2.rest).2 = 0
    · have hp' : ((repList ver r.2.rest).2 != 0) = false := by simp [hp]
      have HQ := Lib.hid (HK.out.trans (if_neg (by simpa using hp)))
      clear hp
      go_wp2_with (first
        | (refine bmid_event rfl 62 (.tmp 73) (.tmp 71) rfl rfl gc 7 9 2 cs1 pc 86 (by rfl) (by rfl) (by exact hgc) hpl (by decide) info_ListRep hpo ?_; intro w9 cs2 hc1 kj mj; have hgb := hgb.mod mj hnc.out; have HM := Lib.hid (M_mod HM.out mj (fun q hq e => by have := hgcl.out; omega)); have HB := Lib.hid (belowFresh HB.out mj hsc.out); have hgc := kj; clear kj mj)
        | ((with_reducible refine gate_dst (N := 78) rfl ?_); refine bload_event rfl 86 (.tmp 10) rfl gc 9 cs2 86 _ (by rfl) (by exact hgc) Tryz.underlying86 rfl info_Reply ?_)
        | (refine bfull_event rfl 86 (.tmp 6) (.tmp 78) rfl rfl gb 9 (repHead 0 0 0) cs2 86 (by rfl) (by rfl) (by exact hgb) hgc.len info_Reply hgc.one ?_; intro w10 kj mj; have HM := Lib.hid (M_mod HM.out mj (fun q hq e => by have := hgbl.out; omega)); have HB := Lib.hid (belowFresh HB.out mj hsg.out); have hgb := kj; clear kj mj)
        | fail)
      refine bodyPost_ret (results_blk rfl (by rfl) hgb Tryz.underlying86 rfl info_Reply (by rfl) (v := .int .i64 (0))) rfl ?_
      refine decPost_of HQ (Lib.hid (hc1.out.trans (by rw [Hvs.out]))) (kReply_list (kListRep.M_lower ?_ HM.out)) HB.out
      have := hsb.out
      omega
    · have hp' : ((repList ver r.2.rest).2 != 0) = true := by simp [hp]
      have HQ := Lib.hid (HK.out.trans (if_pos hp))
      clear hp
      go_wp2_with (first
        | (refine bmid_event rfl 62 (.tmp 73) (.tmp 71) rfl rfl gc 7 9 2 cs1 pc 86 (by rfl) (by rfl) (by exact hgc) hpl (by decide) info_ListRep hpo ?_; intro w9 cs2 hc1 kj mj; have hgb := hgb.mod mj hnc.out; have HB := Lib.hid (belowFresh HB.out mj hsc.out); clear kj mj)
        | (refine bfull_event rfl 86 (.tmp 6) (.tmp 76) rfl rfl gb 9 (repHead 0 0 0) (repHead 0 0 0) 86 (by rfl) (by exact congrArg Value.agg Hza.out.symm) (by exact hgb) hzl info_Reply hzo ?_; intro w10 kj mj; have HB := Lib.hid (belowFresh HB.out mj hsg.out); have hgb := kj; clear kj mj)
        | fail)
      refine bodyPost_ret (results_blk rfl (by rfl) hgb Tryz.underlying86 rfl info_Reply (by rfl) (v := .int .i64 ((repList ver r.2.rest).2))) rfl ?_
      exact zeroPostR (Lib.hid rfl) HQ HB.out

end Go.Proofs.YteckmgmcfngddaaGreat
end
