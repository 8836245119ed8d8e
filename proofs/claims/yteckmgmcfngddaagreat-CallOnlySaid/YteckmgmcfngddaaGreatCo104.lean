/- A part of a proof. Proved: Rows.CallOnlySaid: for every byte slice the law leatlaw16.CallOnly returns true, and the slice reads afterwards as it read before. No condition but the row's own reach. -/
import Derived.Test.YteckmgmcfngddaaGreatCo102
import Derived.Test.YteckmgmcfngddaaGreatCo103
section
/- The message FetchReq read. -/
set_option linter.unusedVariables false
set_option linter.unusedSimpArgs false
namespace Go.Proofs.YteckmgmcfngddaaGreat
open Go.RowKit Go.Proofs.YteckmgmcfngddaaGreatW.PrintWords

def rdFetchReq (d : DS) : FetchReq × DS :=
  let r0 := d.i32
  let r1 := r0.2.i32
  let r2 := r1.2.i32
  let r3 := if r2.2.has 1 3 = true then r2.2.i32 else (0, r2.2)
  let r4 := if r3.2.has 2 3 = true then r3.2.i8 else (0, r3.2)
  let r5 := (rdList rdFetchTopic r4.2)
  (⟨r0.1, r1.1, r2.1, r3.1, r4.1, r5.1⟩, r5.2)

set_option maxRecDepth 100000 in
set_option maxHeartbeats 6400000 in
theorem dec_FetchReq (w : World) (v : Int) (A : Option Addr) (c : Nat) (xs : List Int) (hr : ReadsInt w .u8 A xs.length xs) (hl : xs.length ≤ 140737488355328) :
    Calls Tryz.prog 27 #[.int .i64 v, .slice A xs.length c] w (DecPost kFetchReq (decFin (⟨0, 0, 0, 0, 0, []⟩ : FetchReq) (rdFetchReq (DS.new v xs))) w) := by
  have hmf : ∀ (fn : Fn) (first cap : Array Value) (w : World), (Instr.makeFunc fn first cap).run Tryz.prog w = .ok (.func fn first cap) w := fun _ _ _ _ => rfl
  have HR := Lib.hid hr
  clear hr
  go_enter Tryz.func27, Tryz.ntmps27
  go_wp2_with (first | ((with_reducible refine gate_dst (N := 4) rfl ?_); refine box_event ?hg (N := 4) ?hd (cs := #[.int .i32 0, .int .i32 0, .int .i32 0, .int .i32 0, .int .i8 0, .slice none 0 0]) (t := 68) ?hr ?_; (case hd => rfl); (case hg => rfl); (case hr => first | (go_simp; done) | (go_simp; rfl)); intro gb hgb wg kgb bgb; have hgg : Hid (wg.heap[gb]? = some (.cells #[.int .i32 0, .int .i32 0, .int .i32 0, .int .i32 0, .int .i8 0, .slice none 0 0] 68 (0, 0))) := kgb; have hsgb : Hid (w.heap.size ≤ gb) := Nat.le_of_eq hgb.symm; clear kgb hgb))
  refine (newDec wg v A c xs (HR.out.below bgb) hl).mono ?_
  rintro e wn ⟨p, g, rv, rfl, hd0, hpw, hgw, bn⟩
  have hlb : (DS.new v xs).b.length ≤ 140737488355328 := hl
  generalize DS.new v xs = d at *
  have hgn := hid_mod hgg (Mod.of_below (S := fun _ => False) bn) (Lib.hid id)
  have hgbw := blk_lt hgg.out
  have hngb : Hid (¬ DecS p g gb) := fun hs => by rcases hs with rfl | rfl <;> omega
  have hbn : Below w.heap.size w wn := bgb.trans (bn.mono bgb.size)
  go_wp2_with (first
    | ((with_reducible refine gate_dst (N := 6) rfl ?_); refine box_event ?hg (N := 6) ?hd (cs := #[.pointer none]) (t := 113) ?hr ?_; (case hd => rfl); (case hg => rfl); (case hr => first | (go_simp; done) | (go_simp; rfl)); intro bx hbx wx kbx bbx; have hd1 := hd0.below bbx; have hnx : ¬ DecS p g bx := hd0.new (Nat.le_of_eq hbx.symm); have hgx := hid_mod hgn (Mod.of_below (S := fun _ => False) bbx) (Lib.hid id); have hgbx : Hid (gb ≠ bx) := Nat.ne_of_lt (Nat.lt_of_lt_of_le (blk_lt hgn.out) (Nat.le_of_eq hbx.symm)); have hcb : Cl (wx.setCell ⟨bx, 0, none⟩ (.pointer (some ⟨p, 0, none⟩))) p g bx rv d := ⟨hd1.far kbx (by decide) (by decide) (by decide) 0 _, by simpa using blk_set kbx 0 (.pointer (some ⟨p, 0, none⟩)), fun e => hnx (.inl e), fun e => hnx (.inr e), hlb⟩; have hgB : Hid ((wx.setCell ⟨bx, 0, none⟩ (.pointer (some ⟨p, 0, none⟩))).heap[gb]? = some (.cells #[.int .i32 0, .int .i32 0, .int .i32 0, .int .i32 0, .int .i8 0, .slice none 0 0] 68 (0, 0))) := hid_far hgx hgbx; have hbw : Below w.heap.size w (wx.setCell ⟨bx, 0, none⟩ (.pointer (some ⟨p, 0, none⟩))) := (hbn.trans (bbx.mono hbn.size)).setCell (p := ⟨bx, 0, none⟩) (Nat.le_trans hbn.size (Nat.le_of_eq hbx.symm)) _; have hbxgb : bx ≠ gb := fun e => hgbx.out e.symm; have fx := fun i => blk_frozen kbx i; have x0 : wx.cell? ⟨bx, 0, none⟩ = _ := blk_cell kbx 0; simp at x0; have cx : (wx.setCell ⟨bx, 0, none⟩ (.pointer (some ⟨p, 0, none⟩))).cell? ⟨bx, 0, none⟩ = some (.pointer (some ⟨p, 0, none⟩)) := hcb.cell; clear kbx hbx))
  generalize (wx.setCell ⟨bx, 0, none⟩ (.pointer (some ⟨p, 0, none⟩))) = wb at *
  have h := hcb
  have hc0 := hcb
  have hm0 : Mod (DecS p g) wb wb := Mod.refl _ _
  have hg0 := hgB
  have hbx := hbxgb
  have hc := hcb
  have hc := hc.drew
  have hg : Hid (wb.drew.heap[gb]? = some (.cells #[.int .i32 0, .int .i32 0, .int .i32 0, .int .i32 0, .int .i8 0, .slice none 0 0] 68 (0, 0))) := hgB
  have hm : Mod (DecS p g) wb wb.drew := hm0.drew
  have cx := hc.cell
  go_cut [7] (fun v2 wx => ∃ gt, v2 = .pointer (some ⟨gt, 0, none⟩) ∧ Cl wx p g bx rv d.i32.2.i32.2.i32.2 ∧ Hid (wx.heap[gb]? = some (.cells #[.int .i32 0, .int .i32 0, .int .i32 0, .int .i32 0, .int .i8 0, .slice none 0 0] 68 (0, 0))) ∧ Hid (wx.heap[gt]? = some (.cells #[.int .i32 (d.i32.1), .int .i32 (d.i32.2.i32.1), .int .i32 (d.i32.2.i32.2.i32.1), .int .i32 0, .int .i8 0, .slice none 0 0] 68 (0, 0))) ∧ Mod (DecS p g) wb wx ∧ Hid (wb.heap.size ≤ gt) ∧ Hid (gb ≠ gt))
  case first =>
    go_region_held3 (fun w' => w'.cell? ⟨bx, 0, none⟩ = some (.pointer (some ⟨p, 0, none⟩))) (first | with_reducible exact cx | with_reducible exact (hc.alloc _).cell | with_reducible exact (hc0.alloc _).drew.cell | with_reducible exact (cell_far (by assumption)).trans ((cell_far (by assumption)).trans ((cell_far (by assumption)).trans ((cell_far (by assumption)).trans ((cell_far (by assumption)).trans ((cell_far (by assumption)).trans (hc.cell)))))) | with_reducible exact (cell_far (by assumption)).trans ((cell_far (by assumption)).trans ((cell_far (by assumption)).trans ((cell_far (by assumption)).trans ((cell_far (by assumption)).trans ((cell_far (by assumption)).trans ((hc.alloc _).cell)))))))
      (first
        | (go_at_call 58; (with_reducible refine (cl_i32 _ p g bx rv _ hc).mono ?_); rintro e wn ⟨rfl, hc2, mn⟩; (try (have ht := hid_mod ht mn hnt; have ft := fun i => blk_frozen ht.out i; have t0 := blk_cell ht.out 0; have t1 := blk_cell ht.out 1; have t2 := blk_cell ht.out 2; have t3 := blk_cell ht.out 3; have t4 := blk_cell ht.out 4; have t5 := blk_cell ht.out 5; simp at t0 t1 t2 t3 t4 t5)); have hg := hid_mod hg mn hngb; have hm := hm.trans mn; have hc := hc2; have cx := hc.cell; clear hc2 mn)
        | (go_at_call 58; (with_reducible refine (cl_i32 _ p g bx rv _ (hc.alloc (Obj.cells #[.int .i32 0, .int .i32 0, .int .i32 0, .int .i32 0, .int .i8 0, .slice none 0 0] 68 (0, 0)))).mono ?_); rintro e wn ⟨rfl, hc2, mn⟩; have hst : Hid (wb.heap.size ≤ _) := hm.size; have hnt := Lib.hid (h.new hst.out); have hgt2 := hid_neOf hg; have hbt := Nat.ne_of_lt (blk_lt hc.box); have ht := hid_newOf hm (Obj.cells #[.int .i32 0, .int .i32 0, .int .i32 0, .int .i32 0, .int .i8 0, .slice none 0 0] 68 (0, 0)); have hg := hid_oldOf hg (Obj.cells #[.int .i32 0, .int .i32 0, .int .i32 0, .int .i32 0, .int .i8 0, .slice none 0 0] 68 (0, 0)); have hm := hm.alloc (Obj.cells #[.int .i32 0, .int .i32 0, .int .i32 0, .int .i32 0, .int .i8 0, .slice none 0 0] 68 (0, 0)); (try (have ht := hid_mod ht mn hnt; have ft := fun i => blk_frozen ht.out i; have t0 := blk_cell ht.out 0; have t1 := blk_cell ht.out 1; have t2 := blk_cell ht.out 2; have t3 := blk_cell ht.out 3; have t4 := blk_cell ht.out 4; have t5 := blk_cell ht.out 5; simp at t0 t1 t2 t3 t4 t5)); have hg := hid_mod hg mn hngb; have hm := hm.trans mn; have hc := hc2; have cx := hc.cell; clear hc2 mn)
        | (go_at_call 58; (with_reducible refine (cl_i32 _ p g bx rv _ ((hc0.alloc (Obj.cells #[.int .i32 0, .int .i32 0, .int .i32 0, .int .i32 0, .int .i8 0, .slice none 0 0] 68 (0, 0))).drew)).mono ?_); rintro e wn ⟨rfl, hc2, mn⟩; have hst : Hid (wb.heap.size ≤ _) := hm0.size; have hnt := Lib.hid (h.new hst.out); have hgt2 := hid_neOf hg0; have hbt := Nat.ne_of_lt (blk_lt hc0.box); have ht : Hid ((wb.alloc (Obj.cells #[.int .i32 0, .int .i32 0, .int .i32 0, .int .i32 0, .int .i8 0, .slice none 0 0] 68 (0, 0))).drew.heap[wb.heap.size]? = some (Obj.cells #[.int .i32 0, .int .i32 0, .int .i32 0, .int .i32 0, .int .i8 0, .slice none 0 0] 68 (0, 0))) := hid_newOf hm0 (Obj.cells #[.int .i32 0, .int .i32 0, .int .i32 0, .int .i32 0, .int .i8 0, .slice none 0 0] 68 (0, 0)); have hg : Hid ((wb.alloc (Obj.cells #[.int .i32 0, .int .i32 0, .int .i32 0, .int .i32 0, .int .i8 0, .slice none 0 0] 68 (0, 0))).drew.heap[gb]? = some (Obj.cells #[.int .i32 0, .int .i32 0, .int .i32 0, .int .i32 0, .int .i8 0, .slice none 0 0] 68 (0, 0))) := hid_oldOf hg0 (Obj.cells #[.int .i32 0, .int .i32 0, .int .i32 0, .int .i32 0, .int .i8 0, .slice none 0 0] 68 (0, 0)); have hm : Mod (DecS p g) wb (wb.alloc (Obj.cells #[.int .i32 0, .int .i32 0, .int .i32 0, .int .i32 0, .int .i8 0, .slice none 0 0] 68 (0, 0))).drew := (hm0.alloc (Obj.cells #[.int .i32 0, .int .i32 0, .int .i32 0, .int .i32 0, .int .i8 0, .slice none 0 0] 68 (0, 0))).drew; (try (have ht := hid_mod ht mn hnt; have ft := fun i => blk_frozen ht.out i; have t0 := blk_cell ht.out 0; have t1 := blk_cell ht.out 1; have t2 := blk_cell ht.out 2; have t3 := blk_cell ht.out 3; have t4 := blk_cell ht.out 4; have t5 := blk_cell ht.out 5; simp at t0 t1 t2 t3 t4 t5)); have hg := hid_mod hg mn hngb; have hm := hm.trans mn; have hc := hc2; have cx := hc.cell; clear hc2 mn)
        | fail)
    all_goals (go_wp2_with fail; go_meet; first | (with_reducible exact ⟨_, rfl, hc.alloc _, hid_oldOf hg _, hid_newOf hm _, hm.alloc _, Lib.hid hm.size, hid_neOf hg⟩) | exact ⟨_, rfl, ((((((hc.far ht.out (by decide) (by decide) (by decide) (by decide) 0 _).far (hid_set ht 0 _).out (by decide) (by decide) (by decide) (by decide) 1 _).far (hid_set (hid_set ht 0 _) 1 _).out (by decide) (by decide) (by decide) (by decide) 2 _).far (hid_set (hid_set (hid_set ht 0 _) 1 _) 2 _).out (by decide) (by decide) (by decide) (by decide) 3 _).far (hid_set (hid_set (hid_set (hid_set ht 0 _) 1 _) 2 _) 3 _).out (by decide) (by decide) (by decide) (by decide) 4 _).far (hid_set (hid_set (hid_set (hid_set (hid_set ht 0 _) 1 _) 2 _) 3 _) 4 _).out (by decide) (by decide) (by decide) (by decide) 5 _), (hid_far (hid_far (hid_far (hid_far (hid_far (hid_far hg hgt2) hgt2) hgt2) hgt2) hgt2) hgt2), hid_cast (hid_set (hid_set (hid_set (hid_set (hid_set (hid_set ht 0 _) 1 _) 2 _) 3 _) 4 _) 5 _) rfl, (modFar (modFar (modFar (modFar (modFar (modFar hm hst 0 _) hst 1 _) hst 2 _) hst 3 _) hst 4 _) hst 5 _), hst, hgt2⟩)
  case rest =>
    obtain ⟨gt, rfl, hc, hg, ht, hm, hst, hgt2⟩ := hcut
    have cx := hc.cell
    have hnt : Hid (¬ DecS p g gt) := h.new hst.out
    have hbt := blk_ne hc.box ht.out (by decide)
    go_wp2_with fail
    refine (cl_has wc p g bx rv d.i32.2.i32.2.i32.2 1 3 hc).mono ?_
    rintro e wh0 ⟨rfl, hc2, mn⟩
    replace hg := hid_mod hg mn hngb
    replace ht := hid_mod ht mn hnt
    replace hm := hm.trans mn
    replace hc := hc2
    have cx := hc.cell
    clear hc2 mn
    cases hh0 : d.i32.2.i32.2.i32.2.has 1 3
    · -- no
      go_wp2_with fail
      refine (cl_has wh0 p g bx rv d.i32.2.i32.2.i32.2 2 3 hc).mono ?_
      rintro e wh1 ⟨rfl, hc2, mn⟩
      replace hg := hid_mod hg mn hngb
      replace ht := hid_mod ht mn hnt
      replace hm := hm.trans mn
      replace hc := hc2
      have cx := hc.cell
      clear hc2 mn
      cases hh1 : d.i32.2.i32.2.i32.2.has 2 3
      · -- no
        go_wp2_with fail
        have hbtopics : Hid (wb.heap.size ≤ wh1.heap.size) := hm.size
        refine (cl_list_FetchTopic wh1 p g bx rv d.i32.2.i32.2.i32.2 hc).mono ?_
        rintro e wtopics_2 ⟨Atopics, ctopics, rfl, rtopics, hc2, mn⟩
        replace hg := hid_mod hg mn hngb
        replace ht := hid_mod ht mn hnt
        replace hm := hm.trans mn
        replace hc := hc2
        have cx := hc.cell
        clear hc2 mn
        have ft := fun i => blk_frozen ht.out i
        have t5 : wtopics_2.cell? ⟨gt, 5, none⟩ = _ := blk_cell ht.out 5
        simp at t5
        have cx1 : (wtopics_2.setCell ⟨gt, 5, none⟩ (.slice Atopics (rdList rdFetchTopic d.i32.2.i32.2.i32.2).1.length ctopics)).cell? ⟨bx, 0, none⟩ = some (.pointer (some ⟨p, 0, none⟩)) := (cell_far hbt).trans (hc.cell)
        have hc1 : Cl (wtopics_2.setCell ⟨gt, 5, none⟩ (.slice Atopics (rdList rdFetchTopic d.i32.2.i32.2.i32.2).1.length ctopics)) p g bx rv ((rdList rdFetchTopic d.i32.2.i32.2.i32.2).2) := (hc.far ht.out (by decide) (by decide) (by decide) (by decide) 5 _)
        have hg1 : Hid ((wtopics_2.setCell ⟨gt, 5, none⟩ (.slice Atopics (rdList rdFetchTopic d.i32.2.i32.2.i32.2).1.length ctopics)).heap[gb]? = some (.cells #[.int .i32 0, .int .i32 0, .int .i32 0, .int .i32 0, .int .i8 0, .slice none 0 0] 68 (0, 0))) := (hid_far hg hgt2)
        have ht1 : Hid ((wtopics_2.setCell ⟨gt, 5, none⟩ (.slice Atopics (rdList rdFetchTopic d.i32.2.i32.2.i32.2).1.length ctopics)).heap[gt]? = some (.cells #[.int .i32 (d.i32.1), .int .i32 (d.i32.2.i32.1), .int .i32 (d.i32.2.i32.2.i32.1), .int .i32 0, .int .i8 0, .slice Atopics (rdList rdFetchTopic d.i32.2.i32.2.i32.2).1.length ctopics] 68 (0, 0))) := hid_cast (hid_set ht 5 (.slice Atopics (rdList rdFetchTopic d.i32.2.i32.2.i32.2).1.length ctopics)) rfl
        have hm1 : Mod (DecS p g) wb (wtopics_2.setCell ⟨gt, 5, none⟩ (.slice Atopics (rdList rdFetchTopic d.i32.2.i32.2.i32.2).1.length ctopics)) := (modFar hm hst 5 _)
        have rtopics1 := (Kd.R_set rtopics ht.out (by decide) 5 (.slice Atopics (rdList rdFetchTopic d.i32.2.i32.2.i32.2).1.length ctopics))
        replace hc := hc1
        replace hg := hg1
        replace ht := ht1
        replace hm := hm1
        replace rtopics := rtopics1
        clear hc1 hg1 ht1 hm1 rtopics1
        go_wp2_with fail
        refine (cl_end (wtopics_2.setCell ⟨gt, 5, none⟩ (.slice Atopics (rdList rdFetchTopic d.i32.2.i32.2.i32.2).1.length ctopics)) p g bx rv ((rdList rdFetchTopic d.i32.2.i32.2.i32.2).2) hc).mono ?_
        rintro e we ⟨rfl, mn⟩
        replace hg := hid_mod hg mn hngb
        replace ht := hid_mod ht mn hnt
        replace hm := hm.trans mn
        replace rtopics := R_mod rtopics mn (fun k hk => h.new (Nat.le_trans hbtopics.out hk))
        have fg := fun i => blk_frozen hg.out i
        have t0 : we.cell? ⟨gt, 0, none⟩ = _ := blk_cell ht.out 0
        have z0 : we.cell? ⟨gb, 0, none⟩ = _ := blk_cell hg.out 0
        have t1 : we.cell? ⟨gt, 1, none⟩ = _ := blk_cell ht.out 1
        have z1 : we.cell? ⟨gb, 1, none⟩ = _ := blk_cell hg.out 1
        have t2 : we.cell? ⟨gt, 2, none⟩ = _ := blk_cell ht.out 2
        have z2 : we.cell? ⟨gb, 2, none⟩ = _ := blk_cell hg.out 2
        have t3 : we.cell? ⟨gt, 3, none⟩ = _ := blk_cell ht.out 3
        have z3 : we.cell? ⟨gb, 3, none⟩ = _ := blk_cell hg.out 3
        have t4 : we.cell? ⟨gt, 4, none⟩ = _ := blk_cell ht.out 4
        have z4 : we.cell? ⟨gb, 4, none⟩ = _ := blk_cell hg.out 4
        have t5 : we.cell? ⟨gt, 5, none⟩ = _ := blk_cell ht.out 5
        have z5 : we.cell? ⟨gb, 5, none⟩ = _ := blk_cell hg.out 5
        simp at t0 z0 t1 z1 t2 z2 t3 z3 t4 z4 t5 z5
        have erd : rdFetchReq d = (⟨d.i32.1, d.i32.2.i32.1, d.i32.2.i32.2.i32.1, 0, 0, (rdList rdFetchTopic d.i32.2.i32.2.i32.2).1⟩, (rdList rdFetchTopic d.i32.2.i32.2.i32.2).2) := by simp only [rdFetchReq, hh0, hh1, Bool.false_eq_true, if_true, if_false]
        have hbe : Below w.heap.size w we := Below.mod hbw hbw.size hm (fun i hi hs => by have := bgb.size; rcases hs with rfl | rfl <;> omega)
        by_cases hfin : ((rdList rdFetchTopic d.i32.2.i32.2.i32.2).2).fin = 0
        · have hf1 : (((rdList rdFetchTopic d.i32.2.i32.2.i32.2).2).fin != 0) = false := by simp [hfin]
          have edc : Hid (decFin (⟨0, 0, 0, 0, 0, []⟩ : FetchReq) (rdFetchReq d) = (⟨d.i32.1, d.i32.2.i32.1, d.i32.2.i32.2.i32.1, 0, 0, (rdList rdFetchTopic d.i32.2.i32.2.i32.2).1⟩, 0)) := Lib.hid (by rw [erd]; exact decFin_ok hfin)
          clear hfin erd
          go_wp2
          refine bodyPost_ret (v := .tuple #[.agg #[.int .i32 (d.i32.1), .int .i32 (d.i32.2.i32.1), .int .i32 (d.i32.2.i32.2.i32.1), .int .i32 0, .int .i8 0, .slice Atopics (rdList rdFetchTopic d.i32.2.i32.2.i32.2).1.length ctopics], .int .i64 (0)]) (by simp [results, Tryz.results27, go_sem, z0, z1, z2, z3, z4, z5]) rfl ?_
          rw [edc.out]
          exact ⟨[.int .i32 (d.i32.1), .int .i32 (d.i32.2.i32.1), .int .i32 (d.i32.2.i32.2.i32.1), .int .i32 0, .int .i8 0, .slice Atopics (rdList rdFetchTopic d.i32.2.i32.2.i32.2).1.length ctopics], rfl, kFetchReq_mkM _ _ _ (⟨d.i32.1, d.i32.2.i32.1, d.i32.2.i32.2.i32.1, 0, 0, (rdList rdFetchTopic d.i32.2.i32.2.i32.2).1⟩ : FetchReq) (Kd.R_lower (Kd.R_set (Kd.R_set (Kd.R_set (Kd.R_set (Kd.R_set (Kd.R_set rtopics hg.out (by decide) 0 _) (hid_set hg 0 _).out (by decide) 1 _) (hid_set (hid_set hg 0 _) 1 _).out (by decide) 2 _) (hid_set (hid_set (hid_set hg 0 _) 1 _) 2 _).out (by decide) 3 _) (hid_set (hid_set (hid_set (hid_set hg 0 _) 1 _) 2 _) 3 _).out (by decide) 4 _) (hid_set (hid_set (hid_set (hid_set (hid_set hg 0 _) 1 _) 2 _) 3 _) 4 _).out (by decide) 5 _) (Nat.le_trans hbw.size hbtopics.out)), (Below.setCell (Below.setCell (Below.setCell (Below.setCell (Below.setCell (Below.setCell hbe (p := ⟨gb, 0, none⟩) hsgb.out _) (p := ⟨gb, 1, none⟩) hsgb.out _) (p := ⟨gb, 2, none⟩) hsgb.out _) (p := ⟨gb, 3, none⟩) hsgb.out _) (p := ⟨gb, 4, none⟩) hsgb.out _) (p := ⟨gb, 5, none⟩) hsgb.out _)⟩
        · have hf1 : (((rdList rdFetchTopic d.i32.2.i32.2.i32.2).2).fin != 0) = true := by simp [hfin]
          have edc : Hid (decFin (⟨0, 0, 0, 0, 0, []⟩ : FetchReq) (rdFetchReq d) = (⟨0, 0, 0, 0, 0, []⟩, ((rdList rdFetchTopic d.i32.2.i32.2.i32.2).2).fin)) := Lib.hid (by rw [erd]; exact decFin_bad hfin)
          clear hfin erd
          go_wp2
          refine bodyPost_ret (v := .tuple #[.agg #[.int .i32 0, .int .i32 0, .int .i32 0, .int .i32 0, .int .i8 0, .slice none 0 0], .int .i64 (((rdList rdFetchTopic d.i32.2.i32.2.i32.2).2).fin)]) (by simp [results, Tryz.results27, go_sem, z0, z1, z2, z3, z4, z5]) rfl ?_
          rw [edc.out]
          exact ⟨[.int .i32 0, .int .i32 0, .int .i32 0, .int .i32 0, .int .i8 0, .slice none 0 0], rfl, kFetchReq_mkM _ _ _ (⟨0, 0, 0, 0, 0, []⟩ : FetchReq) (Kd.R_nil _ _ _ _ _), (Below.setCell (Below.setCell (Below.setCell (Below.setCell (Below.setCell (Below.setCell hbe (p := ⟨gb, 0, none⟩) hsgb.out _) (p := ⟨gb, 1, none⟩) hsgb.out _) (p := ⟨gb, 2, none⟩) hsgb.out _) (p := ⟨gb, 3, none⟩) hsgb.out _) (p := ⟨gb, 4, none⟩) hsgb.out _) (p := ⟨gb, 5, none⟩) hsgb.out _)⟩
      · -- yes
        go_wp2_with fail
        refine (cl_i8 wh1 p g bx rv d.i32.2.i32.2.i32.2 hc).mono ?_
        rintro e wlevel_1 ⟨rfl, hc2, mn⟩
        replace hg := hid_mod hg mn hngb
        replace ht := hid_mod ht mn hnt
        replace hm := hm.trans mn
        replace hc := hc2
        have cx := hc.cell
        clear hc2 mn
        have ft := fun i => blk_frozen ht.out i
        have t4 : wlevel_1.cell? ⟨gt, 4, none⟩ = _ := blk_cell ht.out 4
        simp at t4
        have cx1 : (wlevel_1.setCell ⟨gt, 4, none⟩ (.int .i8 (d.i32.2.i32.2.i32.2.i8.1))).cell? ⟨bx, 0, none⟩ = some (.pointer (some ⟨p, 0, none⟩)) := (cell_far hbt).trans (hc.cell)
        have hc1 : Cl (wlevel_1.setCell ⟨gt, 4, none⟩ (.int .i8 (d.i32.2.i32.2.i32.2.i8.1))) p g bx rv d.i32.2.i32.2.i32.2.i8.2 := (hc.far ht.out (by decide) (by decide) (by decide) (by decide) 4 _)
        have hg1 : Hid ((wlevel_1.setCell ⟨gt, 4, none⟩ (.int .i8 (d.i32.2.i32.2.i32.2.i8.1))).heap[gb]? = some (.cells #[.int .i32 0, .int .i32 0, .int .i32 0, .int .i32 0, .int .i8 0, .slice none 0 0] 68 (0, 0))) := (hid_far hg hgt2)
        have ht1 : Hid ((wlevel_1.setCell ⟨gt, 4, none⟩ (.int .i8 (d.i32.2.i32.2.i32.2.i8.1))).heap[gt]? = some (.cells #[.int .i32 (d.i32.1), .int .i32 (d.i32.2.i32.1), .int .i32 (d.i32.2.i32.2.i32.1), .int .i32 0, .int .i8 (d.i32.2.i32.2.i32.2.i8.1), .slice none 0 0] 68 (0, 0))) := hid_cast (hid_set ht 4 (.int .i8 (d.i32.2.i32.2.i32.2.i8.1))) rfl
        have hm1 : Mod (DecS p g) wb (wlevel_1.setCell ⟨gt, 4, none⟩ (.int .i8 (d.i32.2.i32.2.i32.2.i8.1))) := (modFar hm hst 4 _)
        replace hc := hc1
        replace hg := hg1
        replace ht := ht1
        replace hm := hm1
        clear hc1 hg1 ht1 hm1
        go_wp2_with fail
        have hbtopics : Hid (wb.heap.size ≤ (wlevel_1.setCell ⟨gt, 4, none⟩ (.int .i8 (d.i32.2.i32.2.i32.2.i8.1))).heap.size) := hm.size
        refine (cl_list_FetchTopic (wlevel_1.setCell ⟨gt, 4, none⟩ (.int .i8 (d.i32.2.i32.2.i32.2.i8.1))) p g bx rv d.i32.2.i32.2.i32.2.i8.2 hc).mono ?_
        rintro e wtopics_2 ⟨Atopics, ctopics, rfl, rtopics, hc2, mn⟩
        replace hg := hid_mod hg mn hngb
        replace ht := hid_mod ht mn hnt
        replace hm := hm.trans mn
        replace hc := hc2
        have cx := hc.cell
        clear hc2 mn
        have ft := fun i => blk_frozen ht.out i
        have t5 : wtopics_2.cell? ⟨gt, 5, none⟩ = _ := blk_cell ht.out 5
        simp at t5
        have cx1 : (wtopics_2.setCell ⟨gt, 5, none⟩ (.slice Atopics (rdList rdFetchTopic d.i32.2.i32.2.i32.2.i8.2).1.length ctopics)).cell? ⟨bx, 0, none⟩ = some (.pointer (some ⟨p, 0, none⟩)) := (cell_far hbt).trans (hc.cell)
        have hc1 : Cl (wtopics_2.setCell ⟨gt, 5, none⟩ (.slice Atopics (rdList rdFetchTopic d.i32.2.i32.2.i32.2.i8.2).1.length ctopics)) p g bx rv ((rdList rdFetchTopic d.i32.2.i32.2.i32.2.i8.2).2) := (hc.far ht.out (by decide) (by decide) (by decide) (by decide) 5 _)
        have hg1 : Hid ((wtopics_2.setCell ⟨gt, 5, none⟩ (.slice Atopics (rdList rdFetchTopic d.i32.2.i32.2.i32.2.i8.2).1.length ctopics)).heap[gb]? = some (.cells #[.int .i32 0, .int .i32 0, .int .i32 0, .int .i32 0, .int .i8 0, .slice none 0 0] 68 (0, 0))) := (hid_far hg hgt2)
        have ht1 : Hid ((wtopics_2.setCell ⟨gt, 5, none⟩ (.slice Atopics (rdList rdFetchTopic d.i32.2.i32.2.i32.2.i8.2).1.length ctopics)).heap[gt]? = some (.cells #[.int .i32 (d.i32.1), .int .i32 (d.i32.2.i32.1), .int .i32 (d.i32.2.i32.2.i32.1), .int .i32 0, .int .i8 (d.i32.2.i32.2.i32.2.i8.1), .slice Atopics (rdList rdFetchTopic d.i32.2.i32.2.i32.2.i8.2).1.length ctopics] 68 (0, 0))) := hid_cast (hid_set ht 5 (.slice Atopics (rdList rdFetchTopic d.i32.2.i32.2.i32.2.i8.2).1.length ctopics)) rfl
        have hm1 : Mod (DecS p g) wb (wtopics_2.setCell ⟨gt, 5, none⟩ (.slice Atopics (rdList rdFetchTopic d.i32.2.i32.2.i32.2.i8.2).1.length ctopics)) := (modFar hm hst 5 _)
        have rtopics1 := (Kd.R_set rtopics ht.out (by decide) 5 (.slice Atopics (rdList rdFetchTopic d.i32.2.i32.2.i32.2.i8.2).1.length ctopics))
        replace hc := hc1
        replace hg := hg1
        replace ht := ht1
        replace hm := hm1
        replace rtopics := rtopics1
        clear hc1 hg1 ht1 hm1 rtopics1
        go_wp2_with fail
        refine (cl_end (wtopics_2.setCell ⟨gt, 5, none⟩ (.slice Atopics (rdList rdFetchTopic d.i32.2.i32.2.i32.2.i8.2).1.length ctopics)) p g bx rv ((rdList rdFetchTopic d.i32.2.i32.2.i32.2.i8.2).2) hc).mono ?_
        rintro e we ⟨rfl, mn⟩
        replace hg := hid_mod hg mn hngb
        replace ht := hid_mod ht mn hnt
        replace hm := hm.trans mn
        replace rtopics := R_mod rtopics mn (fun k hk => h.new (Nat.le_trans hbtopics.out hk))
        have fg := fun i => blk_frozen hg.out i
        have t0 : we.cell? ⟨gt, 0, none⟩ = _ := blk_cell ht.out 0
        have z0 : we.cell? ⟨gb, 0, none⟩ = _ := blk_cell hg.out 0
        have t1 : we.cell? ⟨gt, 1, none⟩ = _ := blk_cell ht.out 1
        have z1 : we.cell? ⟨gb, 1, none⟩ = _ := blk_cell hg.out 1
        have t2 : we.cell? ⟨gt, 2, none⟩ = _ := blk_cell ht.out 2
        have z2 : we.cell? ⟨gb, 2, none⟩ = _ := blk_cell hg.out 2
        have t3 : we.cell? ⟨gt, 3, none⟩ = _ := blk_cell ht.out 3
        have z3 : we.cell? ⟨gb, 3, none⟩ = _ := blk_cell hg.out 3
        have t4 : we.cell? ⟨gt, 4, none⟩ = _ := blk_cell ht.out 4
        have z4 : we.cell? ⟨gb, 4, none⟩ = _ := blk_cell hg.out 4
        have t5 : we.cell? ⟨gt, 5, none⟩ = _ := blk_cell ht.out 5
        have z5 : we.cell? ⟨gb, 5, none⟩ = _ := blk_cell hg.out 5
        simp at t0 z0 t1 z1 t2 z2 t3 z3 t4 z4 t5 z5
        have erd : rdFetchReq d = (⟨d.i32.1, d.i32.2.i32.1, d.i32.2.i32.2.i32.1, 0, d.i32.2.i32.2.i32.2.i8.1, (rdList rdFetchTopic d.i32.2.i32.2.i32.2.i8.2).1⟩, (rdList rdFetchTopic d.i32.2.i32.2.i32.2.i8.2).2) := by simp only [rdFetchReq, hh0, hh1, Bool.false_eq_true, if_true, if_false]
        have hbe : Below w.heap.size w we := Below.mod hbw hbw.size hm (fun i hi hs => by have := bgb.size; rcases hs with rfl | rfl <;> omega)
        by_cases hfin : ((rdList rdFetchTopic d.i32.2.i32.2.i32.2.i8.2).2).fin = 0
        · have hf1 : (((rdList rdFetchTopic d.i32.2.i32.2.i32.2.i8.2).2).fin != 0) = false := by simp [hfin]
          have edc : Hid (decFin (⟨0, 0, 0, 0, 0, []⟩ : FetchReq) (rdFetchReq d) = (⟨d.i32.1, d.i32.2.i32.1, d.i32.2.i32.2.i32.1, 0, d.i32.2.i32.2.i32.2.i8.1, (rdList rdFetchTopic d.i32.2.i32.2.i32.2.i8.2).1⟩, 0)) := Lib.hid (by rw [erd]; exact decFin_ok hfin)
          clear hfin erd
          go_wp2
          refine bodyPost_ret (v := .tuple #[.agg #[.int .i32 (d.i32.1), .int .i32 (d.i32.2.i32.1), .int .i32 (d.i32.2.i32.2.i32.1), .int .i32 0, .int .i8 (d.i32.2.i32.2.i32.2.i8.1), .slice Atopics (rdList rdFetchTopic d.i32.2.i32.2.i32.2.i8.2).1.length ctopics], .int .i64 (0)]) (by simp [results, Tryz.results27, go_sem, z0, z1, z2, z3, z4, z5]) rfl ?_
          rw [edc.out]
          exact ⟨[.int .i32 (d.i32.1), .int .i32 (d.i32.2.i32.1), .int .i32 (d.i32.2.i32.2.i32.1), .int .i32 0, .int .i8 (d.i32.2.i32.2.i32.2.i8.1), .slice Atopics (rdList rdFetchTopic d.i32.2.i32.2.i32.2.i8.2).1.length ctopics], rfl, kFetchReq_mkM _ _ _ (⟨d.i32.1, d.i32.2.i32.1, d.i32.2.i32.2.i32.1, 0, d.i32.2.i32.2.i32.2.i8.1, (rdList rdFetchTopic d.i32.2.i32.2.i32.2.i8.2).1⟩ : FetchReq) (Kd.R_lower (Kd.R_set (Kd.R_set (Kd.R_set (Kd.R_set (Kd.R_set (Kd.R_set rtopics hg.out (by decide) 0 _) (hid_set hg 0 _).out (by decide) 1 _) (hid_set (hid_set hg 0 _) 1 _).out (by decide) 2 _) (hid_set (hid_set (hid_set hg 0 _) 1 _) 2 _).out (by decide) 3 _) (hid_set (hid_set (hid_set (hid_set hg 0 _) 1 _) 2 _) 3 _).out (by decide) 4 _) (hid_set (hid_set (hid_set (hid_set (hid_set hg 0 _) 1 _) 2 _) 3 _) 4 _).out (by decide) 5 _) (Nat.le_trans hbw.size hbtopics.out)), (Below.setCell (Below.setCell (Below.setCell (Below.setCell (Below.setCell (Below.setCell hbe (p := ⟨gb, 0, none⟩) hsgb.out _) (p := ⟨gb, 1, none⟩) hsgb.out _) (p := ⟨gb, 2, none⟩) hsgb.out _) (p := ⟨gb, 3, none⟩) hsgb.out _) (p := ⟨gb, 4, none⟩) hsgb.out _) (p := ⟨gb, 5, none⟩) hsgb.out _)⟩
        · have hf1 : (((rdList rdFetchTopic d.i32.2.i32.2.i32.2.i8.2).2).fin != 0) = true := by simp [hfin]
          have edc : Hid (decFin (⟨0, 0, 0, 0, 0, []⟩ : FetchReq) (rdFetchReq d) = (⟨0, 0, 0, 0, 0, []⟩, ((rdList rdFetchTopic d.i32.2.i32.2.i32.2.i8.2).2).fin)) := Lib.hid (by rw [erd]; exact decFin_bad hfin)
          clear hfin erd
          go_wp2
          refine bodyPost_ret (v := .tuple #[.agg #[.int .i32 0, .int .i32 0, .int .i32 0, .int .i32 0, .int .i8 0, .slice none 0 0], .int .i64 (((rdList rdFetchTopic d.i32.2.i32.2.i32.2.i8.2).2).fin)]) (by simp [results, Tryz.results27, go_sem, z0, z1, z2, z3, z4, z5]) rfl ?_
          rw [edc.out]
          exact ⟨[.int .i32 0, .int .i32 0, .int .i32 0, .int .i32 0, .int .i8 0, .slice none 0 0], rfl, kFetchReq_mkM _ _ _ (⟨0, 0, 0, 0, 0, []⟩ : FetchReq) (Kd.R_nil _ _ _ _ _), (Below.setCell (Below.setCell (Below.setCell (Below.setCell (Below.setCell (Below.setCell hbe (p := ⟨gb, 0, none⟩) hsgb.out _) (p := ⟨gb, 1, none⟩) hsgb.out _) (p := ⟨gb, 2, none⟩) hsgb.out _) (p := ⟨gb, 3, none⟩) hsgb.out _) (p := ⟨gb, 4, none⟩) hsgb.out _) (p := ⟨gb, 5, none⟩) hsgb.out _)⟩
    · -- yes
      go_wp2_with fail
      refine (cl_i32 wh0 p g bx rv d.i32.2.i32.2.i32.2 hc).mono ?_
      rintro e wmax_0 ⟨rfl, hc2, mn⟩
      replace hg := hid_mod hg mn hngb
      replace ht := hid_mod ht mn hnt
      replace hm := hm.trans mn
      replace hc := hc2
      have cx := hc.cell
      clear hc2 mn
      have ft := fun i => blk_frozen ht.out i
      have t3 : wmax_0.cell? ⟨gt, 3, none⟩ = _ := blk_cell ht.out 3
      simp at t3
      have cx1 : (wmax_0.setCell ⟨gt, 3, none⟩ (.int .i32 (d.i32.2.i32.2.i32.2.i32.1))).cell? ⟨bx, 0, none⟩ = some (.pointer (some ⟨p, 0, none⟩)) := (cell_far hbt).trans (hc.cell)
      have hc1 : Cl (wmax_0.setCell ⟨gt, 3, none⟩ (.int .i32 (d.i32.2.i32.2.i32.2.i32.1))) p g bx rv d.i32.2.i32.2.i32.2.i32.2 := (hc.far ht.out (by decide) (by decide) (by decide) (by decide) 3 _)
      have hg1 : Hid ((wmax_0.setCell ⟨gt, 3, none⟩ (.int .i32 (d.i32.2.i32.2.i32.2.i32.1))).heap[gb]? = some (.cells #[.int .i32 0, .int .i32 0, .int .i32 0, .int .i32 0, .int .i8 0, .slice none 0 0] 68 (0, 0))) := (hid_far hg hgt2)
      have ht1 : Hid ((wmax_0.setCell ⟨gt, 3, none⟩ (.int .i32 (d.i32.2.i32.2.i32.2.i32.1))).heap[gt]? = some (.cells #[.int .i32 (d.i32.1), .int .i32 (d.i32.2.i32.1), .int .i32 (d.i32.2.i32.2.i32.1), .int .i32 (d.i32.2.i32.2.i32.2.i32.1), .int .i8 0, .slice none 0 0] 68 (0, 0))) := hid_cast (hid_set ht 3 (.int .i32 (d.i32.2.i32.2.i32.2.i32.1))) rfl
      have hm1 : Mod (DecS p g) wb (wmax_0.setCell ⟨gt, 3, none⟩ (.int .i32 (d.i32.2.i32.2.i32.2.i32.1))) := (modFar hm hst 3 _)
      replace hc := hc1
      replace hg := hg1
      replace ht := ht1
      replace hm := hm1
      clear hc1 hg1 ht1 hm1
      go_wp2_with fail
      refine (cl_has (wmax_0.setCell ⟨gt, 3, none⟩ (.int .i32 (d.i32.2.i32.2.i32.2.i32.1))) p g bx rv d.i32.2.i32.2.i32.2.i32.2 2 3 hc).mono ?_
      rintro e wh1 ⟨rfl, hc2, mn⟩
      replace hg := hid_mod hg mn hngb
      replace ht := hid_mod ht mn hnt
      replace hm := hm.trans mn
      replace hc := hc2
      have cx := hc.cell
      clear hc2 mn
      cases hh1 : d.i32.2.i32.2.i32.2.i32.2.has 2 3
      · -- no
        go_wp2_with fail
        have hbtopics : Hid (wb.heap.size ≤ wh1.heap.size) := hm.size
        refine (cl_list_FetchTopic wh1 p g bx rv d.i32.2.i32.2.i32.2.i32.2 hc).mono ?_
        rintro e wtopics_2 ⟨Atopics, ctopics, rfl, rtopics, hc2, mn⟩
        replace hg := hid_mod hg mn hngb
        replace ht := hid_mod ht mn hnt
        replace hm := hm.trans mn
        replace hc := hc2
        have cx := hc.cell
        clear hc2 mn
        have ft := fun i => blk_frozen ht.out i
        have t5 : wtopics_2.cell? ⟨gt, 5, none⟩ = _ := blk_cell ht.out 5
        simp at t5
        have cx1 : (wtopics_2.setCell ⟨gt, 5, none⟩ (.slice Atopics (rdList rdFetchTopic d.i32.2.i32.2.i32.2.i32.2).1.length ctopics)).cell? ⟨bx, 0, none⟩ = some (.pointer (some ⟨p, 0, none⟩)) := (cell_far hbt).trans (hc.cell)
        have hc1 : Cl (wtopics_2.setCell ⟨gt, 5, none⟩ (.slice Atopics (rdList rdFetchTopic d.i32.2.i32.2.i32.2.i32.2).1.length ctopics)) p g bx rv ((rdList rdFetchTopic d.i32.2.i32.2.i32.2.i32.2).2) := (hc.far ht.out (by decide) (by decide) (by decide) (by decide) 5 _)
        have hg1 : Hid ((wtopics_2.setCell ⟨gt, 5, none⟩ (.slice Atopics (rdList rdFetchTopic d.i32.2.i32.2.i32.2.i32.2).1.length ctopics)).heap[gb]? = some (.cells #[.int .i32 0, .int .i32 0, .int .i32 0, .int .i32 0, .int .i8 0, .slice none 0 0] 68 (0, 0))) := (hid_far hg hgt2)
        have ht1 : Hid ((wtopics_2.setCell ⟨gt, 5, none⟩ (.slice Atopics (rdList rdFetchTopic d.i32.2.i32.2.i32.2.i32.2).1.length ctopics)).heap[gt]? = some (.cells #[.int .i32 (d.i32.1), .int .i32 (d.i32.2.i32.1), .int .i32 (d.i32.2.i32.2.i32.1), .int .i32 (d.i32.2.i32.2.i32.2.i32.1), .int .i8 0, .slice Atopics (rdList rdFetchTopic d.i32.2.i32.2.i32.2.i32.2).1.length ctopics] 68 (0, 0))) := hid_cast (hid_set ht 5 (.slice Atopics (rdList rdFetchTopic d.i32.2.i32.2.i32.2.i32.2).1.length ctopics)) rfl
        have hm1 : Mod (DecS p g) wb (wtopics_2.setCell ⟨gt, 5, none⟩ (.slice Atopics (rdList rdFetchTopic d.i32.2.i32.2.i32.2.i32.2).1.length ctopics)) := (modFar hm hst 5 _)
        have rtopics1 := (Kd.R_set rtopics ht.out (by decide) 5 (.slice Atopics (rdList rdFetchTopic d.i32.2.i32.2.i32.2.i32.2).1.length ctopics))
        replace hc := hc1
        replace hg := hg1
        replace ht := ht1
        replace hm := hm1
        replace rtopics := rtopics1
        clear hc1 hg1 ht1 hm1 rtopics1
        go_wp2_with fail
        refine (cl_end (wtopics_2.setCell ⟨gt, 5, none⟩ (.slice Atopics (rdList rdFetchTopic d.i32.2.i32.2.i32.2.i32.2).1.length ctopics)) p g bx rv ((rdList rdFetchTopic d.i32.2.i32.2.i32.2.i32.2).2) hc).mono ?_
        rintro e we ⟨rfl, mn⟩
        replace hg := hid_mod hg mn hngb
        replace ht := hid_mod ht mn hnt
        replace hm := hm.trans mn
        replace rtopics := R_mod rtopics mn (fun k hk => h.new (Nat.le_trans hbtopics.out hk))
        have fg := fun i => blk_frozen hg.out i
        have t0 : we.cell? ⟨gt, 0, none⟩ = _ := blk_cell ht.out 0
        have z0 : we.cell? ⟨gb, 0, none⟩ = _ := blk_cell hg.out 0
        have t1 : we.cell? ⟨gt, 1, none⟩ = _ := blk_cell ht.out 1
        have z1 : we.cell? ⟨gb, 1, none⟩ = _ := blk_cell hg.out 1
        have t2 : we.cell? ⟨gt, 2, none⟩ = _ := blk_cell ht.out 2
        have z2 : we.cell? ⟨gb, 2, none⟩ = _ := blk_cell hg.out 2
        have t3 : we.cell? ⟨gt, 3, none⟩ = _ := blk_cell ht.out 3
        have z3 : we.cell? ⟨gb, 3, none⟩ = _ := blk_cell hg.out 3
        have t4 : we.cell? ⟨gt, 4, none⟩ = _ := blk_cell ht.out 4
        have z4 : we.cell? ⟨gb, 4, none⟩ = _ := blk_cell hg.out 4
        have t5 : we.cell? ⟨gt, 5, none⟩ = _ := blk_cell ht.out 5
        have z5 : we.cell? ⟨gb, 5, none⟩ = _ := blk_cell hg.out 5
        simp at t0 z0 t1 z1 t2 z2 t3 z3 t4 z4 t5 z5
        have erd : rdFetchReq d = (⟨d.i32.1, d.i32.2.i32.1, d.i32.2.i32.2.i32.1, d.i32.2.i32.2.i32.2.i32.1, 0, (rdList rdFetchTopic d.i32.2.i32.2.i32.2.i32.2).1⟩, (rdList rdFetchTopic d.i32.2.i32.2.i32.2.i32.2).2) := by simp only [rdFetchReq, hh0, hh1, Bool.false_eq_true, if_true, if_false]
        have hbe : Below w.heap.size w we := Below.mod hbw hbw.size hm (fun i hi hs => by have := bgb.size; rcases hs with rfl | rfl <;> omega)
        by_cases hfin : ((rdList rdFetchTopic d.i32.2.i32.2.i32.2.i32.2).2).fin = 0
        · have hf1 : (((rdList rdFetchTopic d.i32.2.i32.2.i32.2.i32.2).2).fin != 0) = false := by simp [hfin]
          have edc : Hid (decFin (⟨0, 0, 0, 0, 0, []⟩ : FetchReq) (rdFetchReq d) = (⟨d.i32.1, d.i32.2.i32.1, d.i32.2.i32.2.i32.1, d.i32.2.i32.2.i32.2.i32.1, 0, (rdList rdFetchTopic d.i32.2.i32.2.i32.2.i32.2).1⟩, 0)) := Lib.hid (by rw [erd]; exact decFin_ok hfin)
          clear hfin erd
          go_wp2
          refine bodyPost_ret (v := .tuple #[.agg #[.int .i32 (d.i32.1), .int .i32 (d.i32.2.i32.1), .int .i32 (d.i32.2.i32.2.i32.1), .int .i32 (d.i32.2.i32.2.i32.2.i32.1), .int .i8 0, .slice Atopics (rdList rdFetchTopic d.i32.2.i32.2.i32.2.i32.2).1.length ctopics], .int .i64 (0)]) (by simp [results, Tryz.results27, go_sem, z0, z1, z2, z3, z4, z5]) rfl ?_
          rw [edc.out]
          exact ⟨[.int .i32 (d.i32.1), .int .i32 (d.i32.2.i32.1), .int .i32 (d.i32.2.i32.2.i32.1), .int .i32 (d.i32.2.i32.2.i32.2.i32.1), .int .i8 0, .slice Atopics (rdList rdFetchTopic d.i32.2.i32.2.i32.2.i32.2).1.length ctopics], rfl, kFetchReq_mkM _ _ _ (⟨d.i32.1, d.i32.2.i32.1, d.i32.2.i32.2.i32.1, d.i32.2.i32.2.i32.2.i32.1, 0, (rdList rdFetchTopic d.i32.2.i32.2.i32.2.i32.2).1⟩ : FetchReq) (Kd.R_lower (Kd.R_set (Kd.R_set (Kd.R_set (Kd.R_set (Kd.R_set (Kd.R_set rtopics hg.out (by decide) 0 _) (hid_set hg 0 _).out (by decide) 1 _) (hid_set (hid_set hg 0 _) 1 _).out (by decide) 2 _) (hid_set (hid_set (hid_set hg 0 _) 1 _) 2 _).out (by decide) 3 _) (hid_set (hid_set (hid_set (hid_set hg 0 _) 1 _) 2 _) 3 _).out (by decide) 4 _) (hid_set (hid_set (hid_set (hid_set (hid_set hg 0 _) 1 _) 2 _) 3 _) 4 _).out (by decide) 5 _) (Nat.le_trans hbw.size hbtopics.out)), (Below.setCell (Below.setCell (Below.setCell (Below.setCell (Below.setCell (Below.setCell hbe (p := ⟨gb, 0, none⟩) hsgb.out _) (p := ⟨gb, 1, none⟩) hsgb.out _) (p := ⟨gb, 2, none⟩) hsgb.out _) (p := ⟨gb, 3, none⟩) hsgb.out _) (p := ⟨gb, 4, none⟩) hsgb.out _) (p := ⟨gb, 5, none⟩) hsgb.out _)⟩
        · have hf1 : (((rdList rdFetchTopic d.i32.2.i32.2.i32.2.i32.2).2).fin != 0) = true := by simp [hfin]
          have edc : Hid (decFin (⟨0, 0, 0, 0, 0, []⟩ : FetchReq) (rdFetchReq d) = (⟨0, 0, 0, 0, 0, []⟩, ((rdList rdFetchTopic d.i32.2.i32.2.i32.2.i32.2).2).fin)) := Lib.hid (by rw [erd]; exact decFin_bad hfin)
          clear hfin erd
          go_wp2
          refine bodyPost_ret (v := .tuple #[.agg #[.int .i32 0, .int .i32 0, .int .i32 0, .int .i32 0, .int .i8 0, .slice none 0 0], .int .i64 (((rdList rdFetchTopic d.i32.2.i32.2.i32.2.i32.2).2).fin)]) (by simp [results, Tryz.results27, go_sem, z0, z1, z2, z3, z4, z5]) rfl ?_
          rw [edc.out]
          exact ⟨[.int .i32 0, .int .i32 0, .int .i32 0, .int .i32 0, .int .i8 0, .slice none 0 0], rfl, kFetchReq_mkM _ _ _ (⟨0, 0, 0, 0, 0, []⟩ : FetchReq) (Kd.R_nil _ _ _ _ _), (Below.setCell (Below.setCell (Below.setCell (Below.setCell (Below.setCell (Below.setCell hbe (p := ⟨gb, 0, none⟩) hsgb.out _) (p := ⟨gb, 1, none⟩) hsgb.out _) (p := ⟨gb, 2, none⟩) hsgb.out _) (p := ⟨gb, 3, none⟩) hsgb.out _) (p := ⟨gb, 4, none⟩) hsgb.out _) (p := ⟨gb, 5, none⟩) hsgb.out _)⟩
      · -- yes
        go_wp2_with fail
        refine (cl_i8 wh1 p g bx rv d.i32.2.i32.2.i32.2.i32.2 hc).mono ?_
        rintro e wlevel_1 ⟨rfl, hc2, mn⟩
        replace hg := hid_mod hg mn hngb
        replace ht := hid_mod ht mn hnt
        replace hm := hm.trans mn
        replace hc := hc2
        have cx := hc.cell
        clear hc2 mn
        have ft := fun i => blk_frozen ht.out i
        have t4 : wlevel_1.cell? ⟨gt, 4, none⟩ = _ := blk_cell ht.out 4
        simp at t4
        have cx1 : (wlevel_1.setCell ⟨gt, 4, none⟩ (.int .i8 (d.i32.2.i32.2.i32.2.i32.2.i8.1))).cell? ⟨bx, 0, none⟩ = some (.pointer (some ⟨p, 0, none⟩)) := (cell_far hbt).trans (hc.cell)
        have hc1 : Cl (wlevel_1.setCell ⟨gt, 4, none⟩ (.int .i8 (d.i32.2.i32.2.i32.2.i32.2.i8.1))) p g bx rv d.i32.2.i32.2.i32.2.i32.2.i8.2 := (hc.far ht.out (by decide) (by decide) (by decide) (by decide) 4 _)
        have hg1 : Hid ((wlevel_1.setCell ⟨gt, 4, none⟩ (.int .i8 (d.i32.2.i32.2.i32.2.i32.2.i8.1))).heap[gb]? = some (.cells #[.int .i32 0, .int .i32 0, .int .i32 0, .int .i32 0, .int .i8 0, .slice none 0 0] 68 (0, 0))) := (hid_far hg hgt2)
        have ht1 : Hid ((wlevel_1.setCell ⟨gt, 4, none⟩ (.int .i8 (d.i32.2.i32.2.i32.2.i32.2.i8.1))).heap[gt]? = some (.cells #[.int .i32 (d.i32.1), .int .i32 (d.i32.2.i32.1), .int .i32 (d.i32.2.i32.2.i32.1), .int .i32 (d.i32.2.i32.2.i32.2.i32.1), .int .i8 (d.i32.2.i32.2.i32.2.i32.2.i8.1), .slice none 0 0] 68 (0, 0))) := hid_cast (hid_set ht 4 (.int .i8 (d.i32.2.i32.2.i32.2.i32.2.i8.1))) rfl
        have hm1 : Mod (DecS p g) wb (wlevel_1.setCell ⟨gt, 4, none⟩ (.int .i8 (d.i32.2.i32.2.i32.2.i32.2.i8.1))) := (modFar hm hst 4 _)
        replace hc := hc1
        replace hg := hg1
        replace ht := ht1
        replace hm := hm1
        clear hc1 hg1 ht1 hm1
        go_wp2_with fail
        have hbtopics : Hid (wb.heap.size ≤ (wlevel_1.setCell ⟨gt, 4, none⟩ (.int .i8 (d.i32.2.i32.2.i32.2.i32.2.i8.1))).heap.size) := hm.size
        refine (cl_list_FetchTopic (wlevel_1.setCell ⟨gt, 4, none⟩ (.int .i8 (d.i32.2.i32.2.i32.2.i32.2.i8.1))) p g bx rv d.i32.2.i32.2.i32.2.i32.2.i8.2 hc).mono ?_
        rintro e wtopics_2 ⟨Atopics, ctopics, rfl, rtopics, hc2, mn⟩
        replace hg := hid_mod hg mn hngb
        replace ht := hid_mod ht mn hnt
        replace hm := hm.trans mn
        replace hc := hc2
        have cx := hc.cell
        clear hc2 mn
        have ft := fun i => blk_frozen ht.out i
        have t5 : wtopics_2.cell? ⟨gt, 5, none⟩ = _ := blk_cell ht.out 5
        simp at t5
        have cx1 : (wtopics_2.setCell ⟨gt, 5, none⟩ (.slice Atopics (rdList rdFetchTopic d.i32.2.i32.2.i32.2.i32.2.i8.2).1.length ctopics)).cell? ⟨bx, 0, none⟩ = some (.pointer (some ⟨p, 0, none⟩)) := (cell_far hbt).trans (hc.cell)
        have hc1 : Cl (wtopics_2.setCell ⟨gt, 5, none⟩ (.slice Atopics (rdList rdFetchTopic d.i32.2.i32.2.i32.2.i32.2.i8.2).1.length ctopics)) p g bx rv ((rdList rdFetchTopic d.i32.2.i32.2.i32.2.i32.2.i8.2).2) := (hc.far ht.out (by decide) (by decide) (by decide) (by decide) 5 _)
        have hg1 : Hid ((wtopics_2.setCell ⟨gt, 5, none⟩ (.slice Atopics (rdList rdFetchTopic d.i32.2.i32.2.i32.2.i32.2.i8.2).1.length ctopics)).heap[gb]? = some (.cells #[.int .i32 0, .int .i32 0, .int .i32 0, .int .i32 0, .int .i8 0, .slice none 0 0] 68 (0, 0))) := (hid_far hg hgt2)
        have ht1 : Hid ((wtopics_2.setCell ⟨gt, 5, none⟩ (.slice Atopics (rdList rdFetchTopic d.i32.2.i32.2.i32.2.i32.2.i8.2).1.length ctopics)).heap[gt]? = some (.cells #[.int .i32 (d.i32.1), .int .i32 (d.i32.2.i32.1), .int .i32 (d.i32.2.i32.2.i32.1), .int .i32 (d.i32.2.i32.2.i32.2.i32.1), .int .i8 (d.i32.2.i32.2.i32.2.i32.2.i8.1), .slice Atopics (rdList rdFetchTopic d.i32.2.i32.2.i32.2.i32.2.i8.2).1.length ctopics] 68 (0, 0))) := hid_cast (hid_set ht 5 (.slice Atopics (rdList rdFetchTopic d.i32.2.i32.2.i32.2.i32.2.i8.2).1.length ctopics)) rfl
        have hm1 : Mod (DecS p g) wb (wtopics_2.setCell ⟨gt, 5, none⟩ (.slice Atopics (rdList rdFetchTopic d.i32.2.i32.2.i32.2.i32.2.i8.2).1.length ctopics)) := (modFar hm hst 5 _)
        have rtopics1 := (Kd.R_set rtopics ht.out (by decide) 5 (.slice Atopics (rdList rdFetchTopic d.i32.2.i32.2.i32.2.i32.2.i8.2).1.length ctopics))
        replace hc := hc1
        replace hg := hg1
        replace ht := ht1
        replace hm := hm1
        replace rtopics := rtopics1
        clear hc1 hg1 ht1 hm1 rtopics1
        go_wp2_with fail
        refine (cl_end (wtopics_2.setCell ⟨gt, 5, none⟩ (.slice Atopics (rdList rdFetchTopic d.i32.2.i32.2.i32.2.i32.2.i8.2).1.length ctopics)) p g bx rv ((rdList rdFetchTopic d.i32.2.i32.2.i32.2.i32.2.i8.2).2) hc).mono ?_
        rintro e we ⟨rfl, mn⟩
        replace hg := hid_mod hg mn hngb
        replace ht := hid_mod ht mn hnt
        replace hm := hm.trans mn
        replace rtopics := R_mod rtopics mn (fun k hk => h.new (Nat.le_trans hbtopics.out hk))
        have fg := fun i => blk_frozen hg.out i
        have t0 : we.cell? ⟨gt, 0, none⟩ = _ := blk_cell ht.out 0
        have z0 : we.cell? ⟨gb, 0, none⟩ = _ := blk_cell hg.out 0
        have t1 : we.cell? ⟨gt, 1, none⟩ = _ := blk_cell ht.out 1
        have z1 : we.cell? ⟨gb, 1, none⟩ = _ := blk_cell hg.out 1
        have t2 : we.cell? ⟨gt, 2, none⟩ = _ := blk_cell ht.out 2
        have z2 : we.cell? ⟨gb, 2, none⟩ = _ := blk_cell hg.out 2
        have t3 : we.cell? ⟨gt, 3, none⟩ = _ := blk_cell ht.out 3
        have z3 : we.cell? ⟨gb, 3, none⟩ = _ := blk_cell hg.out 3
        have t4 : we.cell? ⟨gt, 4, none⟩ = _ := blk_cell ht.out 4
        have z4 : we.cell? ⟨gb, 4, none⟩ = _ := blk_cell hg.out 4
        have t5 : we.cell? ⟨gt, 5, none⟩ = _ := blk_cell ht.out 5
        have z5 : we.cell? ⟨gb, 5, none⟩ = _ := blk_cell hg.out 5
        simp at t0 z0 t1 z1 t2 z2 t3 z3 t4 z4 t5 z5
        have erd : rdFetchReq d = (⟨d.i32.1, d.i32.2.i32.1, d.i32.2.i32.2.i32.1, d.i32.2.i32.2.i32.2.i32.1, d.i32.2.i32.2.i32.2.i32.2.i8.1, (rdList rdFetchTopic d.i32.2.i32.2.i32.2.i32.2.i8.2).1⟩, (rdList rdFetchTopic d.i32.2.i32.2.i32.2.i32.2.i8.2).2) := by simp only [rdFetchReq, hh0, hh1, Bool.false_eq_true, if_true, if_false]
        have hbe : Below w.heap.size w we := Below.mod hbw hbw.size hm (fun i hi hs => by have := bgb.size; rcases hs with rfl | rfl <;> omega)
        by_cases hfin : ((rdList rdFetchTopic d.i32.2.i32.2.i32.2.i32.2.i8.2).2).fin = 0
        · have hf1 : (((rdList rdFetchTopic d.i32.2.i32.2.i32.2.i32.2.i8.2).2).fin != 0) = false := by simp [hfin]
          have edc : Hid (decFin (⟨0, 0, 0, 0, 0, []⟩ : FetchReq) (rdFetchReq d) = (⟨d.i32.1, d.i32.2.i32.1, d.i32.2.i32.2.i32.1, d.i32.2.i32.2.i32.2.i32.1, d.i32.2.i32.2.i32.2.i32.2.i8.1, (rdList rdFetchTopic d.i32.2.i32.2.i32.2.i32.2.i8.2).1⟩, 0)) := Lib.hid (by rw [erd]; exact decFin_ok hfin)
          clear hfin erd
          go_wp2
          refine bodyPost_ret (v := .tuple #[.agg #[.int .i32 (d.i32.1), .int .i32 (d.i32.2.i32.1), .int .i32 (d.i32.2.i32.2.i32.1), .int .i32 (d.i32.2.i32.2.i32.2.i32.1), .int .i8 (d.i32.2.i32.2.i32.2.i32.2.i8.1), .slice Atopics (rdList rdFetchTopic d.i32.2.i32.2.i32.2.i32.2.i8.2).1.length ctopics], .int .i64 (0)]) (by simp [results, Tryz.results27, go_sem, z0, z1, z2, z3, z4, z5]) rfl ?_
          rw [edc.out]
          exact ⟨[.int .i32 (d.i32.1), .int .i32 (d.i32.2.i32.1), .int .i32 (d.i32.2.i32.2.i32.1), .int .i32 (d.i32.2.i32.2.i32.2.i32.1), .int .i8 (d.i32.2.i32.2.i32.2.i32.2.i8.1), .slice Atopics (rdList rdFetchTopic d.i32.2.i32.2.i32.2.i32.2.i8.2).1.length ctopics], rfl, kFetchReq_mkM _ _ _ (⟨d.i32.1, d.i32.2.i32.1, d.i32.2.i32.2.i32.1, d.i32.2.i32.2.i32.2.i32.1, d.i32.2.i32.2.i32.2.i32.2.i8.1, (rdList rdFetchTopic d.i32.2.i32.2.i32.2.i32.2.i8.2).1⟩ : FetchReq) (Kd.R_lower (Kd.R_set (Kd.R_set (Kd.R_set (Kd.R_set (Kd.R_set (Kd.R_set rtopics hg.out (by decide) 0 _) (hid_set hg 0 _).out (by decide) 1 _) (hid_set (hid_set hg 0 _) 1 _).out (by decide) 2 _) (hid_set (hid_set (hid_set hg 0 _) 1 _) 2 _).out (by decide) 3 _) (hid_set (hid_set (hid_set (hid_set hg 0 _) 1 _) 2 _) 3 _).out (by decide) 4 _) (hid_set (hid_set (hid_set (hid_set (hid_set hg 0 _) 1 _) 2 _) 3 _) 4 _).out (by decide) 5 _) (Nat.le_trans hbw.size hbtopics.out)), (Below.setCell (Below.setCell (Below.setCell (Below.setCell (Below.setCell (Below.setCell hbe (p := ⟨gb, 0, none⟩) hsgb.out _) (p := ⟨gb, 1, none⟩) hsgb.out _) (p := ⟨gb, 2, none⟩) hsgb.out _) (p := ⟨gb, 3, none⟩) hsgb.out _) (p := ⟨gb, 4, none⟩) hsgb.out _) (p := ⟨gb, 5, none⟩) hsgb.out _)⟩
        · have hf1 : (((rdList rdFetchTopic d.i32.2.i32.2.i32.2.i32.2.i8.2).2).fin != 0) = true := by simp [hfin]
          have edc : Hid (decFin (⟨0, 0, 0, 0, 0, []⟩ : FetchReq) (rdFetchReq d) = (⟨0, 0, 0, 0, 0, []⟩, ((rdList rdFetchTopic d.i32.2.i32.2.i32.2.i32.2.i8.2).2).fin)) := Lib.hid (by rw [erd]; exact decFin_bad hfin)
          clear hfin erd
          go_wp2
          refine bodyPost_ret (v := .tuple #[.agg #[.int .i32 0, .int .i32 0, .int .i32 0, .int .i32 0, .int .i8 0, .slice none 0 0], .int .i64 (((rdList rdFetchTopic d.i32.2.i32.2.i32.2.i32.2.i8.2).2).fin)]) (by simp [results, Tryz.results27, go_sem, z0, z1, z2, z3, z4, z5]) rfl ?_
          rw [edc.out]
          exact ⟨[.int .i32 0, .int .i32 0, .int .i32 0, .int .i32 0, .int .i8 0, .slice none 0 0], rfl, kFetchReq_mkM _ _ _ (⟨0, 0, 0, 0, 0, []⟩ : FetchReq) (Kd.R_nil _ _ _ _ _), (Below.setCell (Below.setCell (Below.setCell (Below.setCell (Below.setCell (Below.setCell hbe (p := ⟨gb, 0, none⟩) hsgb.out _) (p := ⟨gb, 1, none⟩) hsgb.out _) (p := ⟨gb, 2, none⟩) hsgb.out _) (p := ⟨gb, 3, none⟩) hsgb.out _) (p := ⟨gb, 4, none⟩) hsgb.out _) (p := ⟨gb, 5, none⟩) hsgb.out _)⟩

end Go.Proofs.YteckmgmcfngddaaGreat
end

section
/- The reader of a part: ListPart. -/
set_option linter.unusedVariables false
set_option linter.unusedSimpArgs false
namespace Go.Proofs.YteckmgmcfngddaaGreat
open Go.RowKit Go.Proofs.YteckmgmcfngddaaGreatW.PrintWords

def rdListPart (d : DS) : ListPart × DS :=
  let r0 := d.i32
  let r1 := if r0.2.has 3 3 = true then r0.2.i32 else (0, r0.2)
  let r2 := r1.2.i64
  let r3 := if r2.2.has 0 0 = true then r2.2.i32 else (0, r2.2)
  (⟨r0.1, r1.1, r2.1, r3.1⟩, r3.2)

set_option maxRecDepth 100000 in
set_option maxHeartbeats 6400000 in
theorem cl_ListPart (w : World) (p g bx : Nat) (rv : Value) (d : DS) (h : Cl w p g bx rv d) :
    Calls Tryz.prog 101 #[.pointer (some ⟨bx, 0, none⟩)] w (ClPostM kListPart p g bx rv (rdListPart d).1 (rdListPart d).2 w) := by
  have hmf : ∀ (fn : Fn) (first cap : Array Value) (w : World), (Instr.makeFunc fn first cap).run Tryz.prog w = .ok (.func fn first cap) w := fun _ _ _ _ => rfl
  go_enter Tryz.func101, Tryz.ntmps101
  go_wp2_with (first | ((with_reducible refine gate_dst (N := 1) rfl ?_); refine box_event ?hg (N := 1) ?hd (cs := #[.int .i32 0, .int .i32 0, .int .i64 0, .int .i32 0]) (t := 181) ?hr ?_; (case hd => rfl); (case hg => rfl); (case hr => first | (go_simp; done) | (go_simp; rfl)); intro gb hgb w0 kgb bgb; have hc0 := h.below bgb; have hm0 : Mod (DecS p g) w w0 := Mod.of_below bgb; have hg0 : Hid (w0.heap[gb]? = some (.cells #[.int .i32 0, .int .i32 0, .int .i64 0, .int .i32 0] 181 (0, 0))) := kgb; have hc := h.below bgb; have hbx := blk_ne hc.box kgb (by decide); have hngb : Hid (¬ DecS p g gb) := h.new (Nat.le_of_eq hgb.symm); have hsgb : Hid (w.heap.size ≤ gb) := Nat.le_of_eq hgb.symm; have hg : Hid (w0.heap[gb]? = some (.cells #[.int .i32 0, .int .i32 0, .int .i64 0, .int .i32 0] 181 (0, 0))) := kgb; have hm : Mod (DecS p g) w w0 := (Mod.of_below bgb); have cx := hc.cell; clear hgb kgb bgb))
  refine (cl_i32 w0 p g bx rv d hc).mono ?_
  rintro e w1 ⟨rfl, hc2, mn⟩
  have hg := hid_mod hg mn hngb
  have hm := hm.trans mn
  have hc := hc2
  have cx := hc.cell
  clear hc2 mn
  go_wp2_with (first | ((with_reducible refine gate_dst (N := 2) rfl ?_); refine box_event ?hg (N := 2) ?hd (cs := #[.int .i32 0, .int .i32 0, .int .i64 0, .int .i32 0]) (t := 181) ?hr ?_; (case hd => rfl); (case hg => rfl); (case hr => first | (go_simp; done) | (go_simp; rfl)); intro gt hgt wt kgt bgt; have hc := hc.below bgt; have hbt := blk_ne hc.box kgt (by decide); have hst : Hid (w.heap.size ≤ gt) := Nat.le_trans hm.size (Nat.le_of_eq hgt.symm); have hgt2 : Hid (gb ≠ gt) := Nat.ne_of_lt (Nat.lt_of_lt_of_le (blk_lt hg.out) (Nat.le_of_eq hgt.symm)); have hnt : Hid (¬ DecS p g gt) := h.new hst.out; have hg := hid_mod hg (Mod.of_below (S := fun _ => False) bgt) (Lib.hid id); have hm := hm.trans (Mod.of_below bgt); have ht : Hid (wt.heap[gt]? = some (.cells #[.int .i32 0, .int .i32 0, .int .i64 0, .int .i32 0] 181 (0, 0))) := kgt; clear kgt hgt bgt; have ft := fun i => blk_frozen ht.out i; have t0 : wt.cell? ⟨gt, 0, none⟩ = _ := blk_cell ht.out 0; have t1 : wt.cell? ⟨gt, 1, none⟩ = _ := blk_cell ht.out 1; have t2 : wt.cell? ⟨gt, 2, none⟩ = _ := blk_cell ht.out 2; have t3 : wt.cell? ⟨gt, 3, none⟩ = _ := blk_cell ht.out 3; simp at t0 t1 t2 t3; have cx : ((((wt.setCell ⟨gt, 0, none⟩ (.int .i32 (d.i32.1))).setCell ⟨gt, 1, none⟩ (.int .i32 0)).setCell ⟨gt, 2, none⟩ (.int .i64 0)).setCell ⟨gt, 3, none⟩ (.int .i32 0)).cell? ⟨bx, 0, none⟩ = some (.pointer (some ⟨p, 0, none⟩)) := (cell_far hbt).trans ((cell_far hbt).trans ((cell_far hbt).trans ((cell_far hbt).trans (hc.cell))))))
  have hc1 : Cl (((((wt.setCell ⟨gt, 0, none⟩ (.int .i32 (d.i32.1))).setCell ⟨gt, 1, none⟩ (.int .i32 0)).setCell ⟨gt, 2, none⟩ (.int .i64 0)).setCell ⟨gt, 3, none⟩ (.int .i32 0))) p g bx rv d.i32.2 := ((((hc.far ht.out (by decide) (by decide) (by decide) (by decide) 0 _).far (hid_set ht 0 _).out (by decide) (by decide) (by decide) (by decide) 1 _).far (hid_set (hid_set ht 0 _) 1 _).out (by decide) (by decide) (by decide) (by decide) 2 _).far (hid_set (hid_set (hid_set ht 0 _) 1 _) 2 _).out (by decide) (by decide) (by decide) (by decide) 3 _)
  have hg1 : Hid ((((((wt.setCell ⟨gt, 0, none⟩ (.int .i32 (d.i32.1))).setCell ⟨gt, 1, none⟩ (.int .i32 0)).setCell ⟨gt, 2, none⟩ (.int .i64 0)).setCell ⟨gt, 3, none⟩ (.int .i32 0))).heap[gb]? = some (.cells #[.int .i32 0, .int .i32 0, .int .i64 0, .int .i32 0] 181 (0, 0))) := (hid_far (hid_far (hid_far (hid_far hg hgt2) hgt2) hgt2) hgt2)
  have ht1 : Hid ((((((wt.setCell ⟨gt, 0, none⟩ (.int .i32 (d.i32.1))).setCell ⟨gt, 1, none⟩ (.int .i32 0)).setCell ⟨gt, 2, none⟩ (.int .i64 0)).setCell ⟨gt, 3, none⟩ (.int .i32 0))).heap[gt]? = some (.cells #[.int .i32 (d.i32.1), .int .i32 0, .int .i64 0, .int .i32 0] 181 (0, 0))) := hid_cast (hid_set (hid_set (hid_set (hid_set ht 0 _) 1 _) 2 _) 3 _) rfl
  have hm1 : Mod (DecS p g) w (((((wt.setCell ⟨gt, 0, none⟩ (.int .i32 (d.i32.1))).setCell ⟨gt, 1, none⟩ (.int .i32 0)).setCell ⟨gt, 2, none⟩ (.int .i64 0)).setCell ⟨gt, 3, none⟩ (.int .i32 0))) := (modFar (modFar (modFar (modFar hm hst 0 _) hst 1 _) hst 2 _) hst 3 _)
  generalize ((((wt.setCell ⟨gt, 0, none⟩ (.int .i32 (d.i32.1))).setCell ⟨gt, 1, none⟩ (.int .i32 0)).setCell ⟨gt, 2, none⟩ (.int .i64 0)).setCell ⟨gt, 3, none⟩ (.int .i32 0)) = wc at *
  replace hc := hc1
  replace hg := hg1
  replace ht := ht1
  replace hm := hm1
  clear hc1 hg1 ht1 hm1
  go_wp2_with fail
  refine (cl_has wc p g bx rv d.i32.2 3 3 hc).mono ?_
  rintro e wh0 ⟨rfl, hc2, mn⟩
  replace hg := hid_mod hg mn hngb
  replace ht := hid_mod ht mn hnt
  replace hm := hm.trans mn
  replace hc := hc2
  have cx := hc.cell
  clear hc2 mn
  cases hh0 : d.i32.2.has 3 3
  · -- no
    go_wp2_with fail
    refine (cl_i64 wh0 p g bx rv d.i32.2 hc).mono ?_
    rintro e wtime_1 ⟨rfl, hc2, mn⟩
    replace hg := hid_mod hg mn hngb
    replace ht := hid_mod ht mn hnt
    replace hm := hm.trans mn
    replace hc := hc2
    have cx := hc.cell
    clear hc2 mn
    have ft := fun i => blk_frozen ht.out i
    have t2 : wtime_1.cell? ⟨gt, 2, none⟩ = _ := blk_cell ht.out 2
    simp at t2
    have cx1 : (wtime_1.setCell ⟨gt, 2, none⟩ (.int .i64 (d.i32.2.i64.1))).cell? ⟨bx, 0, none⟩ = some (.pointer (some ⟨p, 0, none⟩)) := (cell_far hbt).trans (hc.cell)
    have hc1 : Cl (wtime_1.setCell ⟨gt, 2, none⟩ (.int .i64 (d.i32.2.i64.1))) p g bx rv d.i32.2.i64.2 := (hc.far ht.out (by decide) (by decide) (by decide) (by decide) 2 _)
    have hg1 : Hid ((wtime_1.setCell ⟨gt, 2, none⟩ (.int .i64 (d.i32.2.i64.1))).heap[gb]? = some (.cells #[.int .i32 0, .int .i32 0, .int .i64 0, .int .i32 0] 181 (0, 0))) := (hid_far hg hgt2)
    have ht1 : Hid ((wtime_1.setCell ⟨gt, 2, none⟩ (.int .i64 (d.i32.2.i64.1))).heap[gt]? = some (.cells #[.int .i32 (d.i32.1), .int .i32 0, .int .i64 (d.i32.2.i64.1), .int .i32 0] 181 (0, 0))) := hid_cast (hid_set ht 2 (.int .i64 (d.i32.2.i64.1))) rfl
    have hm1 : Mod (DecS p g) w (wtime_1.setCell ⟨gt, 2, none⟩ (.int .i64 (d.i32.2.i64.1))) := (modFar hm hst 2 _)
    replace hc := hc1
    replace hg := hg1
    replace ht := ht1
    replace hm := hm1
    clear hc1 hg1 ht1 hm1
    go_wp2_with fail
    refine (cl_has (wtime_1.setCell ⟨gt, 2, none⟩ (.int .i64 (d.i32.2.i64.1))) p g bx rv d.i32.2.i64.2 0 0 hc).mono ?_
    rintro e wh2 ⟨rfl, hc2, mn⟩
    replace hg := hid_mod hg mn hngb
    replace ht := hid_mod ht mn hnt
    replace hm := hm.trans mn
    replace hc := hc2
    have cx := hc.cell
    clear hc2 mn
    cases hh2 : d.i32.2.i64.2.has 0 0
    · -- no
      have fg := fun i => blk_frozen hg.out i
      have t0 : wh2.cell? ⟨gt, 0, none⟩ = _ := blk_cell ht.out 0
      have z0 : wh2.cell? ⟨gb, 0, none⟩ = _ := blk_cell hg.out 0
      have t1 : wh2.cell? ⟨gt, 1, none⟩ = _ := blk_cell ht.out 1
      have z1 : wh2.cell? ⟨gb, 1, none⟩ = _ := blk_cell hg.out 1
      have t2 : wh2.cell? ⟨gt, 2, none⟩ = _ := blk_cell ht.out 2
      have z2 : wh2.cell? ⟨gb, 2, none⟩ = _ := blk_cell hg.out 2
      have t3 : wh2.cell? ⟨gt, 3, none⟩ = _ := blk_cell ht.out 3
      have z3 : wh2.cell? ⟨gb, 3, none⟩ = _ := blk_cell hg.out 3
      simp at t0 z0 t1 z1 t2 z2 t3 z3
      go_wp2
      have erd : rdListPart d = (⟨d.i32.1, 0, d.i32.2.i64.1, 0⟩, d.i32.2.i64.2) := by simp only [rdListPart, hh0, hh2, Bool.false_eq_true, if_true, if_false]
      rw [erd]
      refine bodyPost_ret (v := .agg #[.int .i32 (d.i32.1), .int .i32 0, .int .i64 (d.i32.2.i64.1), .int .i32 0]) (by simp [results, Tryz.results101, go_sem, z0, z1, z2, z3]) rfl ⟨[.int .i32 (d.i32.1), .int .i32 0, .int .i64 (d.i32.2.i64.1), .int .i32 0], rfl, ?_, ?_, ?_⟩
      · exact kListPart_mkM _ _ _ (⟨d.i32.1, 0, d.i32.2.i64.1, 0⟩ : ListPart)
      · exact ((((hc.far hg.out (by decide) (by decide) (by decide) (by decide) 0 _).far (hid_set hg 0 _).out (by decide) (by decide) (by decide) (by decide) 1 _).far (hid_set (hid_set hg 0 _) 1 _).out (by decide) (by decide) (by decide) (by decide) 2 _).far (hid_set (hid_set (hid_set hg 0 _) 1 _) 2 _).out (by decide) (by decide) (by decide) (by decide) 3 _)
      · exact (modFar (modFar (modFar (modFar hm hsgb 0 _) hsgb 1 _) hsgb 2 _) hsgb 3 _)
    · -- yes
      go_wp2_with fail
      refine (cl_i32 wh2 p g bx rv d.i32.2.i64.2 hc).mono ?_
      rintro e wmost_2 ⟨rfl, hc2, mn⟩
      replace hg := hid_mod hg mn hngb
      replace ht := hid_mod ht mn hnt
      replace hm := hm.trans mn
      replace hc := hc2
      have cx := hc.cell
      clear hc2 mn
      have ft := fun i => blk_frozen ht.out i
      have t3 : wmost_2.cell? ⟨gt, 3, none⟩ = _ := blk_cell ht.out 3
      simp at t3
      have cx1 : (wmost_2.setCell ⟨gt, 3, none⟩ (.int .i32 (d.i32.2.i64.2.i32.1))).cell? ⟨bx, 0, none⟩ = some (.pointer (some ⟨p, 0, none⟩)) := (cell_far hbt).trans (hc.cell)
      have hc1 : Cl (wmost_2.setCell ⟨gt, 3, none⟩ (.int .i32 (d.i32.2.i64.2.i32.1))) p g bx rv d.i32.2.i64.2.i32.2 := (hc.far ht.out (by decide) (by decide) (by decide) (by decide) 3 _)
      have hg1 : Hid ((wmost_2.setCell ⟨gt, 3, none⟩ (.int .i32 (d.i32.2.i64.2.i32.1))).heap[gb]? = some (.cells #[.int .i32 0, .int .i32 0, .int .i64 0, .int .i32 0] 181 (0, 0))) := (hid_far hg hgt2)
      have ht1 : Hid ((wmost_2.setCell ⟨gt, 3, none⟩ (.int .i32 (d.i32.2.i64.2.i32.1))).heap[gt]? = some (.cells #[.int .i32 (d.i32.1), .int .i32 0, .int .i64 (d.i32.2.i64.1), .int .i32 (d.i32.2.i64.2.i32.1)] 181 (0, 0))) := hid_cast (hid_set ht 3 (.int .i32 (d.i32.2.i64.2.i32.1))) rfl
      have hm1 : Mod (DecS p g) w (wmost_2.setCell ⟨gt, 3, none⟩ (.int .i32 (d.i32.2.i64.2.i32.1))) := (modFar hm hst 3 _)
      replace hc := hc1
      replace hg := hg1
      replace ht := ht1
      replace hm := hm1
      clear hc1 hg1 ht1 hm1
      have fg := fun i => blk_frozen hg.out i
      have t0 : (wmost_2.setCell ⟨gt, 3, none⟩ (.int .i32 (d.i32.2.i64.2.i32.1))).cell? ⟨gt, 0, none⟩ = _ := blk_cell ht.out 0
      have z0 : (wmost_2.setCell ⟨gt, 3, none⟩ (.int .i32 (d.i32.2.i64.2.i32.1))).cell? ⟨gb, 0, none⟩ = _ := blk_cell hg.out 0
      have t1 : (wmost_2.setCell ⟨gt, 3, none⟩ (.int .i32 (d.i32.2.i64.2.i32.1))).cell? ⟨gt, 1, none⟩ = _ := blk_cell ht.out 1
      have z1 : (wmost_2.setCell ⟨gt, 3, none⟩ (.int .i32 (d.i32.2.i64.2.i32.1))).cell? ⟨gb, 1, none⟩ = _ := blk_cell hg.out 1
      have t2 : (wmost_2.setCell ⟨gt, 3, none⟩ (.int .i32 (d.i32.2.i64.2.i32.1))).cell? ⟨gt, 2, none⟩ = _ := blk_cell ht.out 2
      have z2 : (wmost_2.setCell ⟨gt, 3, none⟩ (.int .i32 (d.i32.2.i64.2.i32.1))).cell? ⟨gb, 2, none⟩ = _ := blk_cell hg.out 2
      have t3 : (wmost_2.setCell ⟨gt, 3, none⟩ (.int .i32 (d.i32.2.i64.2.i32.1))).cell? ⟨gt, 3, none⟩ = _ := blk_cell ht.out 3
      have z3 : (wmost_2.setCell ⟨gt, 3, none⟩ (.int .i32 (d.i32.2.i64.2.i32.1))).cell? ⟨gb, 3, none⟩ = _ := blk_cell hg.out 3
      simp at t0 z0 t1 z1 t2 z2 t3 z3
      go_wp2
      have erd : rdListPart d = (⟨d.i32.1, 0, d.i32.2.i64.1, d.i32.2.i64.2.i32.1⟩, d.i32.2.i64.2.i32.2) := by simp only [rdListPart, hh0, hh2, Bool.false_eq_true, if_true, if_false]
      rw [erd]
      refine bodyPost_ret (v := .agg #[.int .i32 (d.i32.1), .int .i32 0, .int .i64 (d.i32.2.i64.1), .int .i32 (d.i32.2.i64.2.i32.1)]) (by simp [results, Tryz.results101, go_sem, z0, z1, z2, z3]) rfl ⟨[.int .i32 (d.i32.1), .int .i32 0, .int .i64 (d.i32.2.i64.1), .int .i32 (d.i32.2.i64.2.i32.1)], rfl, ?_, ?_, ?_⟩
      · exact kListPart_mkM _ _ _ (⟨d.i32.1, 0, d.i32.2.i64.1, d.i32.2.i64.2.i32.1⟩ : ListPart)
      · exact ((((hc.far hg.out (by decide) (by decide) (by decide) (by decide) 0 _).far (hid_set hg 0 _).out (by decide) (by decide) (by decide) (by decide) 1 _).far (hid_set (hid_set hg 0 _) 1 _).out (by decide) (by decide) (by decide) (by decide) 2 _).far (hid_set (hid_set (hid_set hg 0 _) 1 _) 2 _).out (by decide) (by decide) (by decide) (by decide) 3 _)
      · exact (modFar (modFar (modFar (modFar hm hsgb 0 _) hsgb 1 _) hsgb 2 _) hsgb 3 _)
  · -- yes
    go_wp2_with fail
    refine (cl_i32 wh0 p g bx rv d.i32.2 hc).mono ?_
    rintro e wepoch_0 ⟨rfl, hc2, mn⟩
    replace hg := hid_mod hg mn hngb
    replace ht := hid_mod ht mn hnt
    replace hm := hm.trans mn
    replace hc := hc2
    have cx := hc.cell
    clear hc2 mn
    have ft := fun i => blk_frozen ht.out i
    have t1 : wepoch_0.cell? ⟨gt, 1, none⟩ = _ := blk_cell ht.out 1
    simp at t1
    have cx1 : (wepoch_0.setCell ⟨gt, 1, none⟩ (.int .i32 (d.i32.2.i32.1))).cell? ⟨bx, 0, none⟩ = some (.pointer (some ⟨p, 0, none⟩)) := (cell_far hbt).trans (hc.cell)
    have hc1 : Cl (wepoch_0.setCell ⟨gt, 1, none⟩ (.int .i32 (d.i32.2.i32.1))) p g bx rv d.i32.2.i32.2 := (hc.far ht.out (by decide) (by decide) (by decide) (by decide) 1 _)
    have hg1 : Hid ((wepoch_0.setCell ⟨gt, 1, none⟩ (.int .i32 (d.i32.2.i32.1))).heap[gb]? = some (.cells #[.int .i32 0, .int .i32 0, .int .i64 0, .int .i32 0] 181 (0, 0))) := (hid_far hg hgt2)
    have ht1 : Hid ((wepoch_0.setCell ⟨gt, 1, none⟩ (.int .i32 (d.i32.2.i32.1))).heap[gt]? = some (.cells #[.int .i32 (d.i32.1), .int .i32 (d.i32.2.i32.1), .int .i64 0, .int .i32 0] 181 (0, 0))) := hid_cast (hid_set ht 1 (.int .i32 (d.i32.2.i32.1))) rfl
    have hm1 : Mod (DecS p g) w (wepoch_0.setCell ⟨gt, 1, none⟩ (.int .i32 (d.i32.2.i32.1))) := (modFar hm hst 1 _)
    replace hc := hc1
    replace hg := hg1
    replace ht := ht1
    replace hm := hm1
    clear hc1 hg1 ht1 hm1
    go_wp2_with fail
    refine (cl_i64 (wepoch_0.setCell ⟨gt, 1, none⟩ (.int .i32 (d.i32.2.i32.1))) p g bx rv d.i32.2.i32.2 hc).mono ?_
    rintro e wtime_1 ⟨rfl, hc2, mn⟩
    replace hg := hid_mod hg mn hngb
    replace ht := hid_mod ht mn hnt
    replace hm := hm.trans mn
    replace hc := hc2
    have cx := hc.cell
    clear hc2 mn
    have ft := fun i => blk_frozen ht.out i
    have t2 : wtime_1.cell? ⟨gt, 2, none⟩ = _ := blk_cell ht.out 2
    simp at t2
    have cx1 : (wtime_1.setCell ⟨gt, 2, none⟩ (.int .i64 (d.i32.2.i32.2.i64.1))).cell? ⟨bx, 0, none⟩ = some (.pointer (some ⟨p, 0, none⟩)) := (cell_far hbt).trans (hc.cell)
    have hc1 : Cl (wtime_1.setCell ⟨gt, 2, none⟩ (.int .i64 (d.i32.2.i32.2.i64.1))) p g bx rv d.i32.2.i32.2.i64.2 := (hc.far ht.out (by decide) (by decide) (by decide) (by decide) 2 _)
    have hg1 : Hid ((wtime_1.setCell ⟨gt, 2, none⟩ (.int .i64 (d.i32.2.i32.2.i64.1))).heap[gb]? = some (.cells #[.int .i32 0, .int .i32 0, .int .i64 0, .int .i32 0] 181 (0, 0))) := (hid_far hg hgt2)
    have ht1 : Hid ((wtime_1.setCell ⟨gt, 2, none⟩ (.int .i64 (d.i32.2.i32.2.i64.1))).heap[gt]? = some (.cells #[.int .i32 (d.i32.1), .int .i32 (d.i32.2.i32.1), .int .i64 (d.i32.2.i32.2.i64.1), .int .i32 0] 181 (0, 0))) := hid_cast (hid_set ht 2 (.int .i64 (d.i32.2.i32.2.i64.1))) rfl
    have hm1 : Mod (DecS p g) w (wtime_1.setCell ⟨gt, 2, none⟩ (.int .i64 (d.i32.2.i32.2.i64.1))) := (modFar hm hst 2 _)
    replace hc := hc1
    replace hg := hg1
    replace ht := ht1
    replace hm := hm1
    clear hc1 hg1 ht1 hm1
    go_wp2_with fail
    refine (cl_has (wtime_1.setCell ⟨gt, 2, none⟩ (.int .i64 (d.i32.2.i32.2.i64.1))) p g bx rv d.i32.2.i32.2.i64.2 0 0 hc).mono ?_
    rintro e wh2 ⟨rfl, hc2, mn⟩
    replace hg := hid_mod hg mn hngb
    replace ht := hid_mod ht mn hnt
    replace hm := hm.trans mn
    replace hc := hc2
    have cx := hc.cell
    clear hc2 mn
    cases hh2 : d.i32.2.i32.2.i64.2.has 0 0
    · -- no
      have fg := fun i => blk_frozen hg.out i
      have t0 : wh2.cell? ⟨gt, 0, none⟩ = _ := blk_cell ht.out 0
      have z0 : wh2.cell? ⟨gb, 0, none⟩ = _ := blk_cell hg.out 0
      have t1 : wh2.cell? ⟨gt, 1, none⟩ = _ := blk_cell ht.out 1
      have z1 : wh2.cell? ⟨gb, 1, none⟩ = _ := blk_cell hg.out 1
      have t2 : wh2.cell? ⟨gt, 2, none⟩ = _ := blk_cell ht.out 2
      have z2 : wh2.cell? ⟨gb, 2, none⟩ = _ := blk_cell hg.out 2
      have t3 : wh2.cell? ⟨gt, 3, none⟩ = _ := blk_cell ht.out 3
      have z3 : wh2.cell? ⟨gb, 3, none⟩ = _ := blk_cell hg.out 3
      simp at t0 z0 t1 z1 t2 z2 t3 z3
      go_wp2
      have erd : rdListPart d = (⟨d.i32.1, d.i32.2.i32.1, d.i32.2.i32.2.i64.1, 0⟩, d.i32.2.i32.2.i64.2) := by simp only [rdListPart, hh0, hh2, Bool.false_eq_true, if_true, if_false]
      rw [erd]
      refine bodyPost_ret (v := .agg #[.int .i32 (d.i32.1), .int .i32 (d.i32.2.i32.1), .int .i64 (d.i32.2.i32.2.i64.1), .int .i32 0]) (by simp [results, Tryz.results101, go_sem, z0, z1, z2, z3]) rfl ⟨[.int .i32 (d.i32.1), .int .i32 (d.i32.2.i32.1), .int .i64 (d.i32.2.i32.2.i64.1), .int .i32 0], rfl, ?_, ?_, ?_⟩
      · exact kListPart_mkM _ _ _ (⟨d.i32.1, d.i32.2.i32.1, d.i32.2.i32.2.i64.1, 0⟩ : ListPart)
      · exact ((((hc.far hg.out (by decide) (by decide) (by decide) (by decide) 0 _).far (hid_set hg 0 _).out (by decide) (by decide) (by decide) (by decide) 1 _).far (hid_set (hid_set hg 0 _) 1 _).out (by decide) (by decide) (by decide) (by decide) 2 _).far (hid_set (hid_set (hid_set hg 0 _) 1 _) 2 _).out (by decide) (by decide) (by decide) (by decide) 3 _)
      · exact (modFar (modFar (modFar (modFar hm hsgb 0 _) hsgb 1 _) hsgb 2 _) hsgb 3 _)
    · -- yes
      go_wp2_with fail
      refine (cl_i32 wh2 p g bx rv d.i32.2.i32.2.i64.2 hc).mono ?_
      rintro e wmost_2 ⟨rfl, hc2, mn⟩
      replace hg := hid_mod hg mn hngb
      replace ht := hid_mod ht mn hnt
      replace hm := hm.trans mn
      replace hc := hc2
      have cx := hc.cell
      clear hc2 mn
      have ft := fun i => blk_frozen ht.out i
      have t3 : wmost_2.cell? ⟨gt, 3, none⟩ = _ := blk_cell ht.out 3
      simp at t3
      have cx1 : (wmost_2.setCell ⟨gt, 3, none⟩ (.int .i32 (d.i32.2.i32.2.i64.2.i32.1))).cell? ⟨bx, 0, none⟩ = some (.pointer (some ⟨p, 0, none⟩)) := (cell_far hbt).trans (hc.cell)
      have hc1 : Cl (wmost_2.setCell ⟨gt, 3, none⟩ (.int .i32 (d.i32.2.i32.2.i64.2.i32.1))) p g bx rv d.i32.2.i32.2.i64.2.i32.2 := (hc.far ht.out (by decide) (by decide) (by decide) (by decide) 3 _)
      have hg1 : Hid ((wmost_2.setCell ⟨gt, 3, none⟩ (.int .i32 (d.i32.2.i32.2.i64.2.i32.1))).heap[gb]? = some (.cells #[.int .i32 0, .int .i32 0, .int .i64 0, .int .i32 0] 181 (0, 0))) := (hid_far hg hgt2)
      have ht1 : Hid ((wmost_2.setCell ⟨gt, 3, none⟩ (.int .i32 (d.i32.2.i32.2.i64.2.i32.1))).heap[gt]? = some (.cells #[.int .i32 (d.i32.1), .int .i32 (d.i32.2.i32.1), .int .i64 (d.i32.2.i32.2.i64.1), .int .i32 (d.i32.2.i32.2.i64.2.i32.1)] 181 (0, 0))) := hid_cast (hid_set ht 3 (.int .i32 (d.i32.2.i32.2.i64.2.i32.1))) rfl
      have hm1 : Mod (DecS p g) w (wmost_2.setCell ⟨gt, 3, none⟩ (.int .i32 (d.i32.2.i32.2.i64.2.i32.1))) := (modFar hm hst 3 _)
      replace hc := hc1
      replace hg := hg1
      replace ht := ht1
      replace hm := hm1
      clear hc1 hg1 ht1 hm1
      have fg := fun i => blk_frozen hg.out i
      have t0 : (wmost_2.setCell ⟨gt, 3, none⟩ (.int .i32 (d.i32.2.i32.2.i64.2.i32.1))).cell? ⟨gt, 0, none⟩ = _ := blk_cell ht.out 0
      have z0 : (wmost_2.setCell ⟨gt, 3, none⟩ (.int .i32 (d.i32.2.i32.2.i64.2.i32.1))).cell? ⟨gb, 0, none⟩ = _ := blk_cell hg.out 0
      have t1 : (wmost_2.setCell ⟨gt, 3, none⟩ (.int .i32 (d.i32.2.i32.2.i64.2.i32.1))).cell? ⟨gt, 1, none⟩ = _ := blk_cell ht.out 1
      have z1 : (wmost_2.setCell ⟨gt, 3, none⟩ (.int .i32 (d.i32.2.i32.2.i64.2.i32.1))).cell? ⟨gb, 1, none⟩ = _ := blk_cell hg.out 1
      have t2 : (wmost_2.setCell ⟨gt, 3, none⟩ (.int .i32 (d.i32.2.i32.2.i64.2.i32.1))).cell? ⟨gt, 2, none⟩ = _ := blk_cell ht.out 2
      have z2 : (wmost_2.setCell ⟨gt, 3, none⟩ (.int .i32 (d.i32.2.i32.2.i64.2.i32.1))).cell? ⟨gb, 2, none⟩ = _ := blk_cell hg.out 2
      have t3 : (wmost_2.setCell ⟨gt, 3, none⟩ (.int .i32 (d.i32.2.i32.2.i64.2.i32.1))).cell? ⟨gt, 3, none⟩ = _ := blk_cell ht.out 3
      have z3 : (wmost_2.setCell ⟨gt, 3, none⟩ (.int .i32 (d.i32.2.i32.2.i64.2.i32.1))).cell? ⟨gb, 3, none⟩ = _ := blk_cell hg.out 3
      simp at t0 z0 t1 z1 t2 z2 t3 z3
      go_wp2
      have erd : rdListPart d = (⟨d.i32.1, d.i32.2.i32.1, d.i32.2.i32.2.i64.1, d.i32.2.i32.2.i64.2.i32.1⟩, d.i32.2.i32.2.i64.2.i32.2) := by simp only [rdListPart, hh0, hh2, Bool.false_eq_true, if_true, if_false]
      rw [erd]
      refine bodyPost_ret (v := .agg #[.int .i32 (d.i32.1), .int .i32 (d.i32.2.i32.1), .int .i64 (d.i32.2.i32.2.i64.1), .int .i32 (d.i32.2.i32.2.i64.2.i32.1)]) (by simp [results, Tryz.results101, go_sem, z0, z1, z2, z3]) rfl ⟨[.int .i32 (d.i32.1), .int .i32 (d.i32.2.i32.1), .int .i64 (d.i32.2.i32.2.i64.1), .int .i32 (d.i32.2.i32.2.i64.2.i32.1)], rfl, ?_, ?_, ?_⟩
      · exact kListPart_mkM _ _ _ (⟨d.i32.1, d.i32.2.i32.1, d.i32.2.i32.2.i64.1, d.i32.2.i32.2.i64.2.i32.1⟩ : ListPart)
      · exact ((((hc.far hg.out (by decide) (by decide) (by decide) (by decide) 0 _).far (hid_set hg 0 _).out (by decide) (by decide) (by decide) (by decide) 1 _).far (hid_set (hid_set hg 0 _) 1 _).out (by decide) (by decide) (by decide) (by decide) 2 _).far (hid_set (hid_set (hid_set hg 0 _) 1 _) 2 _).out (by decide) (by decide) (by decide) (by decide) 3 _)
      · exact (modFar (modFar (modFar (modFar hm hsgb 0 _) hsgb 1 _) hsgb 2 _) hsgb 3 _)

end Go.Proofs.YteckmgmcfngddaaGreat
end

section
/- A list of parts: ListPart. -/
set_option linter.unusedVariables false
set_option linter.unusedSimpArgs false
namespace Go.Proofs.YteckmgmcfngddaaGreat
open Go.RowKit Go.Proofs.YteckmgmcfngddaaGreatW.PrintWords

theorem info_ListPart : (Tryz.prog.info? 181).map (fun i => (i.zero, i.size, i.bytes)) = some (some (.agg #[.int .i32 0, .int .i32 0, .int .i64 0, .int .i32 0]), 4, 24) := by kernel_rfl
set_option maxRecDepth 100000 in
set_option maxHeartbeats 6400000 in
theorem cl_list_ListPart (w : World) (p g bx : Nat) (rv : Value) (d : DS) (h : Cl w p g bx rv d) :
    Calls Tryz.prog 100 #[.pointer (some ⟨p, 0, none⟩), .func (.func 101) #[] #[.pointer (some ⟨bx, 0, none⟩)]] w (ClPostR kListPart 181 p g bx rv (rdList rdListPart d).1 (rdList rdListPart d).2 w) := by
  obtain ⟨r0, r1⟩ := d.i32_range
  go_enter Tryz.func100, Tryz.ntmps100
  go_wp2_with fail
  refine (cl_i32 w p g bx rv d h).mono ?_
  rintro e w1 ⟨rfl, h1, m1⟩
  obtain ⟨q, hbk⟩ := h1.dec.blk
  have c2 : w1.cell? ⟨p, 2, none⟩ = _ := blk_cell hbk 2
  have f2 := blk_frozen hbk 2
  simp at c2
  clear hbk
  go_upto_block 0 with fail
  go_cut [10] (fun v10 wx => Cl wx p g bx rv (rdHead d) ∧ Mod (DecS p g) w wx)
  case first =>
    by_cases he : d.i32.2.e = 0
    · have he' : (d.i32.2.e != 0) = false := by simp [he]
      by_cases h0 : d.i32.1 < 0
      · have h0' : decide (d.i32.1 < 0) = true := by simpa using h0
        have hh := Lib.hid (rdHead_neg he h0)
        clear he
        go_wp2
        go_meet
        rw [hh.out]
        exact ⟨h1.failed 5 (by decide), m1.trans (mod_dec' p g 0 _)⟩
      · have h0' : decide (d.i32.1 < 0) = false := by simpa using h0
        by_cases h2 : d.i32.1 > 16
        · have h2' : decide (d.i32.1 > 16) = true := by simpa using h2
          have hh := Lib.hid (rdHead_big he h0 h2)
          clear he
          go_wp2
          go_meet
          rw [hh.out]
          exact ⟨h1.failed 9 (by decide), m1.trans (mod_dec' p g 0 _)⟩
        · have h2' : decide (d.i32.1 > 16) = false := by simpa using h2
          have hh := Lib.hid (rdHead_ok he h0 h2)
          clear he
          go_wp2
          go_meet
          rw [hh.out]
          exact ⟨h1, m1⟩
    · have he' : (d.i32.2.e != 0) = true := by simp [he]
      have hh := Lib.hid (rdHead_err he)
      clear he
      go_wp2
      go_meet
      rw [hh.out]
      exact ⟨h1, m1⟩
  case rest =>
    obtain ⟨hc, hm⟩ := hcut
    clear c2 f2 h1 m1
    go_wp2_with fail
    go_loopg [6, 7] (d.i32.1.toNat) (fun gk v6 v7 wr => ∃ (k : Nat) (out : List ListPart) (dk : DS) (A : Option Addr) (c : Nat), v7 = .int .i32 k ∧ v6 = .slice A out.length c ∧ Hid (out.length = k) ∧ k + gk ≤ 2147483647 ∧ Hid (gk + k = d.i32.1.toNat) ∧ kListPart.R 181 wr w.heap.size (fun _ => True) (.slice A out.length c) out ∧ Cl wr p g bx rv dk ∧ Mod (DecS p g) w wr ∧ Hid (rdGo rdListPart gk out dk = rdList rdListPart d) ∧ Hid (dk.e = 0 → d.i32.1 ≤ 16))
    case atStart => exact ⟨0, [], rdHead d, none, 0, rfl, rfl, rfl, by omega, by simp [Hid], Kd.R_nil _ _ _ _ _, hc, hm, rfl, rdHead_le d⟩
    case round =>
      obtain ⟨k, out, dk, A, c, rfl, rfl, hok, hk2, hgk, ho, hcr, hmr, heq, hle⟩ := hrel
      clear hc hm
      obtain ⟨q, hbk⟩ := hcr.dec.blk
      have c2 : wr.cell? ⟨p, 2, none⟩ = _ := blk_cell hbk 2
      simp at c2
      clear hbk
      by_cases hlt : (k : Int) < d.i32.1
      · have hlt' : decide ((k : Int) < d.i32.1) = true := by simpa using hlt
        by_cases he : dk.e = 0
        · have he' : (dk.e == 0) = true := by simp [he]
          have hn16 := hle.out he
          obtain ⟨j, rfl⟩ : ∃ j, gk = j + 1 := ⟨gk - 1, by have := hgk.out; omega⟩
          have hstep : Hid (rdGo rdListPart j (out ++ [(rdListPart dk).1]) (rdListPart dk).2 = rdList rdListPart d) := Lib.hid (by rw [← heq.out]; exact (rdGo_step rdListPart j out dk he).symm)
          clear he heq
          go_wp2_with fail
          refine (cl_ListPart wr p g bx rv dk hcr).mono ?_
          rintro e w2 ⟨cs, rfl, kv, hc2, mn⟩
          obtain rfl := kListPart_openM kv
          have ho2 := R_mod ho mn (fun q hq => h.new hq)
          have hlen : (out.length + 1) * 24 ≤ 140737488355328 := by have := hok.out; omega
          have HLEN := Lib.hid hlen
          clear hlen
          go_wp2_with (at_builtin; refine Kd.R_append kListPart (w0 := w2) w.heap.size rfl (.tmp 40) (.tmp 43) 176 181 (.agg #[.int .i32 0, .int .i32 0, .int .i64 0, .int .i32 0]) 24 rfl Tryz.underlying176 info_ListPart rfl (by decide) (by decide) _ out (rdListPart dk).1 [.int .i32 (rdListPart dk).1.index, .int .i32 (rdListPart dk).1.epoch, .int .i64 (rdListPart dk).1.time, .int .i32 (rdListPart dk).1.most] (fun _ => True) (fun q => some q ≠ (Value.slice A out.length c).ownBlock) rfl rfl (M_fresh kv ho (Nat.le_refl _) hmr.size) (fun q hq => ⟨trivial, hq⟩) (fun _ _ => trivial) ho2 (Below.refl _ _) (Nat.le_trans hmr.size mn.size) HLEN.out ?_; intro v1 w3 ho3 hb3 hg3 hat3)
          obtain ⟨A', c', rfl⟩ := Kd.R_slice ho3
          have hc3 : Cl w3 p g bx rv (rdListPart dk).2 := hc2.grown hg3 (fun q hq => by obtain ⟨cs, hcs⟩ := R_owntyped ho2 q hq; exact ⟨cs, _, hcs, by decide, by decide, by decide, by decide⟩)
          have hm3 : Mod (DecS p g) w w3 := (hmr.trans mn).grown hg3 (fun q hq => R_ownge ho2 q hq)
          clear hat3 hb3 hg3
          go_wp2
          go_roundg j
          case measure => omega
          case rel => exact ⟨k + 1, out ++ [(rdListPart dk).1], (rdListPart dk).2, A', c', by go_num, by simp, Lib.hid (by have := hok.out; simp [this]), by omega, Lib.hid (by have := hgk.out; omega), ho3, hc3, hm3, hstep, fun _ => hn16⟩
        · have he' : (dk.e == 0) = false := by simp [he]
          have hend : Hid (rdList rdListPart d = (out, dk)) := Lib.hid (by rw [← heq.out]; exact rdGo_stop rdListPart gk out dk he)
          clear he heq
          go_wp2
          go_ret
          rw [hend.out]
          exact ⟨A, c, rfl, ho, hcr, hmr⟩
      · have hlt' : decide ((k : Int) < d.i32.1) = false := by simpa using hlt
        have hend : Hid (rdList rdListPart d = (out, dk)) := Lib.hid (by
          rw [← heq.out]
          have := hgk.out
          rw [show gk = 0 from by omega]
          rfl)
        clear heq
        go_wp2
        go_ret
        rw [hend.out]
        exact ⟨A, c, rfl, ho, hcr, hmr⟩

end Go.Proofs.YteckmgmcfngddaaGreat
end

section
/- The reader of a part: ListTopic. -/
set_option linter.unusedVariables false
set_option linter.unusedSimpArgs false
namespace Go.Proofs.YteckmgmcfngddaaGreat
open Go.RowKit Go.Proofs.YteckmgmcfngddaaGreatW.PrintWords

def rdListTopic (d : DS) : ListTopic × DS :=
  let r0 := d.str
  let r1 := (rdList rdListPart r0.2)
  (⟨r0.1, r1.1⟩, r1.2)

set_option maxRecDepth 100000 in
set_option maxHeartbeats 6400000 in
theorem cl_ListTopic (w : World) (p g bx : Nat) (rv : Value) (d : DS) (h : Cl w p g bx rv d) :
    Calls Tryz.prog 99 #[.pointer (some ⟨bx, 0, none⟩)] w (ClPostM kListTopic p g bx rv (rdListTopic d).1 (rdListTopic d).2 w) := by
  have hmf : ∀ (fn : Fn) (first cap : Array Value) (w : World), (Instr.makeFunc fn first cap).run Tryz.prog w = .ok (.func fn first cap) w := fun _ _ _ _ => rfl
  go_enter Tryz.func99, Tryz.ntmps99
  go_wp2_with (first | ((with_reducible refine gate_dst (N := 1) rfl ?_); refine box_event ?hg (N := 1) ?hd (cs := #[.string ⟨#[]⟩, .slice none 0 0]) (t := 178) ?hr ?_; (case hd => rfl); (case hg => rfl); (case hr => first | (go_simp; done) | (go_simp; rfl)); intro gb hgb w0 kgb bgb; have hc0 := h.below bgb; have hm0 : Mod (DecS p g) w w0 := Mod.of_below bgb; have hg0 : Hid (w0.heap[gb]? = some (.cells #[.string ⟨#[]⟩, .slice none 0 0] 178 (0, 0))) := kgb; have hc := h.below bgb; have hbx := blk_ne hc.box kgb (by decide); have hngb : Hid (¬ DecS p g gb) := h.new (Nat.le_of_eq hgb.symm); have hsgb : Hid (w.heap.size ≤ gb) := Nat.le_of_eq hgb.symm; have hg : Hid (w0.heap[gb]? = some (.cells #[.string ⟨#[]⟩, .slice none 0 0] 178 (0, 0))) := kgb; have hm : Mod (DecS p g) w w0 := (Mod.of_below bgb); have cx := hc.cell; clear hgb kgb bgb))
  refine (cl_str w0 p g bx rv d hc).mono ?_
  rintro e w1 ⟨rfl, hc2, mn⟩
  have hg := hid_mod hg mn hngb
  have hm := hm.trans mn
  have hc := hc2
  have cx := hc.cell
  clear hc2 mn
  go_wp2_with (first | ((with_reducible refine gate_dst (N := 2) rfl ?_); refine box_event ?hg (N := 2) ?hd (cs := #[.string ⟨#[]⟩, .slice none 0 0]) (t := 178) ?hr ?_; (case hd => rfl); (case hg => rfl); (case hr => first | (go_simp; done) | (go_simp; rfl)); intro gt hgt wt kgt bgt; have hc := hc.below bgt; have hbt := blk_ne hc.box kgt (by decide); have hst : Hid (w.heap.size ≤ gt) := Nat.le_trans hm.size (Nat.le_of_eq hgt.symm); have hgt2 : Hid (gb ≠ gt) := Nat.ne_of_lt (Nat.lt_of_lt_of_le (blk_lt hg.out) (Nat.le_of_eq hgt.symm)); have hnt : Hid (¬ DecS p g gt) := h.new hst.out; have hg := hid_mod hg (Mod.of_below (S := fun _ => False) bgt) (Lib.hid id); have hm := hm.trans (Mod.of_below bgt); have ht : Hid (wt.heap[gt]? = some (.cells #[.string ⟨#[]⟩, .slice none 0 0] 178 (0, 0))) := kgt; clear kgt hgt bgt; have ft := fun i => blk_frozen ht.out i; have t0 : wt.cell? ⟨gt, 0, none⟩ = _ := blk_cell ht.out 0; have t1 : wt.cell? ⟨gt, 1, none⟩ = _ := blk_cell ht.out 1; simp at t0 t1; have cx : ((wt.setCell ⟨gt, 0, none⟩ (.string (d.str.1))).setCell ⟨gt, 1, none⟩ (.slice none 0 0)).cell? ⟨bx, 0, none⟩ = some (.pointer (some ⟨p, 0, none⟩)) := (cell_far hbt).trans ((cell_far hbt).trans (hc.cell))))
  have hc1 : Cl (((wt.setCell ⟨gt, 0, none⟩ (.string (d.str.1))).setCell ⟨gt, 1, none⟩ (.slice none 0 0))) p g bx rv d.str.2 := ((hc.far ht.out (by decide) (by decide) (by decide) (by decide) 0 _).far (hid_set ht 0 _).out (by decide) (by decide) (by decide) (by decide) 1 _)
  have hg1 : Hid ((((wt.setCell ⟨gt, 0, none⟩ (.string (d.str.1))).setCell ⟨gt, 1, none⟩ (.slice none 0 0))).heap[gb]? = some (.cells #[.string ⟨#[]⟩, .slice none 0 0] 178 (0, 0))) := (hid_far (hid_far hg hgt2) hgt2)
  have ht1 : Hid ((((wt.setCell ⟨gt, 0, none⟩ (.string (d.str.1))).setCell ⟨gt, 1, none⟩ (.slice none 0 0))).heap[gt]? = some (.cells #[.string (d.str.1), .slice none 0 0] 178 (0, 0))) := hid_cast (hid_set (hid_set ht 0 _) 1 _) rfl
  have hm1 : Mod (DecS p g) w (((wt.setCell ⟨gt, 0, none⟩ (.string (d.str.1))).setCell ⟨gt, 1, none⟩ (.slice none 0 0))) := (modFar (modFar hm hst 0 _) hst 1 _)
  generalize ((wt.setCell ⟨gt, 0, none⟩ (.string (d.str.1))).setCell ⟨gt, 1, none⟩ (.slice none 0 0)) = wc at *
  replace hc := hc1
  replace hg := hg1
  replace ht := ht1
  replace hm := hm1
  clear hc1 hg1 ht1 hm1
  go_wp2_with fail
  have hbparts : Hid (w.heap.size ≤ wc.heap.size) := hm.size
  refine (cl_list_ListPart wc p g bx rv d.str.2 hc).mono ?_
  rintro e wparts_0 ⟨Aparts, cparts, rfl, rparts, hc2, mn⟩
  replace hg := hid_mod hg mn hngb
  replace ht := hid_mod ht mn hnt
  replace hm := hm.trans mn
  replace hc := hc2
  have cx := hc.cell
  clear hc2 mn
  have ft := fun i => blk_frozen ht.out i
  have t1 : wparts_0.cell? ⟨gt, 1, none⟩ = _ := blk_cell ht.out 1
  simp at t1
  have cx1 : (wparts_0.setCell ⟨gt, 1, none⟩ (.slice Aparts (rdList rdListPart d.str.2).1.length cparts)).cell? ⟨bx, 0, none⟩ = some (.pointer (some ⟨p, 0, none⟩)) := (cell_far hbt).trans (hc.cell)
  have hc1 : Cl (wparts_0.setCell ⟨gt, 1, none⟩ (.slice Aparts (rdList rdListPart d.str.2).1.length cparts)) p g bx rv ((rdList rdListPart d.str.2).2) := (hc.far ht.out (by decide) (by decide) (by decide) (by decide) 1 _)
  have hg1 : Hid ((wparts_0.setCell ⟨gt, 1, none⟩ (.slice Aparts (rdList rdListPart d.str.2).1.length cparts)).heap[gb]? = some (.cells #[.string ⟨#[]⟩, .slice none 0 0] 178 (0, 0))) := (hid_far hg hgt2)
  have ht1 : Hid ((wparts_0.setCell ⟨gt, 1, none⟩ (.slice Aparts (rdList rdListPart d.str.2).1.length cparts)).heap[gt]? = some (.cells #[.string (d.str.1), .slice Aparts (rdList rdListPart d.str.2).1.length cparts] 178 (0, 0))) := hid_cast (hid_set ht 1 (.slice Aparts (rdList rdListPart d.str.2).1.length cparts)) rfl
  have hm1 : Mod (DecS p g) w (wparts_0.setCell ⟨gt, 1, none⟩ (.slice Aparts (rdList rdListPart d.str.2).1.length cparts)) := (modFar hm hst 1 _)
  have rparts1 := (Kd.R_set rparts ht.out (by decide) 1 (.slice Aparts (rdList rdListPart d.str.2).1.length cparts))
  replace hc := hc1
  replace hg := hg1
  replace ht := ht1
  replace hm := hm1
  replace rparts := rparts1
  clear hc1 hg1 ht1 hm1 rparts1
  have fg := fun i => blk_frozen hg.out i
  have t0 : (wparts_0.setCell ⟨gt, 1, none⟩ (.slice Aparts (rdList rdListPart d.str.2).1.length cparts)).cell? ⟨gt, 0, none⟩ = _ := blk_cell ht.out 0
  have z0 : (wparts_0.setCell ⟨gt, 1, none⟩ (.slice Aparts (rdList rdListPart d.str.2).1.length cparts)).cell? ⟨gb, 0, none⟩ = _ := blk_cell hg.out 0
  have t1 : (wparts_0.setCell ⟨gt, 1, none⟩ (.slice Aparts (rdList rdListPart d.str.2).1.length cparts)).cell? ⟨gt, 1, none⟩ = _ := blk_cell ht.out 1
  have z1 : (wparts_0.setCell ⟨gt, 1, none⟩ (.slice Aparts (rdList rdListPart d.str.2).1.length cparts)).cell? ⟨gb, 1, none⟩ = _ := blk_cell hg.out 1
  simp at t0 z0 t1 z1
  go_wp2
  have erd : rdListTopic d = (⟨d.str.1, (rdList rdListPart d.str.2).1⟩, (rdList rdListPart d.str.2).2) := by simp only [rdListTopic, Bool.false_eq_true, if_true, if_false]
  rw [erd]
  refine bodyPost_ret (v := .agg #[.string (d.str.1), .slice Aparts (rdList rdListPart d.str.2).1.length cparts]) (by simp [results, Tryz.results99, go_sem, z0, z1]) rfl ⟨[.string (d.str.1), .slice Aparts (rdList rdListPart d.str.2).1.length cparts], rfl, ?_, ?_, ?_⟩
  · exact kListTopic_mkM _ _ _ (⟨d.str.1, (rdList rdListPart d.str.2).1⟩ : ListTopic) (Kd.R_lower (Kd.R_set (Kd.R_set rparts hg.out (by decide) 0 _) (hid_set hg 0 _).out (by decide) 1 _) hbparts.out)
  · exact ((hc.far hg.out (by decide) (by decide) (by decide) (by decide) 0 _).far (hid_set hg 0 _).out (by decide) (by decide) (by decide) (by decide) 1 _)
  · exact (modFar (modFar hm hsgb 0 _) hsgb 1 _)

end Go.Proofs.YteckmgmcfngddaaGreat
end

section
/- A list of parts: ListTopic. -/
set_option linter.unusedVariables false
set_option linter.unusedSimpArgs false
namespace Go.Proofs.YteckmgmcfngddaaGreat
open Go.RowKit Go.Proofs.YteckmgmcfngddaaGreatW.PrintWords

theorem info_ListTopic : (Tryz.prog.info? 178).map (fun i => (i.zero, i.size, i.bytes)) = some (some (.agg #[.string ⟨#[]⟩, .slice none 0 0]), 2, 40) := by kernel_rfl
set_option maxRecDepth 100000 in
set_option maxHeartbeats 6400000 in
theorem cl_list_ListTopic (w : World) (p g bx : Nat) (rv : Value) (d : DS) (h : Cl w p g bx rv d) :
    Calls Tryz.prog 98 #[.pointer (some ⟨p, 0, none⟩), .func (.func 99) #[] #[.pointer (some ⟨bx, 0, none⟩)]] w (ClPostR kListTopic 178 p g bx rv (rdList rdListTopic d).1 (rdList rdListTopic d).2 w) := by
  obtain ⟨r0, r1⟩ := d.i32_range
  go_enter Tryz.func98, Tryz.ntmps98
  go_wp2_with fail
  refine (cl_i32 w p g bx rv d h).mono ?_
  rintro e w1 ⟨rfl, h1, m1⟩
  obtain ⟨q, hbk⟩ := h1.dec.blk
  have c2 : w1.cell? ⟨p, 2, none⟩ = _ := blk_cell hbk 2
  have f2 := blk_frozen hbk 2
  simp at c2
  clear hbk
  go_upto_block 0 with fail
  go_cut [10] (fun v10 wx => Cl wx p g bx rv (rdHead d) ∧ Mod (DecS p g) w wx)
  case first =>
    by_cases he : d.i32.2.e = 0
    · have he' : (d.i32.2.e != 0) = false := by simp [he]
      by_cases h0 : d.i32.1 < 0
      · have h0' : decide (d.i32.1 < 0) = true := by simpa using h0
        have hh := Lib.hid (rdHead_neg he h0)
        clear he
        go_wp2
        go_meet
        rw [hh.out]
        exact ⟨h1.failed 5 (by decide), m1.trans (mod_dec' p g 0 _)⟩
      · have h0' : decide (d.i32.1 < 0) = false := by simpa using h0
        by_cases h2 : d.i32.1 > 16
        · have h2' : decide (d.i32.1 > 16) = true := by simpa using h2
          have hh := Lib.hid (rdHead_big he h0 h2)
          clear he
          go_wp2
          go_meet
          rw [hh.out]
          exact ⟨h1.failed 9 (by decide), m1.trans (mod_dec' p g 0 _)⟩
        · have h2' : decide (d.i32.1 > 16) = false := by simpa using h2
          have hh := Lib.hid (rdHead_ok he h0 h2)
          clear he
          go_wp2
          go_meet
          rw [hh.out]
          exact ⟨h1, m1⟩
    · have he' : (d.i32.2.e != 0) = true := by simp [he]
      have hh := Lib.hid (rdHead_err he)
      clear he
      go_wp2
      go_meet
      rw [hh.out]
      exact ⟨h1, m1⟩
  case rest =>
    obtain ⟨hc, hm⟩ := hcut
    clear c2 f2 h1 m1
    go_wp2_with fail
    go_loopg [6, 7] (d.i32.1.toNat) (fun gk v6 v7 wr => ∃ (k : Nat) (out : List ListTopic) (dk : DS) (A : Option Addr) (c : Nat), v7 = .int .i32 k ∧ v6 = .slice A out.length c ∧ Hid (out.length = k) ∧ k + gk ≤ 2147483647 ∧ Hid (gk + k = d.i32.1.toNat) ∧ kListTopic.R 178 wr w.heap.size (fun _ => True) (.slice A out.length c) out ∧ Cl wr p g bx rv dk ∧ Mod (DecS p g) w wr ∧ Hid (rdGo rdListTopic gk out dk = rdList rdListTopic d) ∧ Hid (dk.e = 0 → d.i32.1 ≤ 16))
    case atStart => exact ⟨0, [], rdHead d, none, 0, rfl, rfl, rfl, by omega, by simp [Hid], Kd.R_nil _ _ _ _ _, hc, hm, rfl, rdHead_le d⟩
    case round =>
      obtain ⟨k, out, dk, A, c, rfl, rfl, hok, hk2, hgk, ho, hcr, hmr, heq, hle⟩ := hrel
      clear hc hm
      obtain ⟨q, hbk⟩ := hcr.dec.blk
      have c2 : wr.cell? ⟨p, 2, none⟩ = _ := blk_cell hbk 2
      simp at c2
      clear hbk
      by_cases hlt : (k : Int) < d.i32.1
      · have hlt' : decide ((k : Int) < d.i32.1) = true := by simpa using hlt
        by_cases he : dk.e = 0
        · have he' : (dk.e == 0) = true := by simp [he]
          have hn16 := hle.out he
          obtain ⟨j, rfl⟩ : ∃ j, gk = j + 1 := ⟨gk - 1, by have := hgk.out; omega⟩
          have hstep : Hid (rdGo rdListTopic j (out ++ [(rdListTopic dk).1]) (rdListTopic dk).2 = rdList rdListTopic d) := Lib.hid (by rw [← heq.out]; exact (rdGo_step rdListTopic j out dk he).symm)
          clear he heq
          go_wp2_with fail
          refine (cl_ListTopic wr p g bx rv dk hcr).mono ?_
          rintro e w2 ⟨cs, rfl, kv, hc2, mn⟩
          obtain ⟨A0, c0, rfl, g0⟩ := kListTopic_openM kv
          have ho2 := R_mod ho mn (fun q hq => h.new hq)
          have hlen : (out.length + 1) * 40 ≤ 140737488355328 := by have := hok.out; omega
          have HLEN := Lib.hid hlen
          clear hlen
          go_wp2_with (at_builtin; refine Kd.R_append kListTopic (w0 := w2) w.heap.size rfl (.tmp 40) (.tmp 43) 54 178 (.agg #[.string ⟨#[]⟩, .slice none 0 0]) 40 rfl Tryz.underlying54 info_ListTopic rfl (by decide) (by decide) _ out (rdListTopic dk).1 [.string (rdListTopic dk).1.name, .slice A0 (rdListTopic dk).1.parts.length c0] (fun _ => True) (fun q => some q ≠ (Value.slice A out.length c).ownBlock) rfl rfl (M_fresh kv ho (Nat.le_refl _) hmr.size) (fun q hq => ⟨trivial, hq⟩) (fun _ _ => trivial) ho2 (Below.refl _ _) (Nat.le_trans hmr.size mn.size) HLEN.out ?_; intro v1 w3 ho3 hb3 hg3 hat3)
          obtain ⟨A', c', rfl⟩ := Kd.R_slice ho3
          have hc3 : Cl w3 p g bx rv (rdListTopic dk).2 := hc2.grown hg3 (fun q hq => by obtain ⟨cs, hcs⟩ := R_owntyped ho2 q hq; exact ⟨cs, _, hcs, by decide, by decide, by decide, by decide⟩)
          have hm3 : Mod (DecS p g) w w3 := (hmr.trans mn).grown hg3 (fun q hq => R_ownge ho2 q hq)
          clear hat3 hb3 hg3
          go_wp2
          go_roundg j
          case measure => omega
          case rel => exact ⟨k + 1, out ++ [(rdListTopic dk).1], (rdListTopic dk).2, A', c', by go_num, by simp, Lib.hid (by have := hok.out; simp [this]), by omega, Lib.hid (by have := hgk.out; omega), ho3, hc3, hm3, hstep, fun _ => hn16⟩
        · have he' : (dk.e == 0) = false := by simp [he]
          have hend : Hid (rdList rdListTopic d = (out, dk)) := Lib.hid (by rw [← heq.out]; exact rdGo_stop rdListTopic gk out dk he)
          clear he heq
          go_wp2
          go_ret
          rw [hend.out]
          exact ⟨A, c, rfl, ho, hcr, hmr⟩
      · have hlt' : decide ((k : Int) < d.i32.1) = false := by simpa using hlt
        have hend : Hid (rdList rdListTopic d = (out, dk)) := Lib.hid (by
          rw [← heq.out]
          have := hgk.out
          rw [show gk = 0 from by omega]
          rfl)
        clear heq
        go_wp2
        go_ret
        rw [hend.out]
        exact ⟨A, c, rfl, ho, hcr, hmr⟩

end Go.Proofs.YteckmgmcfngddaaGreat
end

section
/- The message ListReq read. -/
set_option linter.unusedVariables false
set_option linter.unusedSimpArgs false
namespace Go.Proofs.YteckmgmcfngddaaGreat
open Go.RowKit Go.Proofs.YteckmgmcfngddaaGreatW.PrintWords

def rdListReq (d : DS) : ListReq × DS :=
  let r0 := d.i32
  let r1 := if r0.2.has 2 3 = true then r0.2.i8 else (0, r0.2)
  let r2 := (rdList rdListTopic r1.2)
  (⟨r0.1, r1.1, r2.1⟩, r2.2)

set_option maxRecDepth 100000 in
set_option maxHeartbeats 6400000 in
theorem dec_ListReq (w : World) (v : Int) (A : Option Addr) (c : Nat) (xs : List Int) (hr : ReadsInt w .u8 A xs.length xs) (hl : xs.length ≤ 140737488355328) :
    Calls Tryz.prog 22 #[.int .i64 v, .slice A xs.length c] w (DecPost kListReq (decFin (⟨0, 0, []⟩ : ListReq) (rdListReq (DS.new v xs))) w) := by
  have hmf : ∀ (fn : Fn) (first cap : Array Value) (w : World), (Instr.makeFunc fn first cap).run Tryz.prog w = .ok (.func fn first cap) w := fun _ _ _ _ => rfl
  have HR := Lib.hid hr
  clear hr
  go_enter Tryz.func22, Tryz.ntmps22
  go_wp2_with (first | ((with_reducible refine gate_dst (N := 4) rfl ?_); refine box_event ?hg (N := 4) ?hd (cs := #[.int .i32 0, .int .i8 0, .slice none 0 0]) (t := 56) ?hr ?_; (case hd => rfl); (case hg => rfl); (case hr => first | (go_simp; done) | (go_simp; rfl)); intro gb hgb wg kgb bgb; have hgg : Hid (wg.heap[gb]? = some (.cells #[.int .i32 0, .int .i8 0, .slice none 0 0] 56 (0, 0))) := kgb; have hsgb : Hid (w.heap.size ≤ gb) := Nat.le_of_eq hgb.symm; clear kgb hgb))
  refine (newDec wg v A c xs (HR.out.below bgb) hl).mono ?_
  rintro e wn ⟨p, g, rv, rfl, hd0, hpw, hgw, bn⟩
  have hlb : (DS.new v xs).b.length ≤ 140737488355328 := hl
  generalize DS.new v xs = d at *
  have hgn := hid_mod hgg (Mod.of_below (S := fun _ => False) bn) (Lib.hid id)
  have hgbw := blk_lt hgg.out
  have hngb : Hid (¬ DecS p g gb) := fun hs => by rcases hs with rfl | rfl <;> omega
  have hbn : Below w.heap.size w wn := bgb.trans (bn.mono bgb.size)
  go_wp2_with (first
    | ((with_reducible refine gate_dst (N := 6) rfl ?_); refine box_event ?hg (N := 6) ?hd (cs := #[.pointer none]) (t := 113) ?hr ?_; (case hd => rfl); (case hg => rfl); (case hr => first | (go_simp; done) | (go_simp; rfl)); intro bx hbx wx kbx bbx; have hd1 := hd0.below bbx; have hnx : ¬ DecS p g bx := hd0.new (Nat.le_of_eq hbx.symm); have hgx := hid_mod hgn (Mod.of_below (S := fun _ => False) bbx) (Lib.hid id); have hgbx : Hid (gb ≠ bx) := Nat.ne_of_lt (Nat.lt_of_lt_of_le (blk_lt hgn.out) (Nat.le_of_eq hbx.symm)); have hcb : Cl (wx.setCell ⟨bx, 0, none⟩ (.pointer (some ⟨p, 0, none⟩))) p g bx rv d := ⟨hd1.far kbx (by decide) (by decide) (by decide) 0 _, by simpa using blk_set kbx 0 (.pointer (some ⟨p, 0, none⟩)), fun e => hnx (.inl e), fun e => hnx (.inr e), hlb⟩; have hgB : Hid ((wx.setCell ⟨bx, 0, none⟩ (.pointer (some ⟨p, 0, none⟩))).heap[gb]? = some (.cells #[.int .i32 0, .int .i8 0, .slice none 0 0] 56 (0, 0))) := hid_far hgx hgbx; have hbw : Below w.heap.size w (wx.setCell ⟨bx, 0, none⟩ (.pointer (some ⟨p, 0, none⟩))) := (hbn.trans (bbx.mono hbn.size)).setCell (p := ⟨bx, 0, none⟩) (Nat.le_trans hbn.size (Nat.le_of_eq hbx.symm)) _; have hbxgb : bx ≠ gb := fun e => hgbx.out e.symm; have fx := fun i => blk_frozen kbx i; have x0 : wx.cell? ⟨bx, 0, none⟩ = _ := blk_cell kbx 0; simp at x0; have cx : (wx.setCell ⟨bx, 0, none⟩ (.pointer (some ⟨p, 0, none⟩))).cell? ⟨bx, 0, none⟩ = some (.pointer (some ⟨p, 0, none⟩)) := hcb.cell; clear kbx hbx))
  generalize (wx.setCell ⟨bx, 0, none⟩ (.pointer (some ⟨p, 0, none⟩))) = wb at *
  have h := hcb
  have hc0 := hcb
  have hm0 : Mod (DecS p g) wb wb := Mod.refl _ _
  have hg0 := hgB
  have hbx := hbxgb
  have hc := hcb
  have hg := hgB
  have hm := hm0
  refine (cl_i32 wb p g bx rv d hc).mono ?_
  rintro e w1 ⟨rfl, hc2, mn⟩
  have hg := hid_mod hg mn hngb
  have hm := hm.trans mn
  have hc := hc2
  have cx := hc.cell
  clear hc2 mn
  go_wp2_with (first | ((with_reducible refine gate_dst (N := 7) rfl ?_); refine box_event ?hg (N := 7) ?hd (cs := #[.int .i32 0, .int .i8 0, .slice none 0 0]) (t := 56) ?hr ?_; (case hd => rfl); (case hg => rfl); (case hr => first | (go_simp; done) | (go_simp; rfl)); intro gt hgt wt kgt bgt; have hc := hc.below bgt; have hbt := blk_ne hc.box kgt (by decide); have hst : Hid (wb.heap.size ≤ gt) := Nat.le_trans hm.size (Nat.le_of_eq hgt.symm); have hgt2 : Hid (gb ≠ gt) := Nat.ne_of_lt (Nat.lt_of_lt_of_le (blk_lt hg.out) (Nat.le_of_eq hgt.symm)); have hnt : Hid (¬ DecS p g gt) := h.new hst.out; have hg := hid_mod hg (Mod.of_below (S := fun _ => False) bgt) (Lib.hid id); have hm := hm.trans (Mod.of_below bgt); have ht : Hid (wt.heap[gt]? = some (.cells #[.int .i32 0, .int .i8 0, .slice none 0 0] 56 (0, 0))) := kgt; clear kgt hgt bgt; have ft := fun i => blk_frozen ht.out i; have t0 : wt.cell? ⟨gt, 0, none⟩ = _ := blk_cell ht.out 0; have t1 : wt.cell? ⟨gt, 1, none⟩ = _ := blk_cell ht.out 1; have t2 : wt.cell? ⟨gt, 2, none⟩ = _ := blk_cell ht.out 2; simp at t0 t1 t2; have cx : (((wt.setCell ⟨gt, 0, none⟩ (.int .i32 (d.i32.1))).setCell ⟨gt, 1, none⟩ (.int .i8 0)).setCell ⟨gt, 2, none⟩ (.slice none 0 0)).cell? ⟨bx, 0, none⟩ = some (.pointer (some ⟨p, 0, none⟩)) := (cell_far hbt).trans ((cell_far hbt).trans ((cell_far hbt).trans (hc.cell)))))
  have hc1 : Cl ((((wt.setCell ⟨gt, 0, none⟩ (.int .i32 (d.i32.1))).setCell ⟨gt, 1, none⟩ (.int .i8 0)).setCell ⟨gt, 2, none⟩ (.slice none 0 0))) p g bx rv d.i32.2 := (((hc.far ht.out (by decide) (by decide) (by decide) (by decide) 0 _).far (hid_set ht 0 _).out (by decide) (by decide) (by decide) (by decide) 1 _).far (hid_set (hid_set ht 0 _) 1 _).out (by decide) (by decide) (by decide) (by decide) 2 _)
  have hg1 : Hid (((((wt.setCell ⟨gt, 0, none⟩ (.int .i32 (d.i32.1))).setCell ⟨gt, 1, none⟩ (.int .i8 0)).setCell ⟨gt, 2, none⟩ (.slice none 0 0))).heap[gb]? = some (.cells #[.int .i32 0, .int .i8 0, .slice none 0 0] 56 (0, 0))) := (hid_far (hid_far (hid_far hg hgt2) hgt2) hgt2)
  have ht1 : Hid (((((wt.setCell ⟨gt, 0, none⟩ (.int .i32 (d.i32.1))).setCell ⟨gt, 1, none⟩ (.int .i8 0)).setCell ⟨gt, 2, none⟩ (.slice none 0 0))).heap[gt]? = some (.cells #[.int .i32 (d.i32.1), .int .i8 0, .slice none 0 0] 56 (0, 0))) := hid_cast (hid_set (hid_set (hid_set ht 0 _) 1 _) 2 _) rfl
  have hm1 : Mod (DecS p g) wb ((((wt.setCell ⟨gt, 0, none⟩ (.int .i32 (d.i32.1))).setCell ⟨gt, 1, none⟩ (.int .i8 0)).setCell ⟨gt, 2, none⟩ (.slice none 0 0))) := (modFar (modFar (modFar hm hst 0 _) hst 1 _) hst 2 _)
  generalize (((wt.setCell ⟨gt, 0, none⟩ (.int .i32 (d.i32.1))).setCell ⟨gt, 1, none⟩ (.int .i8 0)).setCell ⟨gt, 2, none⟩ (.slice none 0 0)) = wc at *
  replace hc := hc1
  replace hg := hg1
  replace ht := ht1
  replace hm := hm1
  clear hc1 hg1 ht1 hm1
  go_wp2_with fail
  refine (cl_has wc p g bx rv d.i32.2 2 3 hc).mono ?_
  rintro e wh0 ⟨rfl, hc2, mn⟩
  replace hg := hid_mod hg mn hngb
  replace ht := hid_mod ht mn hnt
  replace hm := hm.trans mn
  replace hc := hc2
  have cx := hc.cell
  clear hc2 mn
  cases hh0 : d.i32.2.has 2 3
  · -- no
    go_wp2_with fail
    have hbtopics : Hid (wb.heap.size ≤ wh0.heap.size) := hm.size
    refine (cl_list_ListTopic wh0 p g bx rv d.i32.2 hc).mono ?_
    rintro e wtopics_1 ⟨Atopics, ctopics, rfl, rtopics, hc2, mn⟩
    replace hg := hid_mod hg mn hngb
    replace ht := hid_mod ht mn hnt
    replace hm := hm.trans mn
    replace hc := hc2
    have cx := hc.cell
    clear hc2 mn
    have ft := fun i => blk_frozen ht.out i
    have t2 : wtopics_1.cell? ⟨gt, 2, none⟩ = _ := blk_cell ht.out 2
    simp at t2
    have cx1 : (wtopics_1.setCell ⟨gt, 2, none⟩ (.slice Atopics (rdList rdListTopic d.i32.2).1.length ctopics)).cell? ⟨bx, 0, none⟩ = some (.pointer (some ⟨p, 0, none⟩)) := (cell_far hbt).trans (hc.cell)
    have hc1 : Cl (wtopics_1.setCell ⟨gt, 2, none⟩ (.slice Atopics (rdList rdListTopic d.i32.2).1.length ctopics)) p g bx rv ((rdList rdListTopic d.i32.2).2) := (hc.far ht.out (by decide) (by decide) (by decide) (by decide) 2 _)
    have hg1 : Hid ((wtopics_1.setCell ⟨gt, 2, none⟩ (.slice Atopics (rdList rdListTopic d.i32.2).1.length ctopics)).heap[gb]? = some (.cells #[.int .i32 0, .int .i8 0, .slice none 0 0] 56 (0, 0))) := (hid_far hg hgt2)
    have ht1 : Hid ((wtopics_1.setCell ⟨gt, 2, none⟩ (.slice Atopics (rdList rdListTopic d.i32.2).1.length ctopics)).heap[gt]? = some (.cells #[.int .i32 (d.i32.1), .int .i8 0, .slice Atopics (rdList rdListTopic d.i32.2).1.length ctopics] 56 (0, 0))) := hid_cast (hid_set ht 2 (.slice Atopics (rdList rdListTopic d.i32.2).1.length ctopics)) rfl
    have hm1 : Mod (DecS p g) wb (wtopics_1.setCell ⟨gt, 2, none⟩ (.slice Atopics (rdList rdListTopic d.i32.2).1.length ctopics)) := (modFar hm hst 2 _)
    have rtopics1 := (Kd.R_set rtopics ht.out (by decide) 2 (.slice Atopics (rdList rdListTopic d.i32.2).1.length ctopics))
    replace hc := hc1
    replace hg := hg1
    replace ht := ht1
    replace hm := hm1
    replace rtopics := rtopics1
    clear hc1 hg1 ht1 hm1 rtopics1
    go_wp2_with fail
    refine (cl_end (wtopics_1.setCell ⟨gt, 2, none⟩ (.slice Atopics (rdList rdListTopic d.i32.2).1.length ctopics)) p g bx rv ((rdList rdListTopic d.i32.2).2) hc).mono ?_
    rintro e we ⟨rfl, mn⟩
    replace hg := hid_mod hg mn hngb
    replace ht := hid_mod ht mn hnt
    replace hm := hm.trans mn
    replace rtopics := R_mod rtopics mn (fun k hk => h.new (Nat.le_trans hbtopics.out hk))
    have fg := fun i => blk_frozen hg.out i
    have t0 : we.cell? ⟨gt, 0, none⟩ = _ := blk_cell ht.out 0
    have z0 : we.cell? ⟨gb, 0, none⟩ = _ := blk_cell hg.out 0
    have t1 : we.cell? ⟨gt, 1, none⟩ = _ := blk_cell ht.out 1
    have z1 : we.cell? ⟨gb, 1, none⟩ = _ := blk_cell hg.out 1
    have t2 : we.cell? ⟨gt, 2, none⟩ = _ := blk_cell ht.out 2
    have z2 : we.cell? ⟨gb, 2, none⟩ = _ := blk_cell hg.out 2
    simp at t0 z0 t1 z1 t2 z2
    have erd : rdListReq d = (⟨d.i32.1, 0, (rdList rdListTopic d.i32.2).1⟩, (rdList rdListTopic d.i32.2).2) := by simp only [rdListReq, hh0, Bool.false_eq_true, if_true, if_false]
    have hbe : Below w.heap.size w we := Below.mod hbw hbw.size hm (fun i hi hs => by have := bgb.size; rcases hs with rfl | rfl <;> omega)
    by_cases hfin : ((rdList rdListTopic d.i32.2).2).fin = 0
    · have hf1 : (((rdList rdListTopic d.i32.2).2).fin != 0) = false := by simp [hfin]
      have edc : Hid (decFin (⟨0, 0, []⟩ : ListReq) (rdListReq d) = (⟨d.i32.1, 0, (rdList rdListTopic d.i32.2).1⟩, 0)) := Lib.hid (by rw [erd]; exact decFin_ok hfin)
      clear hfin erd
      go_wp2
      refine bodyPost_ret (v := .tuple #[.agg #[.int .i32 (d.i32.1), .int .i8 0, .slice Atopics (rdList rdListTopic d.i32.2).1.length ctopics], .int .i64 (0)]) (by simp [results, Tryz.results22, go_sem, z0, z1, z2]) rfl ?_
      rw [edc.out]
      exact ⟨[.int .i32 (d.i32.1), .int .i8 0, .slice Atopics (rdList rdListTopic d.i32.2).1.length ctopics], rfl, kListReq_mkM _ _ _ (⟨d.i32.1, 0, (rdList rdListTopic d.i32.2).1⟩ : ListReq) (Kd.R_lower (Kd.R_set (Kd.R_set (Kd.R_set rtopics hg.out (by decide) 0 _) (hid_set hg 0 _).out (by decide) 1 _) (hid_set (hid_set hg 0 _) 1 _).out (by decide) 2 _) (Nat.le_trans hbw.size hbtopics.out)), (Below.setCell (Below.setCell (Below.setCell hbe (p := ⟨gb, 0, none⟩) hsgb.out _) (p := ⟨gb, 1, none⟩) hsgb.out _) (p := ⟨gb, 2, none⟩) hsgb.out _)⟩
    · have hf1 : (((rdList rdListTopic d.i32.2).2).fin != 0) = true := by simp [hfin]
      have edc : Hid (decFin (⟨0, 0, []⟩ : ListReq) (rdListReq d) = (⟨0, 0, []⟩, ((rdList rdListTopic d.i32.2).2).fin)) := Lib.hid (by rw [erd]; exact decFin_bad hfin)
      clear hfin erd
      go_wp2
      refine bodyPost_ret (v := .tuple #[.agg #[.int .i32 0, .int .i8 0, .slice none 0 0], .int .i64 (((rdList rdListTopic d.i32.2).2).fin)]) (by simp [results, Tryz.results22, go_sem, z0, z1, z2]) rfl ?_
      rw [edc.out]
      exact ⟨[.int .i32 0, .int .i8 0, .slice none 0 0], rfl, kListReq_mkM _ _ _ (⟨0, 0, []⟩ : ListReq) (Kd.R_nil _ _ _ _ _), (Below.setCell (Below.setCell (Below.setCell hbe (p := ⟨gb, 0, none⟩) hsgb.out _) (p := ⟨gb, 1, none⟩) hsgb.out _) (p := ⟨gb, 2, none⟩) hsgb.out _)⟩
  · -- yes
    go_wp2_with fail
    refine (cl_i8 wh0 p g bx rv d.i32.2 hc).mono ?_
    rintro e wlevel_0 ⟨rfl, hc2, mn⟩
    replace hg := hid_mod hg mn hngb
    replace ht := hid_mod ht mn hnt
    replace hm := hm.trans mn
    replace hc := hc2
    have cx := hc.cell
    clear hc2 mn
    have ft := fun i => blk_frozen ht.out i
    have t1 : wlevel_0.cell? ⟨gt, 1, none⟩ = _ := blk_cell ht.out 1
    simp at t1
    have cx1 : (wlevel_0.setCell ⟨gt, 1, none⟩ (.int .i8 (d.i32.2.i8.1))).cell? ⟨bx, 0, none⟩ = some (.pointer (some ⟨p, 0, none⟩)) := (cell_far hbt).trans (hc.cell)
    have hc1 : Cl (wlevel_0.setCell ⟨gt, 1, none⟩ (.int .i8 (d.i32.2.i8.1))) p g bx rv d.i32.2.i8.2 := (hc.far ht.out (by decide) (by decide) (by decide) (by decide) 1 _)
    have hg1 : Hid ((wlevel_0.setCell ⟨gt, 1, none⟩ (.int .i8 (d.i32.2.i8.1))).heap[gb]? = some (.cells #[.int .i32 0, .int .i8 0, .slice none 0 0] 56 (0, 0))) := (hid_far hg hgt2)
    have ht1 : Hid ((wlevel_0.setCell ⟨gt, 1, none⟩ (.int .i8 (d.i32.2.i8.1))).heap[gt]? = some (.cells #[.int .i32 (d.i32.1), .int .i8 (d.i32.2.i8.1), .slice none 0 0] 56 (0, 0))) := hid_cast (hid_set ht 1 (.int .i8 (d.i32.2.i8.1))) rfl
    have hm1 : Mod (DecS p g) wb (wlevel_0.setCell ⟨gt, 1, none⟩ (.int .i8 (d.i32.2.i8.1))) := (modFar hm hst 1 _)
    replace hc := hc1
    replace hg := hg1
    replace ht := ht1
    replace hm := hm1
    clear hc1 hg1 ht1 hm1
    go_wp2_with fail
    have hbtopics : Hid (wb.heap.size ≤ (wlevel_0.setCell ⟨gt, 1, none⟩ (.int .i8 (d.i32.2.i8.1))).heap.size) := hm.size
    refine (cl_list_ListTopic (wlevel_0.setCell ⟨gt, 1, none⟩ (.int .i8 (d.i32.2.i8.1))) p g bx rv d.i32.2.i8.2 hc).mono ?_
    rintro e wtopics_1 ⟨Atopics, ctopics, rfl, rtopics, hc2, mn⟩
    replace hg := hid_mod hg mn hngb
    replace ht := hid_mod ht mn hnt
    replace hm := hm.trans mn
    replace hc := hc2
    have cx := hc.cell
    clear hc2 mn
    have ft := fun i => blk_frozen ht.out i
    have t2 : wtopics_1.cell? ⟨gt, 2, none⟩ = _ := blk_cell ht.out 2
    simp at t2
    have cx1 : (wtopics_1.setCell ⟨gt, 2, none⟩ (.slice Atopics (rdList rdListTopic d.i32.2.i8.2).1.length ctopics)).cell? ⟨bx, 0, none⟩ = some (.pointer (some ⟨p, 0, none⟩)) := (cell_far hbt).trans (hc.cell)
    have hc1 : Cl (wtopics_1.setCell ⟨gt, 2, none⟩ (.slice Atopics (rdList rdListTopic d.i32.2.i8.2).1.length ctopics)) p g bx rv ((rdList rdListTopic d.i32.2.i8.2).2) := (hc.far ht.out (by decide) (by decide) (by decide) (by decide) 2 _)
    have hg1 : Hid ((wtopics_1.setCell ⟨gt, 2, none⟩ (.slice Atopics (rdList rdListTopic d.i32.2.i8.2).1.length ctopics)).heap[gb]? = some (.cells #[.int .i32 0, .int .i8 0, .slice none 0 0] 56 (0, 0))) := (hid_far hg hgt2)
    have ht1 : Hid ((wtopics_1.setCell ⟨gt, 2, none⟩ (.slice Atopics (rdList rdListTopic d.i32.2.i8.2).1.length ctopics)).heap[gt]? = some (.cells #[.int .i32 (d.i32.1), .int .i8 (d.i32.2.i8.1), .slice Atopics (rdList rdListTopic d.i32.2.i8.2).1.length ctopics] 56 (0, 0))) := hid_cast (hid_set ht 2 (.slice Atopics (rdList rdListTopic d.i32.2.i8.2).1.length ctopics)) rfl
    have hm1 : Mod (DecS p g) wb (wtopics_1.setCell ⟨gt, 2, none⟩ (.slice Atopics (rdList rdListTopic d.i32.2.i8.2).1.length ctopics)) := (modFar hm hst 2 _)
    have rtopics1 := (Kd.R_set rtopics ht.out (by decide) 2 (.slice Atopics (rdList rdListTopic d.i32.2.i8.2).1.length ctopics))
    replace hc := hc1
    replace hg := hg1
    replace ht := ht1
    replace hm := hm1
    replace rtopics := rtopics1
    clear hc1 hg1 ht1 hm1 rtopics1
    go_wp2_with fail
    refine (cl_end (wtopics_1.setCell ⟨gt, 2, none⟩ (.slice Atopics (rdList rdListTopic d.i32.2.i8.2).1.length ctopics)) p g bx rv ((rdList rdListTopic d.i32.2.i8.2).2) hc).mono ?_
    rintro e we ⟨rfl, mn⟩
    replace hg := hid_mod hg mn hngb
    replace ht := hid_mod ht mn hnt
    replace hm := hm.trans mn
    replace rtopics := R_mod rtopics mn (fun k hk => h.new (Nat.le_trans hbtopics.out hk))
    have fg := fun i => blk_frozen hg.out i
    have t0 : we.cell? ⟨gt, 0, none⟩ = _ := blk_cell ht.out 0
    have z0 : we.cell? ⟨gb, 0, none⟩ = _ := blk_cell hg.out 0
    have t1 : we.cell? ⟨gt, 1, none⟩ = _ := blk_cell ht.out 1
    have z1 : we.cell? ⟨gb, 1, none⟩ = _ := blk_cell hg.out 1
    have t2 : we.cell? ⟨gt, 2, none⟩ = _ := blk_cell ht.out 2
    have z2 : we.cell? ⟨gb, 2, none⟩ = _ := blk_cell hg.out 2
    simp at t0 z0 t1 z1 t2 z2
    have erd : rdListReq d = (⟨d.i32.1, d.i32.2.i8.1, (rdList rdListTopic d.i32.2.i8.2).1⟩, (rdList rdListTopic d.i32.2.i8.2).2) := by simp only [rdListReq, hh0, Bool.false_eq_true, if_true, if_false]
    have hbe : Below w.heap.size w we := Below.mod hbw hbw.size hm (fun i hi hs => by have := bgb.size; rcases hs with rfl | rfl <;> omega)
    by_cases hfin : ((rdList rdListTopic d.i32.2.i8.2).2).fin = 0
    · have hf1 : (((rdList rdListTopic d.i32.2.i8.2).2).fin != 0) = false := by simp [hfin]
      have edc : Hid (decFin (⟨0, 0, []⟩ : ListReq) (rdListReq d) = (⟨d.i32.1, d.i32.2.i8.1, (rdList rdListTopic d.i32.2.i8.2).1⟩, 0)) := Lib.hid (by rw [erd]; exact decFin_ok hfin)
      clear hfin erd
      go_wp2
      refine bodyPost_ret (v := .tuple #[.agg #[.int .i32 (d.i32.1), .int .i8 (d.i32.2.i8.1), .slice Atopics (rdList rdListTopic d.i32.2.i8.2).1.length ctopics], .int .i64 (0)]) (by simp [results, Tryz.results22, go_sem, z0, z1, z2]) rfl ?_
      rw [edc.out]
      exact ⟨[.int .i32 (d.i32.1), .int .i8 (d.i32.2.i8.1), .slice Atopics (rdList rdListTopic d.i32.2.i8.2).1.length ctopics], rfl, kListReq_mkM _ _ _ (⟨d.i32.1, d.i32.2.i8.1, (rdList rdListTopic d.i32.2.i8.2).1⟩ : ListReq) (Kd.R_lower (Kd.R_set (Kd.R_set (Kd.R_set rtopics hg.out (by decide) 0 _) (hid_set hg 0 _).out (by decide) 1 _) (hid_set (hid_set hg 0 _) 1 _).out (by decide) 2 _) (Nat.le_trans hbw.size hbtopics.out)), (Below.setCell (Below.setCell (Below.setCell hbe (p := ⟨gb, 0, none⟩) hsgb.out _) (p := ⟨gb, 1, none⟩) hsgb.out _) (p := ⟨gb, 2, none⟩) hsgb.out _)⟩
    · have hf1 : (((rdList rdListTopic d.i32.2.i8.2).2).fin != 0) = true := by simp [hfin]
      have edc : Hid (decFin (⟨0, 0, []⟩ : ListReq) (rdListReq d) = (⟨0, 0, []⟩, ((rdList rdListTopic d.i32.2.i8.2).2).fin)) := Lib.hid (by rw [erd]; exact decFin_bad hfin)
      clear hfin erd
      go_wp2
      refine bodyPost_ret (v := .tuple #[.agg #[.int .i32 0, .int .i8 0, .slice none 0 0], .int .i64 (((rdList rdListTopic d.i32.2.i8.2).2).fin)]) (by simp [results, Tryz.results22, go_sem, z0, z1, z2]) rfl ?_
      rw [edc.out]
      exact ⟨[.int .i32 0, .int .i8 0, .slice none 0 0], rfl, kListReq_mkM _ _ _ (⟨0, 0, []⟩ : ListReq) (Kd.R_nil _ _ _ _ _), (Below.setCell (Below.setCell (Below.setCell hbe (p := ⟨gb, 0, none⟩) hsgb.out _) (p := ⟨gb, 1, none⟩) hsgb.out _) (p := ⟨gb, 2, none⟩) hsgb.out _)⟩

end Go.Proofs.YteckmgmcfngddaaGreat
end
