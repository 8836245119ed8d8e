/- A part of a proof. Proved: Rows.CallOnlySaid: for every byte slice the law leatlaw16.CallOnly returns true, and the slice reads afterwards as it read before. No condition but the row's own reach. -/
import Derived.Test.YteckmgmcfngddaaGreatCo105
section
/- Encode of a message: FetchReq. -/
set_option linter.unusedVariables false
set_option linter.unusedSimpArgs false
namespace Go.Proofs.YteckmgmcfngddaaGreat
open Go.RowKit Go.Proofs.YteckmgmcfngddaaGreatW.PrintWords

def lkFetchPart (t : FetchPart) (x : ES) : ES := (ES.lacks (t.epoch == 0) 3 3 x)
def lkFetchTopic (t : FetchTopic) (x : ES) : ES := t.parts.foldl (fun s p => lkFetchPart p s) x
def encFetchReq (v : Int) (m : FetchReq) : List Int × Int := ((wrItems wrFetchTopic m.topics (ES.when 2 3 (fun s => (ES.i8 m.level s)) (ES.when 1 3 (fun s => (ES.i32 m.max s)) (ES.i32 m.min (ES.i32 m.wait (ES.i32 m.replica (m.topics.foldl (fun s t => lkFetchTopic t s) (ES.lacks (m.level == 0) 2 3 (ES.lacks (m.max == 0) 1 3 (ES.new v))))))))))).done
def okFetchReq (m : FetchReq) : Prop := ∀ y ∈ m.topics, okFetchTopic y

set_option maxRecDepth 100000 in
set_option maxHeartbeats 12800000 in
theorem eo_FetchReq (w : World) (v : Int) (m : FetchReq) (A0 : Option Addr) (c0 : Nat) (g0 : kFetchTopic.C w A0 m.topics.length m.topics) (hok : okFetchReq m) :
    Calls Tryz.prog 28 #[.int .i64 v, .agg #[.int .i32 m.replica, .int .i32 m.wait, .int .i32 m.min, .int .i32 m.max, .int .i8 m.level, .slice A0 m.topics.length c0]] w (EncRes (encFetchReq v m) w) := by
  have hmf : ∀ (fn : Fn) (first cap : Array Value) (w : World), (Instr.makeFunc fn first cap).run Tryz.prog w = .ok (.func fn first cap) w := fun _ _ _ _ => rfl
  have OK0 := Lib.hid hok
  have hmax := Kd.C_max g0
  clear hok
  go_enter Tryz.func28, Tryz.ntmps28
  go_wp2_with (first
    | ((with_reducible refine gate_dst (N := 3) rfl ?_); refine box_event ?hg (N := 3) ?hd (cs := #[.int .i32 m.replica, .int .i32 m.wait, .int .i32 m.min, .int .i32 m.max, .int .i8 m.level, .slice A0 m.topics.length c0]) (t := 68) ?hr ?_; (case hd => rfl); (case hg => rfl); (case hr => first | (go_simp; done) | (go_simp; rfl)); intro gb hgb w1 kgb bgb; have G0 := Lib.hid (Kd.C_below g0 bgb); have hg1 := Lib.hid kgb; have HB1 := Lib.hid bgb; clear hgb kgb bgb)
    | (go_at_call 70; refine (newEnc w1 v).mono ?_; rintro e w2 ⟨p, rfl, hE, hB⟩; have hc := Lib.hid (CeAt.new hE hB); have hg := Lib.hid (base_blk hc.out.base hg1.out); have cx := hc.out.cell; have b0 := blk_cell hg.out 0; have b1 := blk_cell hg.out 1; have b2 := blk_cell hg.out 2; have b3 := blk_cell hg.out 3; have b4 := blk_cell hg.out 4; have b5 := blk_cell hg.out 5; simp at b0 b1 b2 b3 b4 b5; clear hE hB)
    | (go_at_call 71; refine (enc_lacks _ _ p _ _ _ _ (by exact hc.out.enc)).mono ?_; rintro e wn ⟨rfl, h2, m2⟩; have hc := Lib.hid (hc.out.post h2 m2); have hg := Lib.hid (TMod.blk m2 hg.out (by unfold EncT WrT; decide)); have cx := hc.out.cell; have b0 := blk_cell hg.out 0; have b1 := blk_cell hg.out 1; have b2 := blk_cell hg.out 2; have b3 := blk_cell hg.out 3; have b4 := blk_cell hg.out 4; have b5 := blk_cell hg.out 5; simp at b0 b1 b2 b3 b4 b5; clear h2 m2)
    | (go_at_call 75; refine (enc_i32 _ _ p _ _ (by exact hc.out.enc)).mono ?_; rintro e wn ⟨rfl, h2, m2⟩; have hc := Lib.hid (hc.out.post h2 m2); have hg := Lib.hid (TMod.blk m2 hg.out (by unfold EncT WrT; decide)); have cx := hc.out.cell; have b0 := blk_cell hg.out 0; have b1 := blk_cell hg.out 1; have b2 := blk_cell hg.out 2; have b3 := blk_cell hg.out 3; have b4 := blk_cell hg.out 4; have b5 := blk_cell hg.out 5; simp at b0 b1 b2 b3 b4 b5; clear h2 m2)
    | (go_at_call 72; refine (enc_has _ _ p _ _ _ (by exact hc.out.enc)).mono ?_; rintro e wn ⟨rfl, rfl⟩)
    | (go_at_call 102; refine (enc_i8 _ _ p _ _ (by exact hc.out.enc)).mono ?_; rintro e wn ⟨rfl, h2, m2⟩; have hc := Lib.hid (hc.out.post h2 m2); have hg := Lib.hid (TMod.blk m2 hg.out (by unfold EncT WrT; decide)); have cx := hc.out.cell; have b0 := blk_cell hg.out 0; have b1 := blk_cell hg.out 1; have b2 := blk_cell hg.out 2; have b3 := blk_cell hg.out 3; have b4 := blk_cell hg.out 4; have b5 := blk_cell hg.out 5; simp at b0 b1 b2 b3 b4 b5; clear h2 m2)
    | (go_at_call 122; refine (ce_items_FetchTopic w1 _ p _ _ m.topics A0 c0 (by exact hc.out) G0.out OK0.out).mono ?_; rintro e wn ⟨rfl, h2, m2⟩; have hc := Lib.hid h2; have hg := Lib.hid (TMod.blk m2 hg.out (by unfold EncT WrT; decide)); have cx := hc.out.cell; have b0 := blk_cell hg.out 0; have b1 := blk_cell hg.out 1; have b2 := blk_cell hg.out 2; have b3 := blk_cell hg.out 3; have b4 := blk_cell hg.out 4; have b5 := blk_cell hg.out 5; simp at b0 b1 b2 b3 b4 b5; clear h2 m2)
    | (go_at_call 82; refine (enc_done _ _ p _ (by exact hc.out.enc)).mono ?_; rintro e wn ⟨vv, rfl, ho, m2⟩; obtain ⟨AA, cc, rfl⟩ := own_slice ho; have HO := Lib.hid ho; have hM := Lib.hid m2; clear ho m2)
    | fail)
  go_loopg [26] m.topics.length (fun gk v26 wr => ∃ k : Nat, v26 = .int .i64 k ∧ Hid (k + gk = m.topics.length) ∧ k ≤ m.topics.length ∧ CeAt w1 wr p w2.heap.size ((m.topics.take k).foldl (fun s t => lkFetchTopic t s) (ES.lacks (m.level == 0) 2 3 (ES.lacks (m.max == 0) 1 3 (ES.new v)))))
  case atStart => exact ⟨0, rfl, Lib.hid (by omega), by omega, hc.out⟩
  case round =>
    obtain ⟨k, rfl, hgk, hkl, hcr⟩ := hrel
    clear hc hg cx b0 b1 b2 b3 b4 b5
    by_cases hlt : k < m.topics.length
    · obtain ⟨j, rfl⟩ : ∃ j, gk = j + 1 := ⟨gk - 1, by have := hgk.out; omega⟩
      obtain ⟨add, cs, rfl, hcl, hK, hcell⟩ := Kd.C_get G0.out zFetchTopic (k : Int) (by omega) (by omega)
      obtain ⟨B0, q0, rfl, l0, g0'⟩ := kFetchTopic_openK hK
      have hsK := Lib.hid (foldl_step lkFetchTopic m.topics (ES.lacks (m.level == 0) 2 3 (ES.lacks (m.max == 0) 1 3 (ES.new v))) k zFetchTopic hlt)
      have d0 : wr.cell? (add.add (k * 2)) = some (.string (m.topics.getD k zFetchTopic).name) := pw_cell_below hcr.base (hcell 0 _ rfl)
      have d1 : wr.cell? ⟨(add.add (k * 2)).block, (add.add (k * 2)).off + 1, none⟩ = some (.slice B0 (m.topics.getD k zFetchTopic).parts.length q0) := by rw [← add_field add (k * 2) 1 (by omega)]; exact pw_cell_below hcr.base (hcell 1 _ rfl)
      have G1 : kFetchPart.C w1 B0 (m.topics.getD k zFetchTopic).parts.length (m.topics.getD k zFetchTopic).parts := g0'
      clear hcell hcl hK g0'
      generalize hgt : (m.topics.getD k zFetchTopic) = t at *
      have hmax2 := Kd.C_max G1
      have i0 : (0 : Int) ≤ (k : Int) := by omega
      have i1 : (k : Int) < (m.topics.length : Int) := by omega
      have hcA := hcr.grown ((Below.refl _ _).alloc (Nat.le_refl _) (.cells #[.string t.name, .slice B0 t.parts.length q0] 209))
      clear hcr
      go_wp2_with fail
      go_loopg [33] t.parts.length (fun gk2 v33 wr2 => ∃ k2 : Nat, v33 = .int .i64 k2 ∧ Hid (k2 + gk2 = t.parts.length) ∧ k2 ≤ t.parts.length ∧ CeAt w1 wr2 p w2.heap.size ((t.parts.take k2).foldl (fun s p => lkFetchPart p s) ((m.topics.take k).foldl (fun s t => lkFetchTopic t s) (ES.lacks (m.level == 0) 2 3 (ES.lacks (m.max == 0) 1 3 (ES.new v))))))
      case atStart => exact ⟨0, rfl, Lib.hid (by omega), by omega, hcA⟩
      case round =>
        obtain ⟨k2, rfl, hgk2, hkl2, hcr2⟩ := hrel
        clear hcA d0 d1
        by_cases hlt2 : k2 < t.parts.length
        · obtain ⟨j2, rfl⟩ : ∃ j2, gk = j2 + 1 := ⟨gk - 1, by have := hgk2.out; omega⟩
          obtain ⟨ade, cs2, rfl, hcl2, hK2, hcell2⟩ := Kd.C_get G1 zFetchPart (k2 : Int) (by omega) (by omega)
          obtain rfl := kFetchPart_openK hK2
          have hs2 := Lib.hid (foldl_step lkFetchPart t.parts ((m.topics.take k).foldl (fun s t => lkFetchTopic t s) (ES.lacks (m.level == 0) 2 3 (ES.lacks (m.max == 0) 1 3 (ES.new v)))) k2 zFetchPart hlt2)
          have e0 : wr.cell? (ade.add (k2 * 4)) = some (.int .i32 (t.parts.getD k2 zFetchPart).index) := pw_cell_below hcr2.base (hcell2 0 _ rfl)
          have e1 : wr.cell? ⟨(ade.add (k2 * 4)).block, (ade.add (k2 * 4)).off + 1, none⟩ = some (.int .i64 (t.parts.getD k2 zFetchPart).offset) := by rw [← add_field ade (k2 * 4) 1 (by omega)]; exact pw_cell_below hcr2.base (hcell2 1 _ rfl)
          have e2 : wr.cell? ⟨(ade.add (k2 * 4)).block, (ade.add (k2 * 4)).off + 2, none⟩ = some (.int .i32 (t.parts.getD k2 zFetchPart).epoch) := by rw [← add_field ade (k2 * 4) 2 (by omega)]; exact pw_cell_below hcr2.base (hcell2 2 _ rfl)
          have e3 : wr.cell? ⟨(ade.add (k2 * 4)).block, (ade.add (k2 * 4)).off + 3, none⟩ = some (.int .i32 (t.parts.getD k2 zFetchPart).max) := by rw [← add_field ade (k2 * 4) 3 (by omega)]; exact pw_cell_below hcr2.base (hcell2 3 _ rfl)
          clear hcell2 hcl2 hK2
          generalize hgy : (t.parts.getD k2 zFetchPart) = y at *
          have i2 : (0 : Int) ≤ (k2 : Int) := by omega
          have i3 : (k2 : Int) < (t.parts.length : Int) := by omega
          have hc := Lib.hid (hcr2.grown ((Below.refl _ _).alloc (Nat.le_refl _) (.cells #[.int .i32 y.index, .int .i64 y.offset, .int .i32 y.epoch, .int .i32 y.max] 212)))
          have hq := Lib.hid (blk_new wr (.cells #[.int .i32 y.index, .int .i64 y.offset, .int .i32 y.epoch, .int .i32 y.max] 212))
          have cx := hc.out.cell
          clear hcr2
          go_wp2_with (first
            | (go_at_call 71; refine (enc_lacks _ _ p _ _ _ _ (by exact hc.out.enc)).mono ?_; rintro e wn ⟨rfl, h2, m2⟩; have hc := Lib.hid (hc.out.post h2 m2); have hq := Lib.hid (TMod.blk m2 hq.out (by unfold EncT WrT; decide)); have cx := hc.out.cell; have y0 := blk_cell hq.out 0; have y1 := blk_cell hq.out 1; have y2 := blk_cell hq.out 2; have y3 := blk_cell hq.out 3; simp at y0 y1 y2 y3; clear h2 m2)
            | fail)
          go_roundg j2
          case measure => omega
          case rel => exact ⟨k2 + 1, by go_num, Lib.hid (by have := hgk2.out; omega), by omega, by rw [hs2.out]; exact hc.out⟩
        · have hend2 : k2 = t.parts.length := by have := hgk2.out; omega
          have hlt2' : decide ((k2 : Int) < (t.parts.length : Int)) = false := by simp; omega
          rw [hend2, List.take_length] at hcr2
          go_wp2
          go_roundg j
          case measure => omega
          case rel => exact ⟨k + 1, by go_num, Lib.hid (by have := hgk.out; omega), by omega, by rw [hsK.out]; exact hcr2⟩
    · have hend : k = m.topics.length := by have := hgk.out; omega
      have hlt' : decide ((k : Int) < (m.topics.length : Int)) = false := by simp; omega
      rw [hend, List.take_length] at hcr
      have hc := Lib.hid hcr
      have hg := Lib.hid (base_blk hc.out.base hg1.out)
      have cx := hc.out.cell
      have b0 := blk_cell hg.out 0
      have b1 := blk_cell hg.out 1
      have b2 := blk_cell hg.out 2
      have b3 := blk_cell hg.out 3
      have b4 := blk_cell hg.out 4
      have b5 := blk_cell hg.out 5
      simp at b0 b1 b2 b3 b4 b5
      clear hcr
      go_wp2_with (first
        | ((with_reducible refine gate_dst (N := 3) rfl ?_); refine box_event ?hg (N := 3) ?hd (cs := #[.int .i32 m.replica, .int .i32 m.wait, .int .i32 m.min, .int .i32 m.max, .int .i8 m.level, .slice A0 m.topics.length c0]) (t := 68) ?hr ?_; (case hd => rfl); (case hg => rfl); (case hr => first | (go_simp; done) | (go_simp; rfl)); intro gb hgb w1 kgb bgb; have G0 := Lib.hid (Kd.C_below g0 bgb); have hg1 := Lib.hid kgb; have HB1 := Lib.hid bgb; clear hgb kgb bgb)
        | (go_at_call 70; refine (newEnc w1 v).mono ?_; rintro e w2 ⟨p, rfl, hE, hB⟩; have hc := Lib.hid (CeAt.new hE hB); have hg := Lib.hid (base_blk hc.out.base hg1.out); have cx := hc.out.cell; have b0 := blk_cell hg.out 0; have b1 := blk_cell hg.out 1; have b2 := blk_cell hg.out 2; have b3 := blk_cell hg.out 3; have b4 := blk_cell hg.out 4; have b5 := blk_cell hg.out 5; simp at b0 b1 b2 b3 b4 b5; clear hE hB)
        | (go_at_call 71; refine (enc_lacks _ _ p _ _ _ _ (by exact hc.out.enc)).mono ?_; rintro e wn ⟨rfl, h2, m2⟩; have hc := Lib.hid (hc.out.post h2 m2); have hg := Lib.hid (TMod.blk m2 hg.out (by unfold EncT WrT; decide)); have cx := hc.out.cell; have b0 := blk_cell hg.out 0; have b1 := blk_cell hg.out 1; have b2 := blk_cell hg.out 2; have b3 := blk_cell hg.out 3; have b4 := blk_cell hg.out 4; have b5 := blk_cell hg.out 5; simp at b0 b1 b2 b3 b4 b5; clear h2 m2)
        | (go_at_call 75; refine (enc_i32 _ _ p _ _ (by exact hc.out.enc)).mono ?_; rintro e wn ⟨rfl, h2, m2⟩; have hc := Lib.hid (hc.out.post h2 m2); have hg := Lib.hid (TMod.blk m2 hg.out (by unfold EncT WrT; decide)); have cx := hc.out.cell; have b0 := blk_cell hg.out 0; have b1 := blk_cell hg.out 1; have b2 := blk_cell hg.out 2; have b3 := blk_cell hg.out 3; have b4 := blk_cell hg.out 4; have b5 := blk_cell hg.out 5; simp at b0 b1 b2 b3 b4 b5; clear h2 m2)
        | (go_at_call 72; refine (enc_has _ _ p _ _ _ (by exact hc.out.enc)).mono ?_; rintro e wn ⟨rfl, rfl⟩)
        | (go_at_call 102; refine (enc_i8 _ _ p _ _ (by exact hc.out.enc)).mono ?_; rintro e wn ⟨rfl, h2, m2⟩; have hc := Lib.hid (hc.out.post h2 m2); have hg := Lib.hid (TMod.blk m2 hg.out (by unfold EncT WrT; decide)); have cx := hc.out.cell; have b0 := blk_cell hg.out 0; have b1 := blk_cell hg.out 1; have b2 := blk_cell hg.out 2; have b3 := blk_cell hg.out 3; have b4 := blk_cell hg.out 4; have b5 := blk_cell hg.out 5; simp at b0 b1 b2 b3 b4 b5; clear h2 m2)
        | (go_at_call 122; refine (ce_items_FetchTopic w1 _ p _ _ m.topics A0 c0 (by exact hc.out) G0.out OK0.out).mono ?_; rintro e wn ⟨rfl, h2, m2⟩; have hc := Lib.hid h2; have hg := Lib.hid (TMod.blk m2 hg.out (by unfold EncT WrT; decide)); have cx := hc.out.cell; have b0 := blk_cell hg.out 0; have b1 := blk_cell hg.out 1; have b2 := blk_cell hg.out 2; have b3 := blk_cell hg.out 3; have b4 := blk_cell hg.out 4; have b5 := blk_cell hg.out 5; simp at b0 b1 b2 b3 b4 b5; clear h2 m2)
        | (go_at_call 82; refine (enc_done _ _ p _ (by exact hc.out.enc)).mono ?_; rintro e wn ⟨vv, rfl, ho, m2⟩; obtain ⟨AA, cc, rfl⟩ := own_slice ho; have HO := Lib.hid ho; have hM := Lib.hid m2; clear ho m2)
        | fail)
      all_goals
        go_wp2
        go_ret2
        exact EncRes.of (by simp [encFetchReq, ES.when, *]) HO.out HB1.out hc.out.base hM.out

end Go.Proofs.YteckmgmcfngddaaGreat
end

section
/- The writer of a part, and of a list of it: FetchDone. -/
set_option linter.unusedVariables false
set_option linter.unusedSimpArgs false
namespace Go.Proofs.YteckmgmcfngddaaGreat
open Go.RowKit Go.Proofs.YteckmgmcfngddaaGreatW.PrintWords

def wrFetchDone (t : FetchDone) (x : ES) : ES := (ES.blob t.recs (ES.when 3 3 (fun s => (ES.i64 t.start s)) (ES.when 2 3 (fun s => (ES.i64 t.stable s)) (ES.i64 t.high (ES.i16 t.code (ES.i32 t.index x))))))
def okFetchDone (t : FetchDone) : Prop := t.recs.b.length ≤ 140737488355328
def zFetchDone : FetchDone := ⟨0, 0, 0, 0, 0, ⟨false, []⟩⟩

set_option maxRecDepth 100000 in
set_option maxHeartbeats 6400000 in
theorem ce_FetchDone (w0 w : World) (p bx : Nat) (x : ES) (t : FetchDone) (A0 : Option Addr) (c0 : Nat) (h : CeAt w0 w p bx x) (g0 : (Kd.int .u8).C w0 A0 t.recs.b.length t.recs.b) (hok : okFetchDone t) :
    Calls Tryz.prog 133 #[.agg #[.int .i32 t.index, .int .i16 t.code, .int .i64 t.high, .int .i64 t.stable, .int .i64 t.start, .bool t.recs.null, .slice A0 t.recs.b.length c0], .pointer (some ⟨bx, 0, none⟩)] w (CePost w0 p bx (wrFetchDone t x) w) := by
  have hmf : ∀ (fn : Fn) (first cap : Array Value) (w : World), (Instr.makeFunc fn first cap).run Tryz.prog w = .ok (.func fn first cap) w := fun _ _ _ _ => rfl
  have H := Lib.hid h
  have G0 := Lib.hid g0
  have OK0 := Lib.hid hok
  clear h hok g0
  go_enter Tryz.func133, Tryz.ntmps133
  go_wp2_with (first
    | ((with_reducible refine gate_dst (N := 2) rfl ?_); refine box_event ?hg (N := 2) ?hd (cs := #[.int .i32 t.index, .int .i16 t.code, .int .i64 t.high, .int .i64 t.stable, .int .i64 t.start, .bool t.recs.null, .slice A0 t.recs.b.length c0]) (t := 225) ?hr ?_; (case hd => rfl); (case hg => rfl); (case hr => first | (go_simp; done) | (go_simp; rfl)); intro gb hgb w1 kgb bgb; have hc := Lib.hid (H.out.grown bgb); have hm : EMod w0.heap.size w w1 := EMod.of_below bgb; have hg := Lib.hid kgb; have cx := hc.out.cell; have b0 := blk_cell hg.out 0; have b1 := blk_cell hg.out 1; have b2 := blk_cell hg.out 2; have b3 := blk_cell hg.out 3; have b4 := blk_cell hg.out 4; have b5 := blk_cell hg.out 5; have b6 := blk_cell hg.out 6; simp at b0 b1 b2 b3 b4 b5 b6; clear hgb kgb bgb)
    | (go_at_call 75; refine (enc_i32 _ _ p _ _ (by exact hc.out.enc)).mono ?_; rintro e wn ⟨rfl, h2, m2⟩; have hc := Lib.hid (hc.out.post h2 m2); have hg := Lib.hid (TMod.blk m2 hg.out (by unfold EncT WrT; decide)); have hm := hm.trans m2; have cx := hc.out.cell; have b0 := blk_cell hg.out 0; have b1 := blk_cell hg.out 1; have b2 := blk_cell hg.out 2; have b3 := blk_cell hg.out 3; have b4 := blk_cell hg.out 4; have b5 := blk_cell hg.out 5; have b6 := blk_cell hg.out 6; simp at b0 b1 b2 b3 b4 b5 b6; clear h2 m2)
    | (go_at_call 74; refine (enc_i16 _ _ p _ _ (by exact hc.out.enc)).mono ?_; rintro e wn ⟨rfl, h2, m2⟩; have hc := Lib.hid (hc.out.post h2 m2); have hg := Lib.hid (TMod.blk m2 hg.out (by unfold EncT WrT; decide)); have hm := hm.trans m2; have cx := hc.out.cell; have b0 := blk_cell hg.out 0; have b1 := blk_cell hg.out 1; have b2 := blk_cell hg.out 2; have b3 := blk_cell hg.out 3; have b4 := blk_cell hg.out 4; have b5 := blk_cell hg.out 5; have b6 := blk_cell hg.out 6; simp at b0 b1 b2 b3 b4 b5 b6; clear h2 m2)
    | (go_at_call 96; refine (enc_i64 _ _ p _ _ (by exact hc.out.enc)).mono ?_; rintro e wn ⟨rfl, h2, m2⟩; have hc := Lib.hid (hc.out.post h2 m2); have hg := Lib.hid (TMod.blk m2 hg.out (by unfold EncT WrT; decide)); have hm := hm.trans m2; have cx := hc.out.cell; have b0 := blk_cell hg.out 0; have b1 := blk_cell hg.out 1; have b2 := blk_cell hg.out 2; have b3 := blk_cell hg.out 3; have b4 := blk_cell hg.out 4; have b5 := blk_cell hg.out 5; have b6 := blk_cell hg.out 6; simp at b0 b1 b2 b3 b4 b5 b6; clear h2 m2)
    | (go_at_call 72; refine (enc_has _ _ p _ _ _ (by exact hc.out.enc)).mono ?_; rintro e wn ⟨rfl, rfl⟩)
    | (go_at_call 81; refine (enc_blob w0 _ p _ t.recs A0 c0 (by exact hc.out.enc) hc.out.base (ints_of_C G0.out) OK0.out).mono ?_; rintro e wn ⟨rfl, h2, m2⟩; have hc := Lib.hid (hc.out.post h2 m2); have hg := Lib.hid (TMod.blk m2 hg.out (by unfold EncT WrT; decide)); have hm := hm.trans m2; have cx := hc.out.cell; have b0 := blk_cell hg.out 0; have b1 := blk_cell hg.out 1; have b2 := blk_cell hg.out 2; have b3 := blk_cell hg.out 3; have b4 := blk_cell hg.out 4; have b5 := blk_cell hg.out 5; have b6 := blk_cell hg.out 6; simp at b0 b1 b2 b3 b4 b5 b6; clear h2 m2)
    | fail)
  all_goals
    go_wp2
    ((try simp only [Exit.inBlock, Exit.then]); first | refine bodyPost_end (results_none rfl _ _ _) rfl ?_ | refine bodyPost_ret (results_none rfl _ _ _) rfl ?_ | fail)
    exact ⟨rfl, by simpa [wrFetchDone, ES.when, *] using hc.out, hm⟩

set_option maxRecDepth 100000 in
set_option maxHeartbeats 6400000 in
theorem ce_items_FetchDone (w0 w : World) (p bx : Nat) (x : ES) (xs : List FetchDone) (A : Option Addr) (c : Nat) (h : CeAt w0 w p bx x) (hA : kFetchDone.C w0 A xs.length xs) (hok : ∀ t ∈ xs, okFetchDone t) :
    Calls Tryz.prog 132 #[.pointer (some ⟨p, 0, none⟩), .slice A xs.length c, .func (.func 133) #[] #[.pointer (some ⟨bx, 0, none⟩)]] w (CePost w0 p bx (wrItems wrFetchDone xs x) w) := by
  by_cases hl : 16 < xs.length
  · have hl' : decide (16 < xs.length) = true := by simpa using hl
    have HQ := Lib.hid (wrItems_many (f := wrFetchDone) (x := x) hl)
    go_enter Tryz.func132, Tryz.ntmps132
    go_wp2_with fail
    refine (enc_fail _ _ p x 9 h.enc).mono ?_
    rintro e w1 ⟨rfl, h2, m2⟩
    go_wp2
    ((try simp only [Exit.inBlock, Exit.then]); first | refine bodyPost_end (results_none rfl _ _ _) rfl ?_ | refine bodyPost_ret (results_none rfl _ _ _) rfl ?_ | fail)
    rw [HQ.out]
    exact ⟨rfl, h.post h2 m2, m2⟩
  · have hl' : decide (16 < xs.length) = false := by simpa using hl
    have HQ := Lib.hid (wrItems_ok (f := wrFetchDone) (x := x) hl)
    have hle : xs.length ≤ 16 := by omega
    go_enter Tryz.func132, Tryz.ntmps132
    go_wp2_with fail
    refine (enc_i32 _ _ p x _ h.enc).mono ?_
    rintro e w1 ⟨rfl, h2, m2⟩
    have hc := h.post h2 m2
    clear h h2 hl
    go_wp2_with fail
    go_loopg [20] xs.length (fun gk v20 wr => ∃ k : Nat, v20 = .int .i64 k ∧ Hid (k + gk = xs.length) ∧ k ≤ 16 ∧ CeAt w0 wr p bx ((xs.take k).foldl (fun s t => wrFetchDone t s) (x.i32 xs.length)) ∧ EMod w0.heap.size w wr)
    case atStart => exact ⟨0, rfl, Lib.hid (by omega), by omega, hc, m2⟩
    case round =>
      obtain ⟨k, rfl, hgk, hk16, hcr, hmr⟩ := hrel
      clear hc m2
      by_cases hlt : k < xs.length
      · obtain ⟨j, rfl⟩ : ∃ j, gk = j + 1 := ⟨gk - 1, by have := hgk.out; omega⟩
        obtain ⟨ad, cs, rfl, hcl, hK, hcell⟩ := Kd.C_get hA zFetchDone (k : Int) (by omega) (by omega)
        obtain ⟨A0, c0, rfl, l0, g0⟩ := kFetchDone_openK hK
        have hsK := Lib.hid (foldl_step wrFetchDone xs (x.i32 xs.length) k zFetchDone hlt)
        have hokk : okFetchDone (xs.getD k zFetchDone) := hok _ (by rw [List.getD_eq_getElem?_getD, List.getElem?_eq_getElem hlt]; exact List.getElem_mem hlt)
        have d0 : wr.cell? (ad.add (k * 7)) = some (.int .i32 (xs.getD k zFetchDone).index) := pw_cell_below hcr.base (hcell 0 _ rfl)
        have d1 : wr.cell? ⟨(ad.add (k * 7)).block, (ad.add (k * 7)).off + 1, none⟩ = some (.int .i16 (xs.getD k zFetchDone).code) := by rw [← add_field ad (k * 7) 1 (by omega)]; exact pw_cell_below hcr.base (hcell 1 _ rfl)
        have d2 : wr.cell? ⟨(ad.add (k * 7)).block, (ad.add (k * 7)).off + 2, none⟩ = some (.int .i64 (xs.getD k zFetchDone).high) := by rw [← add_field ad (k * 7) 2 (by omega)]; exact pw_cell_below hcr.base (hcell 2 _ rfl)
        have d3 : wr.cell? ⟨(ad.add (k * 7)).block, (ad.add (k * 7)).off + 3, none⟩ = some (.int .i64 (xs.getD k zFetchDone).stable) := by rw [← add_field ad (k * 7) 3 (by omega)]; exact pw_cell_below hcr.base (hcell 3 _ rfl)
        have d4 : wr.cell? ⟨(ad.add (k * 7)).block, (ad.add (k * 7)).off + 4, none⟩ = some (.int .i64 (xs.getD k zFetchDone).start) := by rw [← add_field ad (k * 7) 4 (by omega)]; exact pw_cell_below hcr.base (hcell 4 _ rfl)
        have d5 : wr.cell? ⟨(ad.add (k * 7)).block, (ad.add (k * 7)).off + 5, none⟩ = some (.bool (xs.getD k zFetchDone).recs.null) := by rw [← add_field ad (k * 7) 5 (by omega)]; exact pw_cell_below hcr.base (hcell 5 _ rfl)
        have d6 : wr.cell? ⟨(ad.add (k * 7)).block, (ad.add (k * 7)).off + 6, none⟩ = some (.slice A0 (xs.getD k zFetchDone).recs.b.length c0) := by rw [← add_field ad (k * 7) 6 (by omega)]; exact pw_cell_below hcr.base (hcell 6 _ rfl)
        have g0' : (Kd.int .u8).C w0 A0 (xs.getD k zFetchDone).recs.b.length (xs.getD k zFetchDone).recs.b := g0
        clear hcell hcl hK g0
        generalize hgt : xs.getD k zFetchDone = t at *
        have q0 : (0 : Int) ≤ (k : Int) := by omega
        have q1 : (k : Int) < (xs.length : Int) := by omega
        go_wp2_with fail
        refine (ce_FetchDone w0 _ p bx _ t A0 c0 (hcr.grown ((Below.refl _ _).alloc (Nat.le_refl _) _)) g0' hokk).mono ?_
        rintro e w2 ⟨rfl, h3, m3⟩
        have m4 : EMod w0.heap.size w w2 := hmr.trans (EMod.trans (EMod.of_below ((Below.refl _ _).alloc (Nat.le_refl _) _)) m3)
        clear d0 d1 d2 d3 d4 d5 d6 hcr hmr m3
        go_wp2
        go_roundg j
        case measure => omega
        case rel => exact ⟨k + 1, by go_num, Lib.hid (by have := hgk.out; omega), by omega, by rw [hsK.out]; exact h3, m4⟩
      · have hend : k = xs.length := by have := hgk.out; omega
        have hlt' : decide ((k : Int) < (xs.length : Int)) = false := by simp; omega
        go_wp2
        ((try simp only [Exit.inBlock, Exit.then]); first | refine bodyPost_end (results_none rfl _ _ _) rfl ?_ | refine bodyPost_ret (results_none rfl _ _ _) rfl ?_ | fail)
        rw [HQ.out]
        rw [hend, List.take_length] at hcr
        exact ⟨rfl, hcr, hmr⟩

end Go.Proofs.YteckmgmcfngddaaGreat
end

section
/- The writer of a part, and of a list of it: FetchGone. -/
set_option linter.unusedVariables false
set_option linter.unusedSimpArgs false
namespace Go.Proofs.YteckmgmcfngddaaGreat
open Go.RowKit Go.Proofs.YteckmgmcfngddaaGreatW.PrintWords

def wrFetchGone (t : FetchGone) (x : ES) : ES := (wrItems wrFetchDone t.parts (ES.str t.name x))
def okFetchGone (t : FetchGone) : Prop := t.name.size ≤ 140737488355328 ∧ ∀ y ∈ t.parts, okFetchDone y
def zFetchGone : FetchGone := ⟨⟨#[]⟩, []⟩

set_option maxRecDepth 100000 in
set_option maxHeartbeats 6400000 in
theorem ce_FetchGone (w0 w : World) (p bx : Nat) (x : ES) (t : FetchGone) (A0 : Option Addr) (c0 : Nat) (h : CeAt w0 w p bx x) (g0 : kFetchDone.C w0 A0 t.parts.length t.parts) (hok : okFetchGone t) :
    Calls Tryz.prog 131 #[.agg #[.string t.name, .slice A0 t.parts.length c0], .pointer (some ⟨bx, 0, none⟩)] w (CePost w0 p bx (wrFetchGone t x) w) := by
  have hmf : ∀ (fn : Fn) (first cap : Array Value) (w : World), (Instr.makeFunc fn first cap).run Tryz.prog w = .ok (.func fn first cap) w := fun _ _ _ _ => rfl
  have H := Lib.hid h
  have G0 := Lib.hid g0
  have OK0 := Lib.hid hok.1
  have OK1 := Lib.hid hok.2
  clear h hok g0
  go_enter Tryz.func131, Tryz.ntmps131
  go_wp2_with (first
    | ((with_reducible refine gate_dst (N := 2) rfl ?_); refine box_event ?hg (N := 2) ?hd (cs := #[.string t.name, .slice A0 t.parts.length c0]) (t := 222) ?hr ?_; (case hd => rfl); (case hg => rfl); (case hr => first | (go_simp; done) | (go_simp; rfl)); intro gb hgb w1 kgb bgb; have hc := Lib.hid (H.out.grown bgb); have hm : EMod w0.heap.size w w1 := EMod.of_below bgb; have hg := Lib.hid kgb; have cx := hc.out.cell; have b0 := blk_cell hg.out 0; have b1 := blk_cell hg.out 1; simp at b0 b1; clear hgb kgb bgb)
    | (go_at_call 78; refine (enc_str _ _ p _ _ (by exact hc.out.enc) OK0.out).mono ?_; rintro e wn ⟨rfl, h2, m2⟩; have hc := Lib.hid (hc.out.post h2 m2); have hg := Lib.hid (TMod.blk m2 hg.out (by unfold EncT WrT; decide)); have hm := hm.trans m2; have cx := hc.out.cell; have b0 := blk_cell hg.out 0; have b1 := blk_cell hg.out 1; simp at b0 b1; clear h2 m2)
    | (go_at_call 132; refine (ce_items_FetchDone w0 _ p bx _ t.parts A0 c0 (by exact hc.out) G0.out OK1.out).mono ?_; rintro e wn ⟨rfl, h2, m2⟩; have hc := Lib.hid h2; have hg := Lib.hid (TMod.blk m2 hg.out (by unfold EncT WrT; decide)); have hm := hm.trans m2; have cx := hc.out.cell; have b0 := blk_cell hg.out 0; have b1 := blk_cell hg.out 1; simp at b0 b1; clear h2 m2)
    | fail)
  all_goals
    go_wp2
    ((try simp only [Exit.inBlock, Exit.then]); first | refine bodyPost_end (results_none rfl _ _ _) rfl ?_ | refine bodyPost_ret (results_none rfl _ _ _) rfl ?_ | fail)
    exact ⟨rfl, hc.out, hm⟩

set_option maxRecDepth 100000 in
set_option maxHeartbeats 6400000 in
theorem ce_items_FetchGone (w0 w : World) (p bx : Nat) (x : ES) (xs : List FetchGone) (A : Option Addr) (c : Nat) (h : CeAt w0 w p bx x) (hA : kFetchGone.C w0 A xs.length xs) (hok : ∀ t ∈ xs, okFetchGone t) :
    Calls Tryz.prog 130 #[.pointer (some ⟨p, 0, none⟩), .slice A xs.length c, .func (.func 131) #[] #[.pointer (some ⟨bx, 0, none⟩)]] w (CePost w0 p bx (wrItems wrFetchGone xs x) w) := by
  by_cases hl : 16 < xs.length
  · have hl' : decide (16 < xs.length) = true := by simpa using hl
    have HQ := Lib.hid (wrItems_many (f := wrFetchGone) (x := x) hl)
    go_enter Tryz.func130, Tryz.ntmps130
    go_wp2_with fail
    refine (enc_fail _ _ p x 9 h.enc).mono ?_
    rintro e w1 ⟨rfl, h2, m2⟩
    go_wp2
    ((try simp only [Exit.inBlock, Exit.then]); first | refine bodyPost_end (results_none rfl _ _ _) rfl ?_ | refine bodyPost_ret (results_none rfl _ _ _) rfl ?_ | fail)
    rw [HQ.out]
    exact ⟨rfl, h.post h2 m2, m2⟩
  · have hl' : decide (16 < xs.length) = false := by simpa using hl
    have HQ := Lib.hid (wrItems_ok (f := wrFetchGone) (x := x) hl)
    have hle : xs.length ≤ 16 := by omega
    go_enter Tryz.func130, Tryz.ntmps130
    go_wp2_with fail
    refine (enc_i32 _ _ p x _ h.enc).mono ?_
    rintro e w1 ⟨rfl, h2, m2⟩
    have hc := h.post h2 m2
    clear h h2 hl
    go_wp2_with fail
    go_loopg [20] xs.length (fun gk v20 wr => ∃ k : Nat, v20 = .int .i64 k ∧ Hid (k + gk = xs.length) ∧ k ≤ 16 ∧ CeAt w0 wr p bx ((xs.take k).foldl (fun s t => wrFetchGone t s) (x.i32 xs.length)) ∧ EMod w0.heap.size w wr)
    case atStart => exact ⟨0, rfl, Lib.hid (by omega), by omega, hc, m2⟩
    case round =>
      obtain ⟨k, rfl, hgk, hk16, hcr, hmr⟩ := hrel
      clear hc m2
      by_cases hlt : k < xs.length
      · obtain ⟨j, rfl⟩ : ∃ j, gk = j + 1 := ⟨gk - 1, by have := hgk.out; omega⟩
        obtain ⟨ad, cs, rfl, hcl, hK, hcell⟩ := Kd.C_get hA zFetchGone (k : Int) (by omega) (by omega)
        obtain ⟨A0, c0, rfl, l0, g0⟩ := kFetchGone_openK hK
        have hsK := Lib.hid (foldl_step wrFetchGone xs (x.i32 xs.length) k zFetchGone hlt)
        have hokk : okFetchGone (xs.getD k zFetchGone) := hok _ (by rw [List.getD_eq_getElem?_getD, List.getElem?_eq_getElem hlt]; exact List.getElem_mem hlt)
        have d0 : wr.cell? (ad.add (k * 2)) = some (.string (xs.getD k zFetchGone).name) := pw_cell_below hcr.base (hcell 0 _ rfl)
        have d1 : wr.cell? ⟨(ad.add (k * 2)).block, (ad.add (k * 2)).off + 1, none⟩ = some (.slice A0 (xs.getD k zFetchGone).parts.length c0) := by rw [← add_field ad (k * 2) 1 (by omega)]; exact pw_cell_below hcr.base (hcell 1 _ rfl)
        have g0' : kFetchDone.C w0 A0 (xs.getD k zFetchGone).parts.length (xs.getD k zFetchGone).parts := g0
        clear hcell hcl hK g0
        generalize hgt : xs.getD k zFetchGone = t at *
        have q0 : (0 : Int) ≤ (k : Int) := by omega
        have q1 : (k : Int) < (xs.length : Int) := by omega
        go_wp2_with fail
        refine (ce_FetchGone w0 _ p bx _ t A0 c0 (hcr.grown ((Below.refl _ _).alloc (Nat.le_refl _) _)) g0' hokk).mono ?_
        rintro e w2 ⟨rfl, h3, m3⟩
        have m4 : EMod w0.heap.size w w2 := hmr.trans (EMod.trans (EMod.of_below ((Below.refl _ _).alloc (Nat.le_refl _) _)) m3)
        clear d0 d1 hcr hmr m3
        go_wp2
        go_roundg j
        case measure => omega
        case rel => exact ⟨k + 1, by go_num, Lib.hid (by have := hgk.out; omega), by omega, by rw [hsK.out]; exact h3, m4⟩
      · have hend : k = xs.length := by have := hgk.out; omega
        have hlt' : decide ((k : Int) < (xs.length : Int)) = false := by simp; omega
        go_wp2
        ((try simp only [Exit.inBlock, Exit.then]); first | refine bodyPost_end (results_none rfl _ _ _) rfl ?_ | refine bodyPost_ret (results_none rfl _ _ _) rfl ?_ | fail)
        rw [HQ.out]
        rw [hend, List.take_length] at hcr
        exact ⟨rfl, hcr, hmr⟩

end Go.Proofs.YteckmgmcfngddaaGreat
end

section
/- Encode of a message: FetchRep. -/
set_option linter.unusedVariables false
set_option linter.unusedSimpArgs false
namespace Go.Proofs.YteckmgmcfngddaaGreat
open Go.RowKit Go.Proofs.YteckmgmcfngddaaGreatW.PrintWords

def lkFetchDone (t : FetchDone) (x : ES) : ES := (ES.lacks (t.start == 0) 3 3 (ES.lacks (t.stable == 0) 2 3 x))
def lkFetchGone (t : FetchGone) (x : ES) : ES := t.parts.foldl (fun s p => lkFetchDone p s) x
def encFetchRep (v : Int) (m : FetchRep) : List Int × Int := ((wrItems wrFetchGone m.topics (ES.when 1 3 (fun s => (ES.i32 m.throttle s)) (m.topics.foldl (fun s t => lkFetchGone t s) (ES.lacks (m.throttle == 0) 1 3 (ES.new v)))))).done
def okFetchRep (m : FetchRep) : Prop := ∀ y ∈ m.topics, okFetchGone y

set_option maxRecDepth 100000 in
set_option maxHeartbeats 12800000 in
theorem eo_FetchRep (w : World) (v : Int) (m : FetchRep) (A0 : Option Addr) (c0 : Nat) (g0 : kFetchGone.C w A0 m.topics.length m.topics) (hok : okFetchRep m) :
    Calls Tryz.prog 30 #[.int .i64 v, .agg #[.int .i32 m.throttle, .slice A0 m.topics.length c0]] w (EncRes (encFetchRep v m) w) := by
  have hmf : ∀ (fn : Fn) (first cap : Array Value) (w : World), (Instr.makeFunc fn first cap).run Tryz.prog w = .ok (.func fn first cap) w := fun _ _ _ _ => rfl
  have OK0 := Lib.hid hok
  have hmax := Kd.C_max g0
  clear hok
  go_enter Tryz.func30, Tryz.ntmps30
  go_wp2_with (first
    | ((with_reducible refine gate_dst (N := 3) rfl ?_); refine box_event ?hg (N := 3) ?hd (cs := #[.int .i32 m.throttle, .slice A0 m.topics.length c0]) (t := 74) ?hr ?_; (case hd => rfl); (case hg => rfl); (case hr => first | (go_simp; done) | (go_simp; rfl)); intro gb hgb w1 kgb bgb; have G0 := Lib.hid (Kd.C_below g0 bgb); have hg1 := Lib.hid kgb; have HB1 := Lib.hid bgb; clear hgb kgb bgb)
    | (go_at_call 70; refine (newEnc w1 v).mono ?_; rintro e w2 ⟨p, rfl, hE, hB⟩; have hc := Lib.hid (CeAt.new hE hB); have hg := Lib.hid (base_blk hc.out.base hg1.out); have cx := hc.out.cell; have b0 := blk_cell hg.out 0; have b1 := blk_cell hg.out 1; simp at b0 b1; clear hE hB)
    | (go_at_call 71; refine (enc_lacks _ _ p _ _ _ _ (by exact hc.out.enc)).mono ?_; rintro e wn ⟨rfl, h2, m2⟩; have hc := Lib.hid (hc.out.post h2 m2); have hg := Lib.hid (TMod.blk m2 hg.out (by unfold EncT WrT; decide)); have cx := hc.out.cell; have b0 := blk_cell hg.out 0; have b1 := blk_cell hg.out 1; simp at b0 b1; clear h2 m2)
    | (go_at_call 72; refine (enc_has _ _ p _ _ _ (by exact hc.out.enc)).mono ?_; rintro e wn ⟨rfl, rfl⟩)
    | (go_at_call 75; refine (enc_i32 _ _ p _ _ (by exact hc.out.enc)).mono ?_; rintro e wn ⟨rfl, h2, m2⟩; have hc := Lib.hid (hc.out.post h2 m2); have hg := Lib.hid (TMod.blk m2 hg.out (by unfold EncT WrT; decide)); have cx := hc.out.cell; have b0 := blk_cell hg.out 0; have b1 := blk_cell hg.out 1; simp at b0 b1; clear h2 m2)
    | (go_at_call 130; refine (ce_items_FetchGone w1 _ p _ _ m.topics A0 c0 (by exact hc.out) G0.out OK0.out).mono ?_; rintro e wn ⟨rfl, h2, m2⟩; have hc := Lib.hid h2; have hg := Lib.hid (TMod.blk m2 hg.out (by unfold EncT WrT; decide)); have cx := hc.out.cell; have b0 := blk_cell hg.out 0; have b1 := blk_cell hg.out 1; simp at b0 b1; clear h2 m2)
    | (go_at_call 82; refine (enc_done _ _ p _ (by exact hc.out.enc)).mono ?_; rintro e wn ⟨vv, rfl, ho, m2⟩; obtain ⟨AA, cc, rfl⟩ := own_slice ho; have HO := Lib.hid ho; have hM := Lib.hid m2; clear ho m2)
    | fail)
  go_loopg [21] m.topics.length (fun gk v21 wr => ∃ k : Nat, v21 = .int .i64 k ∧ Hid (k + gk = m.topics.length) ∧ k ≤ m.topics.length ∧ CeAt w1 wr p w2.heap.size ((m.topics.take k).foldl (fun s t => lkFetchGone t s) (ES.lacks (m.throttle == 0) 1 3 (ES.new v))))
  case atStart => exact ⟨0, rfl, Lib.hid (by omega), by omega, hc.out⟩
  case round =>
    obtain ⟨k, rfl, hgk, hkl, hcr⟩ := hrel
    clear hc hg cx b0 b1
    by_cases hlt : k < m.topics.length
    · obtain ⟨j, rfl⟩ : ∃ j, gk = j + 1 := ⟨gk - 1, by have := hgk.out; omega⟩
      obtain ⟨add, cs, rfl, hcl, hK, hcell⟩ := Kd.C_get G0.out zFetchGone (k : Int) (by omega) (by omega)
      obtain ⟨B0, q0, rfl, l0, g0'⟩ := kFetchGone_openK hK
      have hsK := Lib.hid (foldl_step lkFetchGone m.topics (ES.lacks (m.throttle == 0) 1 3 (ES.new v)) k zFetchGone hlt)
      have d0 : wr.cell? (add.add (k * 2)) = some (.string (m.topics.getD k zFetchGone).name) := pw_cell_below hcr.base (hcell 0 _ rfl)
      have d1 : wr.cell? ⟨(add.add (k * 2)).block, (add.add (k * 2)).off + 1, none⟩ = some (.slice B0 (m.topics.getD k zFetchGone).parts.length q0) := by rw [← add_field add (k * 2) 1 (by omega)]; exact pw_cell_below hcr.base (hcell 1 _ rfl)
      have G1 : kFetchDone.C w1 B0 (m.topics.getD k zFetchGone).parts.length (m.topics.getD k zFetchGone).parts := g0'
      clear hcell hcl hK g0'
      generalize hgt : (m.topics.getD k zFetchGone) = t at *
      have hmax2 := Kd.C_max G1
      have i0 : (0 : Int) ≤ (k : Int) := by omega
      have i1 : (k : Int) < (m.topics.length : Int) := by omega
      have hcA := hcr.grown ((Below.refl _ _).alloc (Nat.le_refl _) (.cells #[.string t.name, .slice B0 t.parts.length q0] 222))
      clear hcr
      go_wp2_with fail
      go_loopg [28] t.parts.length (fun gk2 v28 wr2 => ∃ k2 : Nat, v28 = .int .i64 k2 ∧ Hid (k2 + gk2 = t.parts.length) ∧ k2 ≤ t.parts.length ∧ CeAt w1 wr2 p w2.heap.size ((t.parts.take k2).foldl (fun s p => lkFetchDone p s) ((m.topics.take k).foldl (fun s t => lkFetchGone t s) (ES.lacks (m.throttle == 0) 1 3 (ES.new v)))))
      case atStart => exact ⟨0, rfl, Lib.hid (by omega), by omega, hcA⟩
      case round =>
        obtain ⟨k2, rfl, hgk2, hkl2, hcr2⟩ := hrel
        clear hcA d0 d1
        by_cases hlt2 : k2 < t.parts.length
        · obtain ⟨j2, rfl⟩ : ∃ j2, gk = j2 + 1 := ⟨gk - 1, by have := hgk2.out; omega⟩
          obtain ⟨ade, cs2, rfl, hcl2, hK2, hcell2⟩ := Kd.C_get G1 zFetchDone (k2 : Int) (by omega) (by omega)
          obtain ⟨E0, f0, rfl, r0, s0⟩ := kFetchDone_openK hK2
          have hs2 := Lib.hid (foldl_step lkFetchDone t.parts ((m.topics.take k).foldl (fun s t => lkFetchGone t s) (ES.lacks (m.throttle == 0) 1 3 (ES.new v))) k2 zFetchDone hlt2)
          have e0 : wr.cell? (ade.add (k2 * 7)) = some (.int .i32 (t.parts.getD k2 zFetchDone).index) := pw_cell_below hcr2.base (hcell2 0 _ rfl)
          have e1 : wr.cell? ⟨(ade.add (k2 * 7)).block, (ade.add (k2 * 7)).off + 1, none⟩ = some (.int .i16 (t.parts.getD k2 zFetchDone).code) := by rw [← add_field ade (k2 * 7) 1 (by omega)]; exact pw_cell_below hcr2.base (hcell2 1 _ rfl)
          have e2 : wr.cell? ⟨(ade.add (k2 * 7)).block, (ade.add (k2 * 7)).off + 2, none⟩ = some (.int .i64 (t.parts.getD k2 zFetchDone).high) := by rw [← add_field ade (k2 * 7) 2 (by omega)]; exact pw_cell_below hcr2.base (hcell2 2 _ rfl)
          have e3 : wr.cell? ⟨(ade.add (k2 * 7)).block, (ade.add (k2 * 7)).off + 3, none⟩ = some (.int .i64 (t.parts.getD k2 zFetchDone).stable) := by rw [← add_field ade (k2 * 7) 3 (by omega)]; exact pw_cell_below hcr2.base (hcell2 3 _ rfl)
          have e4 : wr.cell? ⟨(ade.add (k2 * 7)).block, (ade.add (k2 * 7)).off + 4, none⟩ = some (.int .i64 (t.parts.getD k2 zFetchDone).start) := by rw [← add_field ade (k2 * 7) 4 (by omega)]; exact pw_cell_below hcr2.base (hcell2 4 _ rfl)
          have e5 : wr.cell? ⟨(ade.add (k2 * 7)).block, (ade.add (k2 * 7)).off + 5, none⟩ = some (.bool (t.parts.getD k2 zFetchDone).recs.null) := by rw [← add_field ade (k2 * 7) 5 (by omega)]; exact pw_cell_below hcr2.base (hcell2 5 _ rfl)
          have e6 : wr.cell? ⟨(ade.add (k2 * 7)).block, (ade.add (k2 * 7)).off + 6, none⟩ = some (.slice E0 (t.parts.getD k2 zFetchDone).recs.b.length f0) := by rw [← add_field ade (k2 * 7) 6 (by omega)]; exact pw_cell_below hcr2.base (hcell2 6 _ rfl)
          clear hcell2 hcl2 hK2
          generalize hgy : (t.parts.getD k2 zFetchDone) = y at *
          have i2 : (0 : Int) ≤ (k2 : Int) := by omega
          have i3 : (k2 : Int) < (t.parts.length : Int) := by omega
          have hc := Lib.hid (hcr2.grown ((Below.refl _ _).alloc (Nat.le_refl _) (.cells #[.int .i32 y.index, .int .i16 y.code, .int .i64 y.high, .int .i64 y.stable, .int .i64 y.start, .bool y.recs.null, .slice E0 y.recs.b.length f0] 225)))
          have hq := Lib.hid (blk_new wr (.cells #[.int .i32 y.index, .int .i16 y.code, .int .i64 y.high, .int .i64 y.stable, .int .i64 y.start, .bool y.recs.null, .slice E0 y.recs.b.length f0] 225))
          have cx := hc.out.cell
          clear hcr2
          go_wp2_with (first
            | (go_at_call 71; refine (enc_lacks _ _ p _ _ _ _ (by exact hc.out.enc)).mono ?_; rintro e wn ⟨rfl, h2, m2⟩; have hc := Lib.hid (hc.out.post h2 m2); have hq := Lib.hid (TMod.blk m2 hq.out (by unfold EncT WrT; decide)); have cx := hc.out.cell; have y0 := blk_cell hq.out 0; have y1 := blk_cell hq.out 1; have y2 := blk_cell hq.out 2; have y3 := blk_cell hq.out 3; have y4 := blk_cell hq.out 4; have y5 := blk_cell hq.out 5; have y6 := blk_cell hq.out 6; simp at y0 y1 y2 y3 y4 y5 y6; clear h2 m2)
            | fail)
          go_roundg j2
          case measure => omega
          case rel => exact ⟨k2 + 1, by go_num, Lib.hid (by have := hgk2.out; omega), by omega, by rw [hs2.out]; exact hc.out⟩
        · have hend2 : k2 = t.parts.length := by have := hgk2.out; omega
          have hlt2' : decide ((k2 : Int) < (t.parts.length : Int)) = false := by simp; omega
          rw [hend2, List.take_length] at hcr2
          go_wp2
          go_roundg j
          case measure => omega
          case rel => exact ⟨k + 1, by go_num, Lib.hid (by have := hgk.out; omega), by omega, by rw [hsK.out]; exact hcr2⟩
    · have hend : k = m.topics.length := by have := hgk.out; omega
      have hlt' : decide ((k : Int) < (m.topics.length : Int)) = false := by simp; omega
      rw [hend, List.take_length] at hcr
      have hc := Lib.hid hcr
      have hg := Lib.hid (base_blk hc.out.base hg1.out)
      have cx := hc.out.cell
      have b0 := blk_cell hg.out 0
      have b1 := blk_cell hg.out 1
      simp at b0 b1
      clear hcr
      go_wp2_with (first
        | ((with_reducible refine gate_dst (N := 3) rfl ?_); refine box_event ?hg (N := 3) ?hd (cs := #[.int .i32 m.throttle, .slice A0 m.topics.length c0]) (t := 74) ?hr ?_; (case hd => rfl); (case hg => rfl); (case hr => first | (go_simp; done) | (go_simp; rfl)); intro gb hgb w1 kgb bgb; have G0 := Lib.hid (Kd.C_below g0 bgb); have hg1 := Lib.hid kgb; have HB1 := Lib.hid bgb; clear hgb kgb bgb)
        | (go_at_call 70; refine (newEnc w1 v).mono ?_; rintro e w2 ⟨p, rfl, hE, hB⟩; have hc := Lib.hid (CeAt.new hE hB); have hg := Lib.hid (base_blk hc.out.base hg1.out); have cx := hc.out.cell; have b0 := blk_cell hg.out 0; have b1 := blk_cell hg.out 1; simp at b0 b1; clear hE hB)
        | (go_at_call 71; refine (enc_lacks _ _ p _ _ _ _ (by exact hc.out.enc)).mono ?_; rintro e wn ⟨rfl, h2, m2⟩; have hc := Lib.hid (hc.out.post h2 m2); have hg := Lib.hid (TMod.blk m2 hg.out (by unfold EncT WrT; decide)); have cx := hc.out.cell; have b0 := blk_cell hg.out 0; have b1 := blk_cell hg.out 1; simp at b0 b1; clear h2 m2)
        | (go_at_call 72; refine (enc_has _ _ p _ _ _ (by exact hc.out.enc)).mono ?_; rintro e wn ⟨rfl, rfl⟩)
        | (go_at_call 75; refine (enc_i32 _ _ p _ _ (by exact hc.out.enc)).mono ?_; rintro e wn ⟨rfl, h2, m2⟩; have hc := Lib.hid (hc.out.post h2 m2); have hg := Lib.hid (TMod.blk m2 hg.out (by unfold EncT WrT; decide)); have cx := hc.out.cell; have b0 := blk_cell hg.out 0; have b1 := blk_cell hg.out 1; simp at b0 b1; clear h2 m2)
        | (go_at_call 130; refine (ce_items_FetchGone w1 _ p _ _ m.topics A0 c0 (by exact hc.out) G0.out OK0.out).mono ?_; rintro e wn ⟨rfl, h2, m2⟩; have hc := Lib.hid h2; have hg := Lib.hid (TMod.blk m2 hg.out (by unfold EncT WrT; decide)); have cx := hc.out.cell; have b0 := blk_cell hg.out 0; have b1 := blk_cell hg.out 1; simp at b0 b1; clear h2 m2)
        | (go_at_call 82; refine (enc_done _ _ p _ (by exact hc.out.enc)).mono ?_; rintro e wn ⟨vv, rfl, ho, m2⟩; obtain ⟨AA, cc, rfl⟩ := own_slice ho; have HO := Lib.hid ho; have hM := Lib.hid m2; clear ho m2)
        | fail)
      all_goals
        go_wp2
        go_ret2
        exact EncRes.of (by simp [encFetchRep, ES.when, *]) HO.out HB1.out hc.out.base hM.out

end Go.Proofs.YteckmgmcfngddaaGreat
end

section
/- The writer of a part, and of a list of it: ListPart. -/
set_option linter.unusedVariables false
set_option linter.unusedSimpArgs false
namespace Go.Proofs.YteckmgmcfngddaaGreat
open Go.RowKit Go.Proofs.YteckmgmcfngddaaGreatW.PrintWords

def wrListPart (t : ListPart) (x : ES) : ES := (ES.when 0 0 (fun s => (ES.i32 t.most s)) (ES.i64 t.time (ES.when 3 3 (fun s => (ES.i32 t.epoch s)) (ES.i32 t.index x))))
def okListPart (t : ListPart) : Prop := True
def zListPart : ListPart := ⟨0, 0, 0, 0⟩

set_option maxRecDepth 100000 in
set_option maxHeartbeats 6400000 in
theorem ce_ListPart (w0 w : World) (p bx : Nat) (x : ES) (t : ListPart) (h : CeAt w0 w p bx x) (hok : okListPart t) :
    Calls Tryz.prog 106 #[.agg #[.int .i32 t.index, .int .i32 t.epoch, .int .i64 t.time, .int .i32 t.most], .pointer (some ⟨bx, 0, none⟩)] w (CePost w0 p bx (wrListPart t x) w) := by
  have hmf : ∀ (fn : Fn) (first cap : Array Value) (w : World), (Instr.makeFunc fn first cap).run Tryz.prog w = .ok (.func fn first cap) w := fun _ _ _ _ => rfl
  have H := Lib.hid h
  clear h hok
  go_enter Tryz.func106, Tryz.ntmps106
  go_wp2_with (first
    | ((with_reducible refine gate_dst (N := 2) rfl ?_); refine box_event ?hg (N := 2) ?hd (cs := #[.int .i32 t.index, .int .i32 t.epoch, .int .i64 t.time, .int .i32 t.most]) (t := 181) ?hr ?_; (case hd => rfl); (case hg => rfl); (case hr => first | (go_simp; done) | (go_simp; rfl)); intro gb hgb w1 kgb bgb; have hc := Lib.hid (H.out.grown bgb); have hm : EMod w0.heap.size w w1 := EMod.of_below bgb; have hg := Lib.hid kgb; have cx := hc.out.cell; have b0 := blk_cell hg.out 0; have b1 := blk_cell hg.out 1; have b2 := blk_cell hg.out 2; have b3 := blk_cell hg.out 3; simp at b0 b1 b2 b3; clear hgb kgb bgb)
    | (go_at_call 75; refine (enc_i32 _ _ p _ _ (by exact hc.out.enc)).mono ?_; rintro e wn ⟨rfl, h2, m2⟩; have hc := Lib.hid (hc.out.post h2 m2); have hg := Lib.hid (TMod.blk m2 hg.out (by unfold EncT WrT; decide)); have hm := hm.trans m2; have cx := hc.out.cell; have b0 := blk_cell hg.out 0; have b1 := blk_cell hg.out 1; have b2 := blk_cell hg.out 2; have b3 := blk_cell hg.out 3; simp at b0 b1 b2 b3; clear h2 m2)
    | (go_at_call 72; refine (enc_has _ _ p _ _ _ (by exact hc.out.enc)).mono ?_; rintro e wn ⟨rfl, rfl⟩)
    | (go_at_call 96; refine (enc_i64 _ _ p _ _ (by exact hc.out.enc)).mono ?_; rintro e wn ⟨rfl, h2, m2⟩; have hc := Lib.hid (hc.out.post h2 m2); have hg := Lib.hid (TMod.blk m2 hg.out (by unfold EncT WrT; decide)); have hm := hm.trans m2; have cx := hc.out.cell; have b0 := blk_cell hg.out 0; have b1 := blk_cell hg.out 1; have b2 := blk_cell hg.out 2; have b3 := blk_cell hg.out 3; simp at b0 b1 b2 b3; clear h2 m2)
    | fail)
  all_goals
    go_wp2
    ((try simp only [Exit.inBlock, Exit.then]); first | refine bodyPost_end (results_none rfl _ _ _) rfl ?_ | refine bodyPost_ret (results_none rfl _ _ _) rfl ?_ | fail)
    exact ⟨rfl, by simpa [wrListPart, ES.when, *] using hc.out, hm⟩

set_option maxRecDepth 100000 in
set_option maxHeartbeats 6400000 in
theorem ce_items_ListPart (w0 w : World) (p bx : Nat) (x : ES) (xs : List ListPart) (A : Option Addr) (c : Nat) (h : CeAt w0 w p bx x) (hA : kListPart.C w0 A xs.length xs) (hok : ∀ t ∈ xs, okListPart t) :
    Calls Tryz.prog 105 #[.pointer (some ⟨p, 0, none⟩), .slice A xs.length c, .func (.func 106) #[] #[.pointer (some ⟨bx, 0, none⟩)]] w (CePost w0 p bx (wrItems wrListPart xs x) w) := by
  by_cases hl : 16 < xs.length
  · have hl' : decide (16 < xs.length) = true := by simpa using hl
    have HQ := Lib.hid (wrItems_many (f := wrListPart) (x := x) hl)
    go_enter Tryz.func105, Tryz.ntmps105
    go_wp2_with fail
    refine (enc_fail _ _ p x 9 h.enc).mono ?_
    rintro e w1 ⟨rfl, h2, m2⟩
    go_wp2
    ((try simp only [Exit.inBlock, Exit.then]); first | refine bodyPost_end (results_none rfl _ _ _) rfl ?_ | refine bodyPost_ret (results_none rfl _ _ _) rfl ?_ | fail)
    rw [HQ.out]
    exact ⟨rfl, h.post h2 m2, m2⟩
  · have hl' : decide (16 < xs.length) = false := by simpa using hl
    have HQ := Lib.hid (wrItems_ok (f := wrListPart) (x := x) hl)
    have hle : xs.length ≤ 16 := by omega
    go_enter Tryz.func105, Tryz.ntmps105
    go_wp2_with fail
    refine (enc_i32 _ _ p x _ h.enc).mono ?_
    rintro e w1 ⟨rfl, h2, m2⟩
    have hc := h.post h2 m2
    clear h h2 hl
    go_wp2_with fail
    go_loopg [20] xs.length (fun gk v20 wr => ∃ k : Nat, v20 = .int .i64 k ∧ Hid (k + gk = xs.length) ∧ k ≤ 16 ∧ CeAt w0 wr p bx ((xs.take k).foldl (fun s t => wrListPart t s) (x.i32 xs.length)) ∧ EMod w0.heap.size w wr)
    case atStart => exact ⟨0, rfl, Lib.hid (by omega), by omega, hc, m2⟩
    case round =>
      obtain ⟨k, rfl, hgk, hk16, hcr, hmr⟩ := hrel
      clear hc m2
      by_cases hlt : k < xs.length
      · obtain ⟨j, rfl⟩ : ∃ j, gk = j + 1 := ⟨gk - 1, by have := hgk.out; omega⟩
        obtain ⟨ad, cs, rfl, hcl, hK, hcell⟩ := Kd.C_get hA zListPart (k : Int) (by omega) (by omega)
        obtain rfl := kListPart_openK hK
        have hsK := Lib.hid (foldl_step wrListPart xs (x.i32 xs.length) k zListPart hlt)
        have hokk : okListPart (xs.getD k zListPart) := hok _ (by rw [List.getD_eq_getElem?_getD, List.getElem?_eq_getElem hlt]; exact List.getElem_mem hlt)
        have d0 : wr.cell? (ad.add (k * 4)) = some (.int .i32 (xs.getD k zListPart).index) := pw_cell_below hcr.base (hcell 0 _ rfl)
        have d1 : wr.cell? ⟨(ad.add (k * 4)).block, (ad.add (k * 4)).off + 1, none⟩ = some (.int .i32 (xs.getD k zListPart).epoch) := by rw [← add_field ad (k * 4) 1 (by omega)]; exact pw_cell_below hcr.base (hcell 1 _ rfl)
        have d2 : wr.cell? ⟨(ad.add (k * 4)).block, (ad.add (k * 4)).off + 2, none⟩ = some (.int .i64 (xs.getD k zListPart).time) := by rw [← add_field ad (k * 4) 2 (by omega)]; exact pw_cell_below hcr.base (hcell 2 _ rfl)
        have d3 : wr.cell? ⟨(ad.add (k * 4)).block, (ad.add (k * 4)).off + 3, none⟩ = some (.int .i32 (xs.getD k zListPart).most) := by rw [← add_field ad (k * 4) 3 (by omega)]; exact pw_cell_below hcr.base (hcell 3 _ rfl)
        clear hcell hcl hK
        generalize hgt : xs.getD k zListPart = t at *
        have q0 : (0 : Int) ≤ (k : Int) := by omega
        have q1 : (k : Int) < (xs.length : Int) := by omega
        go_wp2_with fail
        refine (ce_ListPart w0 _ p bx _ t (hcr.grown ((Below.refl _ _).alloc (Nat.le_refl _) _)) hokk).mono ?_
        rintro e w2 ⟨rfl, h3, m3⟩
        have m4 : EMod w0.heap.size w w2 := hmr.trans (EMod.trans (EMod.of_below ((Below.refl _ _).alloc (Nat.le_refl _) _)) m3)
        clear d0 d1 d2 d3 hcr hmr m3
        go_wp2
        go_roundg j
        case measure => omega
        case rel => exact ⟨k + 1, by go_num, Lib.hid (by have := hgk.out; omega), by omega, by rw [hsK.out]; exact h3, m4⟩
      · have hend : k = xs.length := by have := hgk.out; omega
        have hlt' : decide ((k : Int) < (xs.length : Int)) = false := by simp; omega
        go_wp2
        ((try simp only [Exit.inBlock, Exit.then]); first | refine bodyPost_end (results_none rfl _ _ _) rfl ?_ | refine bodyPost_ret (results_none rfl _ _ _) rfl ?_ | fail)
        rw [HQ.out]
        rw [hend, List.take_length] at hcr
        exact ⟨rfl, hcr, hmr⟩

end Go.Proofs.YteckmgmcfngddaaGreat
end

section
/- The writer of a part, and of a list of it: ListTopic. -/
set_option linter.unusedVariables false
set_option linter.unusedSimpArgs false
namespace Go.Proofs.YteckmgmcfngddaaGreat
open Go.RowKit Go.Proofs.YteckmgmcfngddaaGreatW.PrintWords

def wrListTopic (t : ListTopic) (x : ES) : ES := (wrItems wrListPart t.parts (ES.str t.name x))
def okListTopic (t : ListTopic) : Prop := t.name.size ≤ 140737488355328 ∧ ∀ y ∈ t.parts, okListPart y
def zListTopic : ListTopic := ⟨⟨#[]⟩, []⟩

set_option maxRecDepth 100000 in
set_option maxHeartbeats 6400000 in
theorem ce_ListTopic (w0 w : World) (p bx : Nat) (x : ES) (t : ListTopic) (A0 : Option Addr) (c0 : Nat) (h : CeAt w0 w p bx x) (g0 : kListPart.C w0 A0 t.parts.length t.parts) (hok : okListTopic t) :
    Calls Tryz.prog 104 #[.agg #[.string t.name, .slice A0 t.parts.length c0], .pointer (some ⟨bx, 0, none⟩)] w (CePost w0 p bx (wrListTopic t x) w) := by
  have hmf : ∀ (fn : Fn) (first cap : Array Value) (w : World), (Instr.makeFunc fn first cap).run Tryz.prog w = .ok (.func fn first cap) w := fun _ _ _ _ => rfl
  have H := Lib.hid h
  have G0 := Lib.hid g0
  have OK0 := Lib.hid hok.1
  have OK1 := Lib.hid hok.2
  clear h hok g0
  go_enter Tryz.func104, Tryz.ntmps104
  go_wp2_with (first
    | ((with_reducible refine gate_dst (N := 2) rfl ?_); refine box_event ?hg (N := 2) ?hd (cs := #[.string t.name, .slice A0 t.parts.length c0]) (t := 178) ?hr ?_; (case hd => rfl); (case hg => rfl); (case hr => first | (go_simp; done) | (go_simp; rfl)); intro gb hgb w1 kgb bgb; have hc := Lib.hid (H.out.grown bgb); have hm : EMod w0.heap.size w w1 := EMod.of_below bgb; have hg := Lib.hid kgb; have cx := hc.out.cell; have b0 := blk_cell hg.out 0; have b1 := blk_cell hg.out 1; simp at b0 b1; clear hgb kgb bgb)
    | (go_at_call 78; refine (enc_str _ _ p _ _ (by exact hc.out.enc) OK0.out).mono ?_; rintro e wn ⟨rfl, h2, m2⟩; have hc := Lib.hid (hc.out.post h2 m2); have hg := Lib.hid (TMod.blk m2 hg.out (by unfold EncT WrT; decide)); have hm := hm.trans m2; have cx := hc.out.cell; have b0 := blk_cell hg.out 0; have b1 := blk_cell hg.out 1; simp at b0 b1; clear h2 m2)
    | (go_at_call 105; refine (ce_items_ListPart w0 _ p bx _ t.parts A0 c0 (by exact hc.out) G0.out OK1.out).mono ?_; rintro e wn ⟨rfl, h2, m2⟩; have hc := Lib.hid h2; have hg := Lib.hid (TMod.blk m2 hg.out (by unfold EncT WrT; decide)); have hm := hm.trans m2; have cx := hc.out.cell; have b0 := blk_cell hg.out 0; have b1 := blk_cell hg.out 1; simp at b0 b1; clear h2 m2)
    | fail)
  all_goals
    go_wp2
    ((try simp only [Exit.inBlock, Exit.then]); first | refine bodyPost_end (results_none rfl _ _ _) rfl ?_ | refine bodyPost_ret (results_none rfl _ _ _) rfl ?_ | fail)
    exact ⟨rfl, hc.out, hm⟩

set_option maxRecDepth 100000 in
set_option maxHeartbeats 6400000 in
theorem ce_items_ListTopic (w0 w : World) (p bx : Nat) (x : ES) (xs : List ListTopic) (A : Option Addr) (c : Nat) (h : CeAt w0 w p bx x) (hA : kListTopic.C w0 A xs.length xs) (hok : ∀ t ∈ xs, okListTopic t) :
    Calls Tryz.prog 103 #[.pointer (some ⟨p, 0, none⟩), .slice A xs.length c, .func (.func 104) #[] #[.pointer (some ⟨bx, 0, none⟩)]] w (CePost w0 p bx (wrItems wrListTopic xs x) w) := by
  by_cases hl : 16 < xs.length
  · have hl' : decide (16 < xs.length) = true := by simpa using hl
    have HQ := Lib.hid (wrItems_many (f := wrListTopic) (x := x) hl)
    go_enter Tryz.func103, Tryz.ntmps103
    go_wp2_with fail
    refine (enc_fail _ _ p x 9 h.enc).mono ?_
    rintro e w1 ⟨rfl, h2, m2⟩
    go_wp2
    ((try simp only [Exit.inBlock, Exit.then]); first | refine bodyPost_end (results_none rfl _ _ _) rfl ?_ | refine bodyPost_ret (results_none rfl _ _ _) rfl ?_ | fail)
    rw [HQ.out]
    exact ⟨rfl, h.post h2 m2, m2⟩
  · have hl' : decide (16 < xs.length) = false := by simpa using hl
    have HQ := Lib.hid (wrItems_ok (f := wrListTopic) (x := x) hl)
    have hle : xs.length ≤ 16 := by omega
    go_enter Tryz.func103, Tryz.ntmps103
    go_wp2_with fail
    refine (enc_i32 _ _ p x _ h.enc).mono ?_
    rintro e w1 ⟨rfl, h2, m2⟩
    have hc := h.post h2 m2
    clear h h2 hl
    go_wp2_with fail
    go_loopg [20] xs.length (fun gk v20 wr => ∃ k : Nat, v20 = .int .i64 k ∧ Hid (k + gk = xs.length) ∧ k ≤ 16 ∧ CeAt w0 wr p bx ((xs.take k).foldl (fun s t => wrListTopic t s) (x.i32 xs.length)) ∧ EMod w0.heap.size w wr)
    case atStart => exact ⟨0, rfl, Lib.hid (by omega), by omega, hc, m2⟩
    case round =>
      obtain ⟨k, rfl, hgk, hk16, hcr, hmr⟩ := hrel
      clear hc m2
      by_cases hlt : k < xs.length
      · obtain ⟨j, rfl⟩ : ∃ j, gk = j + 1 := ⟨gk - 1, by have := hgk.out; omega⟩
        obtain ⟨ad, cs, rfl, hcl, hK, hcell⟩ := Kd.C_get hA zListTopic (k : Int) (by omega) (by omega)
        obtain ⟨A0, c0, rfl, l0, g0⟩ := kListTopic_openK hK
        have hsK := Lib.hid (foldl_step wrListTopic xs (x.i32 xs.length) k zListTopic hlt)
        have hokk : okListTopic (xs.getD k zListTopic) := hok _ (by rw [List.getD_eq_getElem?_getD, List.getElem?_eq_getElem hlt]; exact List.getElem_mem hlt)
        have d0 : wr.cell? (ad.add (k * 2)) = some (.string (xs.getD k zListTopic).name) := pw_cell_below hcr.base (hcell 0 _ rfl)
        have d1 : wr.cell? ⟨(ad.add (k * 2)).block, (ad.add (k * 2)).off + 1, none⟩ = some (.slice A0 (xs.getD k zListTopic).parts.length c0) := by rw [← add_field ad (k * 2) 1 (by omega)]; exact pw_cell_below hcr.base (hcell 1 _ rfl)
        have g0' : kListPart.C w0 A0 (xs.getD k zListTopic).parts.length (xs.getD k zListTopic).parts := g0
        clear hcell hcl hK g0
        generalize hgt : xs.getD k zListTopic = t at *
        have q0 : (0 : Int) ≤ (k : Int) := by omega
        have q1 : (k : Int) < (xs.length : Int) := by omega
        go_wp2_with fail
        refine (ce_ListTopic w0 _ p bx _ t A0 c0 (hcr.grown ((Below.refl _ _).alloc (Nat.le_refl _) _)) g0' hokk).mono ?_
        rintro e w2 ⟨rfl, h3, m3⟩
        have m4 : EMod w0.heap.size w w2 := hmr.trans (EMod.trans (EMod.of_below ((Below.refl _ _).alloc (Nat.le_refl _) _)) m3)
        clear d0 d1 hcr hmr m3
        go_wp2
        go_roundg j
        case measure => omega
        case rel => exact ⟨k + 1, by go_num, Lib.hid (by have := hgk.out; omega), by omega, by rw [hsK.out]; exact h3, m4⟩
      · have hend : k = xs.length := by have := hgk.out; omega
        have hlt' : decide ((k : Int) < (xs.length : Int)) = false := by simp; omega
        go_wp2
        ((try simp only [Exit.inBlock, Exit.then]); first | refine bodyPost_end (results_none rfl _ _ _) rfl ?_ | refine bodyPost_ret (results_none rfl _ _ _) rfl ?_ | fail)
        rw [HQ.out]
        rw [hend, List.take_length] at hcr
        exact ⟨rfl, hcr, hmr⟩

end Go.Proofs.YteckmgmcfngddaaGreat
end

section
/- Encode of a message: ListReq. -/
set_option linter.unusedVariables false
set_option linter.unusedSimpArgs false
namespace Go.Proofs.YteckmgmcfngddaaGreat
open Go.RowKit Go.Proofs.YteckmgmcfngddaaGreatW.PrintWords

def lkListPart (t : ListPart) (x : ES) : ES := (ES.lacks (t.most == 0) 0 0 (ES.lacks (t.epoch == 0) 3 3 x))
def lkListTopic (t : ListTopic) (x : ES) : ES := t.parts.foldl (fun s p => lkListPart p s) x
def encListReq (v : Int) (m : ListReq) : List Int × Int := ((wrItems wrListTopic m.topics (ES.when 2 3 (fun s => (ES.i8 m.level s)) (ES.i32 m.replica (m.topics.foldl (fun s t => lkListTopic t s) (ES.lacks (m.level == 0) 2 3 (ES.new v))))))).done
def okListReq (m : ListReq) : Prop := ∀ y ∈ m.topics, okListTopic y

set_option maxRecDepth 100000 in
set_option maxHeartbeats 12800000 in
theorem eo_ListReq (w : World) (v : Int) (m : ListReq) (A0 : Option Addr) (c0 : Nat) (g0 : kListTopic.C w A0 m.topics.length m.topics) (hok : okListReq m) :
    Calls Tryz.prog 23 #[.int .i64 v, .agg #[.int .i32 m.replica, .int .i8 m.level, .slice A0 m.topics.length c0]] w (EncRes (encListReq v m) w) := by
  have hmf : ∀ (fn : Fn) (first cap : Array Value) (w : World), (Instr.makeFunc fn first cap).run Tryz.prog w = .ok (.func fn first cap) w := fun _ _ _ _ => rfl
  have OK0 := Lib.hid hok
  have hmax := Kd.C_max g0
  clear hok
  go_enter Tryz.func23, Tryz.ntmps23
  go_wp2_with (first
    | ((with_reducible refine gate_dst (N := 3) rfl ?_); refine box_event ?hg (N := 3) ?hd (cs := #[.int .i32 m.replica, .int .i8 m.level, .slice A0 m.topics.length c0]) (t := 56) ?hr ?_; (case hd => rfl); (case hg => rfl); (case hr => first | (go_simp; done) | (go_simp; rfl)); intro gb hgb w1 kgb bgb; have G0 := Lib.hid (Kd.C_below g0 bgb); have hg1 := Lib.hid kgb; have HB1 := Lib.hid bgb; clear hgb kgb bgb)
    | (go_at_call 70; refine (newEnc w1 v).mono ?_; rintro e w2 ⟨p, rfl, hE, hB⟩; have hc := Lib.hid (CeAt.new hE hB); have hg := Lib.hid (base_blk hc.out.base hg1.out); have cx := hc.out.cell; have b0 := blk_cell hg.out 0; have b1 := blk_cell hg.out 1; have b2 := blk_cell hg.out 2; simp at b0 b1 b2; clear hE hB)
    | (go_at_call 71; refine (enc_lacks _ _ p _ _ _ _ (by exact hc.out.enc)).mono ?_; rintro e wn ⟨rfl, h2, m2⟩; have hc := Lib.hid (hc.out.post h2 m2); have hg := Lib.hid (TMod.blk m2 hg.out (by unfold EncT WrT; decide)); have cx := hc.out.cell; have b0 := blk_cell hg.out 0; have b1 := blk_cell hg.out 1; have b2 := blk_cell hg.out 2; simp at b0 b1 b2; clear h2 m2)
    | (go_at_call 75; refine (enc_i32 _ _ p _ _ (by exact hc.out.enc)).mono ?_; rintro e wn ⟨rfl, h2, m2⟩; have hc := Lib.hid (hc.out.post h2 m2); have hg := Lib.hid (TMod.blk m2 hg.out (by unfold EncT WrT; decide)); have cx := hc.out.cell; have b0 := blk_cell hg.out 0; have b1 := blk_cell hg.out 1; have b2 := blk_cell hg.out 2; simp at b0 b1 b2; clear h2 m2)
    | (go_at_call 72; refine (enc_has _ _ p _ _ _ (by exact hc.out.enc)).mono ?_; rintro e wn ⟨rfl, rfl⟩)
    | (go_at_call 102; refine (enc_i8 _ _ p _ _ (by exact hc.out.enc)).mono ?_; rintro e wn ⟨rfl, h2, m2⟩; have hc := Lib.hid (hc.out.post h2 m2); have hg := Lib.hid (TMod.blk m2 hg.out (by unfold EncT WrT; decide)); have cx := hc.out.cell; have b0 := blk_cell hg.out 0; have b1 := blk_cell hg.out 1; have b2 := blk_cell hg.out 2; simp at b0 b1 b2; clear h2 m2)
    | (go_at_call 103; refine (ce_items_ListTopic w1 _ p _ _ m.topics A0 c0 (by exact hc.out) G0.out OK0.out).mono ?_; rintro e wn ⟨rfl, h2, m2⟩; have hc := Lib.hid h2; have hg := Lib.hid (TMod.blk m2 hg.out (by unfold EncT WrT; decide)); have cx := hc.out.cell; have b0 := blk_cell hg.out 0; have b1 := blk_cell hg.out 1; have b2 := blk_cell hg.out 2; simp at b0 b1 b2; clear h2 m2)
    | (go_at_call 82; refine (enc_done _ _ p _ (by exact hc.out.enc)).mono ?_; rintro e wn ⟨vv, rfl, ho, m2⟩; obtain ⟨AA, cc, rfl⟩ := own_slice ho; have HO := Lib.hid ho; have hM := Lib.hid m2; clear ho m2)
    | fail)
  go_loopg [21] m.topics.length (fun gk v21 wr => ∃ k : Nat, v21 = .int .i64 k ∧ Hid (k + gk = m.topics.length) ∧ k ≤ m.topics.length ∧ CeAt w1 wr p w2.heap.size ((m.topics.take k).foldl (fun s t => lkListTopic t s) (ES.lacks (m.level == 0) 2 3 (ES.new v))))
  case atStart => exact ⟨0, rfl, Lib.hid (by omega), by omega, hc.out⟩
  case round =>
    obtain ⟨k, rfl, hgk, hkl, hcr⟩ := hrel
    clear hc hg cx b0 b1 b2
    by_cases hlt : k < m.topics.length
    · obtain ⟨j, rfl⟩ : ∃ j, gk = j + 1 := ⟨gk - 1, by have := hgk.out; omega⟩
      obtain ⟨add, cs, rfl, hcl, hK, hcell⟩ := Kd.C_get G0.out zListTopic (k : Int) (by omega) (by omega)
      obtain ⟨B0, q0, rfl, l0, g0'⟩ := kListTopic_openK hK
      have hsK := Lib.hid (foldl_step lkListTopic m.topics (ES.lacks (m.level == 0) 2 3 (ES.new v)) k zListTopic hlt)
      have d0 : wr.cell? (add.add (k * 2)) = some (.string (m.topics.getD k zListTopic).name) := pw_cell_below hcr.base (hcell 0 _ rfl)
      have d1 : wr.cell? ⟨(add.add (k * 2)).block, (add.add (k * 2)).off + 1, none⟩ = some (.slice B0 (m.topics.getD k zListTopic).parts.length q0) := by rw [← add_field add (k * 2) 1 (by omega)]; exact pw_cell_below hcr.base (hcell 1 _ rfl)
      have G1 : kListPart.C w1 B0 (m.topics.getD k zListTopic).parts.length (m.topics.getD k zListTopic).parts := g0'
      clear hcell hcl hK g0'
      generalize hgt : (m.topics.getD k zListTopic) = t at *
      have hmax2 := Kd.C_max G1
      have i0 : (0 : Int) ≤ (k : Int) := by omega
      have i1 : (k : Int) < (m.topics.length : Int) := by omega
      have hcA := hcr.grown ((Below.refl _ _).alloc (Nat.le_refl _) (.cells #[.string t.name, .slice B0 t.parts.length q0] 178))
      clear hcr
      go_wp2_with fail
      go_loopg [28] t.parts.length (fun gk2 v28 wr2 => ∃ k2 : Nat, v28 = .int .i64 k2 ∧ Hid (k2 + gk2 = t.parts.length) ∧ k2 ≤ t.parts.length ∧ CeAt w1 wr2 p w2.heap.size ((t.parts.take k2).foldl (fun s p => lkListPart p s) ((m.topics.take k).foldl (fun s t => lkListTopic t s) (ES.lacks (m.level == 0) 2 3 (ES.new v)))))
      case atStart => exact ⟨0, rfl, Lib.hid (by omega), by omega, hcA⟩
      case round =>
        obtain ⟨k2, rfl, hgk2, hkl2, hcr2⟩ := hrel
        clear hcA d0 d1
        by_cases hlt2 : k2 < t.parts.length
        · obtain ⟨j2, rfl⟩ : ∃ j2, gk = j2 + 1 := ⟨gk - 1, by have := hgk2.out; omega⟩
          obtain ⟨ade, cs2, rfl, hcl2, hK2, hcell2⟩ := Kd.C_get G1 zListPart (k2 : Int) (by omega) (by omega)
          obtain rfl := kListPart_openK hK2
          have hs2 := Lib.hid (foldl_step lkListPart t.parts ((m.topics.take k).foldl (fun s t => lkListTopic t s) (ES.lacks (m.level == 0) 2 3 (ES.new v))) k2 zListPart hlt2)
          have e0 : wr.cell? (ade.add (k2 * 4)) = some (.int .i32 (t.parts.getD k2 zListPart).index) := pw_cell_below hcr2.base (hcell2 0 _ rfl)
          have e1 : wr.cell? ⟨(ade.add (k2 * 4)).block, (ade.add (k2 * 4)).off + 1, none⟩ = some (.int .i32 (t.parts.getD k2 zListPart).epoch) := by rw [← add_field ade (k2 * 4) 1 (by omega)]; exact pw_cell_below hcr2.base (hcell2 1 _ rfl)
          have e2 : wr.cell? ⟨(ade.add (k2 * 4)).block, (ade.add (k2 * 4)).off + 2, none⟩ = some (.int .i64 (t.parts.getD k2 zListPart).time) := by rw [← add_field ade (k2 * 4) 2 (by omega)]; exact pw_cell_below hcr2.base (hcell2 2 _ rfl)
          have e3 : wr.cell? ⟨(ade.add (k2 * 4)).block, (ade.add (k2 * 4)).off + 3, none⟩ = some (.int .i32 (t.parts.getD k2 zListPart).most) := by rw [← add_field ade (k2 * 4) 3 (by omega)]; exact pw_cell_below hcr2.base (hcell2 3 _ rfl)
          clear hcell2 hcl2 hK2
          generalize hgy : (t.parts.getD k2 zListPart) = y at *
          have i2 : (0 : Int) ≤ (k2 : Int) := by omega
          have i3 : (k2 : Int) < (t.parts.length : Int) := by omega
          have hc := Lib.hid (hcr2.grown ((Below.refl _ _).alloc (Nat.le_refl _) (.cells #[.int .i32 y.index, .int .i32 y.epoch, .int .i64 y.time, .int .i32 y.most] 181)))
          have hq := Lib.hid (blk_new wr (.cells #[.int .i32 y.index, .int .i32 y.epoch, .int .i64 y.time, .int .i32 y.most] 181))
          have cx := hc.out.cell
          clear hcr2
          go_wp2_with (first
            | (go_at_call 71; refine (enc_lacks _ _ p _ _ _ _ (by exact hc.out.enc)).mono ?_; rintro e wn ⟨rfl, h2, m2⟩; have hc := Lib.hid (hc.out.post h2 m2); have hq := Lib.hid (TMod.blk m2 hq.out (by unfold EncT WrT; decide)); have cx := hc.out.cell; have y0 := blk_cell hq.out 0; have y1 := blk_cell hq.out 1; have y2 := blk_cell hq.out 2; have y3 := blk_cell hq.out 3; simp at y0 y1 y2 y3; clear h2 m2)
            | fail)
          go_roundg j2
          case measure => omega
          case rel => exact ⟨k2 + 1, by go_num, Lib.hid (by have := hgk2.out; omega), by omega, by rw [hs2.out]; exact hc.out⟩
        · have hend2 : k2 = t.parts.length := by have := hgk2.out; omega
          have hlt2' : decide ((k2 : Int) < (t.parts.length : Int)) = false := by simp; omega
          rw [hend2, List.take_length] at hcr2
          go_wp2
          go_roundg j
          case measure => omega
          case rel => exact ⟨k + 1, by go_num, Lib.hid (by have := hgk.out; omega), by omega, by rw [hsK.out]; exact hcr2⟩
    · have hend : k = m.topics.length := by have := hgk.out; omega
      have hlt' : decide ((k : Int) < (m.topics.length : Int)) = false := by simp; omega
      rw [hend, List.take_length] at hcr
      have hc := Lib.hid hcr
      have hg := Lib.hid (base_blk hc.out.base hg1.out)
      have cx := hc.out.cell
      have b0 := blk_cell hg.out 0
      have b1 := blk_cell hg.out 1
      have b2 := blk_cell hg.out 2
      simp at b0 b1 b2
      clear hcr
      go_wp2_with (first
        | ((with_reducible refine gate_dst (N := 3) rfl ?_); refine box_event ?hg (N := 3) ?hd (cs := #[.int .i32 m.replica, .int .i8 m.level, .slice A0 m.topics.length c0]) (t := 56) ?hr ?_; (case hd => rfl); (case hg => rfl); (case hr => first | (go_simp; done) | (go_simp; rfl)); intro gb hgb w1 kgb bgb; have G0 := Lib.hid (Kd.C_below g0 bgb); have hg1 := Lib.hid kgb; have HB1 := Lib.hid bgb; clear hgb kgb bgb)
        | (go_at_call 70; refine (newEnc w1 v).mono ?_; rintro e w2 ⟨p, rfl, hE, hB⟩; have hc := Lib.hid (CeAt.new hE hB); have hg := Lib.hid (base_blk hc.out.base hg1.out); have cx := hc.out.cell; have b0 := blk_cell hg.out 0; have b1 := blk_cell hg.out 1; have b2 := blk_cell hg.out 2; simp at b0 b1 b2; clear hE hB)
        | (go_at_call 71; refine (enc_lacks _ _ p _ _ _ _ (by exact hc.out.enc)).mono ?_; rintro e wn ⟨rfl, h2, m2⟩; have hc := Lib.hid (hc.out.post h2 m2); have hg := Lib.hid (TMod.blk m2 hg.out (by unfold EncT WrT; decide)); have cx := hc.out.cell; have b0 := blk_cell hg.out 0; have b1 := blk_cell hg.out 1; have b2 := blk_cell hg.out 2; simp at b0 b1 b2; clear h2 m2)
        | (go_at_call 75; refine (enc_i32 _ _ p _ _ (by exact hc.out.enc)).mono ?_; rintro e wn ⟨rfl, h2, m2⟩; have hc := Lib.hid (hc.out.post h2 m2); have hg := Lib.hid (TMod.blk m2 hg.out (by unfold EncT WrT; decide)); have cx := hc.out.cell; have b0 := blk_cell hg.out 0; have b1 := blk_cell hg.out 1; have b2 := blk_cell hg.out 2; simp at b0 b1 b2; clear h2 m2)
        | (go_at_call 72; refine (enc_has _ _ p _ _ _ (by exact hc.out.enc)).mono ?_; rintro e wn ⟨rfl, rfl⟩)
        | (go_at_call 102; refine (enc_i8 _ _ p _ _ (by exact hc.out.enc)).mono ?_; rintro e wn ⟨rfl, h2, m2⟩; have hc := Lib.hid (hc.out.post h2 m2); have hg := Lib.hid (TMod.blk m2 hg.out (by unfold EncT WrT; decide)); have cx := hc.out.cell; have b0 := blk_cell hg.out 0; have b1 := blk_cell hg.out 1; have b2 := blk_cell hg.out 2; simp at b0 b1 b2; clear h2 m2)
        | (go_at_call 103; refine (ce_items_ListTopic w1 _ p _ _ m.topics A0 c0 (by exact hc.out) G0.out OK0.out).mono ?_; rintro e wn ⟨rfl, h2, m2⟩; have hc := Lib.hid h2; have hg := Lib.hid (TMod.blk m2 hg.out (by unfold EncT WrT; decide)); have cx := hc.out.cell; have b0 := blk_cell hg.out 0; have b1 := blk_cell hg.out 1; have b2 := blk_cell hg.out 2; simp at b0 b1 b2; clear h2 m2)
        | (go_at_call 82; refine (enc_done _ _ p _ (by exact hc.out.enc)).mono ?_; rintro e wn ⟨vv, rfl, ho, m2⟩; obtain ⟨AA, cc, rfl⟩ := own_slice ho; have HO := Lib.hid ho; have hM := Lib.hid m2; clear ho m2)
        | fail)
      all_goals
        go_wp2
        go_ret2
        exact EncRes.of (by simp [encListReq, ES.when, *]) HO.out HB1.out hc.out.base hM.out

end Go.Proofs.YteckmgmcfngddaaGreat
end

section
/- The writer of a list of numbers of 64 bits. -/
set_option linter.unusedVariables false
set_option linter.unusedSimpArgs false
namespace Go.Proofs.YteckmgmcfngddaaGreat
open Go.RowKit Go.Proofs.YteckmgmcfngddaaGreatW.PrintWords

set_option maxRecDepth 100000 in
set_option maxHeartbeats 6400000 in
theorem ce_items_i64 (w0 w : World) (p bx : Nat) (x : ES) (xs : List Int) (A : Option Addr) (c : Nat) (h : CeAt w0 w p bx x) (hA : (Kd.int .i64).C w0 A xs.length xs) :
    Calls Tryz.prog 117 #[.pointer (some ⟨p, 0, none⟩), .slice A xs.length c, .func (.func 96) #[.pointer (some ⟨p, 0, none⟩)] #[]] w (CePost w0 p bx (wrItems ES.i64 xs x) w) := by
  by_cases hl : 16 < xs.length
  · have hl' : decide (16 < xs.length) = true := by simpa using hl
    have HQ := Lib.hid (wrItems_many (f := ES.i64) (x := x) hl)
    go_enter Tryz.func117, Tryz.ntmps117
    go_wp2_with fail
    refine (enc_fail _ _ p x 9 h.enc).mono ?_
    rintro e w1 ⟨rfl, h2, m2⟩
    go_wp2
    ((try simp only [Exit.inBlock, Exit.then]); first | refine bodyPost_end (results_none rfl _ _ _) rfl ?_ | refine bodyPost_ret (results_none rfl _ _ _) rfl ?_ | fail)
    rw [HQ.out]
    exact ⟨rfl, h.post h2 m2, m2⟩
  · have hl' : decide (16 < xs.length) = false := by simpa using hl
    have HQ := Lib.hid (wrItems_ok (f := ES.i64) (x := x) hl)
    have hle : xs.length ≤ 16 := by omega
    go_enter Tryz.func117, Tryz.ntmps117
    go_wp2_with fail
    refine (enc_i32 _ _ p x _ h.enc).mono ?_
    rintro e w1 ⟨rfl, h2, m2⟩
    have hc := h.post h2 m2
    clear h h2 hl
    go_wp2_with fail
    go_loopg [7, 20] xs.length (fun gk v7 v20 wr => ∃ k : Nat, v20 = .int .i64 k ∧ Hid (k + gk = xs.length) ∧ k ≤ 16 ∧ CeAt w0 wr p bx ((xs.take k).foldl (fun s t => ES.i64 t s) (x.i32 xs.length)) ∧ EMod w0.heap.size w wr)
    case atStart => exact ⟨0, rfl, Lib.hid (by omega), by omega, hc, m2⟩
    case round =>
      obtain ⟨k, rfl, hgk, hk16, hcr, hmr⟩ := hrel
      clear hc m2
      by_cases hlt : k < xs.length
      · obtain ⟨j, rfl⟩ : ∃ j, gk = j + 1 := ⟨gk - 1, by have := hgk.out; omega⟩
        obtain ⟨ad, rfl, hcell⟩ := (ints_of_C hA).at_ (k : Int) (by omega) (by omega)
        have hsK := Lib.hid (foldl_step ES.i64 xs (x.i32 xs.length) k 0 hlt)
        have d0 : wr.cell? (ad.add k) = some (.int .i64 (xs.getD k 0)) := pw_cell_below hcr.base hcell
        clear hcell
        generalize hgt : xs.getD k 0 = t at *
        have q0 : (0 : Int) ≤ (k : Int) := by omega
        have q1 : (k : Int) < (xs.length : Int) := by omega
        go_wp2_with fail
        refine (enc_i64 _ _ p _ t hcr.enc).mono ?_
        rintro e w2 ⟨rfl, h3, m3⟩
        have h4 := hcr.post h3 m3
        have m4 : EMod w0.heap.size w w2 := hmr.trans m3
        clear d0 hcr hmr h3 m3
        go_wp2
        go_roundg j
        case measure => omega
        case rel => exact ⟨k + 1, by go_num, Lib.hid (by have := hgk.out; omega), by omega, by rw [hsK.out]; exact h4, m4⟩
      · have hend : k = xs.length := by have := hgk.out; omega
        have hlt' : decide ((k : Int) < (xs.length : Int)) = false := by simp; omega
        go_wp2
        ((try simp only [Exit.inBlock, Exit.then]); first | refine bodyPost_end (results_none rfl _ _ _) rfl ?_ | refine bodyPost_ret (results_none rfl _ _ _) rfl ?_ | fail)
        rw [HQ.out]
        rw [hend, List.take_length] at hcr
        exact ⟨rfl, hcr, hmr⟩

end Go.Proofs.YteckmgmcfngddaaGreat
end

section
/- The writer of a part, and of a list of it: ListDone. -/
set_option linter.unusedVariables false
set_option linter.unusedSimpArgs false
namespace Go.Proofs.YteckmgmcfngddaaGreat
open Go.RowKit Go.Proofs.YteckmgmcfngddaaGreatW.PrintWords

def wrListDone (t : ListDone) (x : ES) : ES := (ES.when 3 3 (fun s => (ES.i32 t.epoch s)) (ES.when 1 3 (fun s => (ES.i64 t.offset (ES.i64 t.time s))) (ES.when 0 0 (fun s => (wrItems ES.i64 t.offsets s)) (ES.i16 t.code (ES.i32 t.index x)))))
def okListDone (t : ListDone) : Prop := True
def zListDone : ListDone := ⟨0, 0, [], 0, 0, 0⟩

set_option maxRecDepth 100000 in
set_option maxHeartbeats 6400000 in
theorem ce_ListDone (w0 w : World) (p bx : Nat) (x : ES) (t : ListDone) (A0 : Option Addr) (c0 : Nat) (h : CeAt w0 w p bx x) (g0 : (Kd.int .i64).C w0 A0 t.offsets.length t.offsets) (hok : okListDone t) :
    Calls Tryz.prog 116 #[.agg #[.int .i32 t.index, .int .i16 t.code, .slice A0 t.offsets.length c0, .int .i64 t.time, .int .i64 t.offset, .int .i32 t.epoch], .pointer (some ⟨bx, 0, none⟩)] w (CePost w0 p bx (wrListDone t x) w) := by
  have hmf : ∀ (fn : Fn) (first cap : Array Value) (w : World), (Instr.makeFunc fn first cap).run Tryz.prog w = .ok (.func fn first cap) w := fun _ _ _ _ => rfl
  have H := Lib.hid h
  have G0 := Lib.hid g0
  clear h hok g0
  go_enter Tryz.func116, Tryz.ntmps116
  go_wp2_with (first
    | ((with_reducible refine gate_dst (N := 2) rfl ?_); refine box_event ?hg (N := 2) ?hd (cs := #[.int .i32 t.index, .int .i16 t.code, .slice A0 t.offsets.length c0, .int .i64 t.time, .int .i64 t.offset, .int .i32 t.epoch]) (t := 196) ?hr ?_; (case hd => rfl); (case hg => rfl); (case hr => first | (go_simp; done) | (go_simp; rfl)); intro gb hgb w1 kgb bgb; have hc := Lib.hid (H.out.grown bgb); have hm : EMod w0.heap.size w w1 := EMod.of_below bgb; have hg := Lib.hid kgb; have cx := hc.out.cell; have b0 := blk_cell hg.out 0; have b1 := blk_cell hg.out 1; have b2 := blk_cell hg.out 2; have b3 := blk_cell hg.out 3; have b4 := blk_cell hg.out 4; have b5 := blk_cell hg.out 5; simp at b0 b1 b2 b3 b4 b5; clear hgb kgb bgb)
    | (go_at_call 75; refine (enc_i32 _ _ p _ _ (by exact hc.out.enc)).mono ?_; rintro e wn ⟨rfl, h2, m2⟩; have hc := Lib.hid (hc.out.post h2 m2); have hg := Lib.hid (TMod.blk m2 hg.out (by unfold EncT WrT; decide)); have hm := hm.trans m2; have cx := hc.out.cell; have b0 := blk_cell hg.out 0; have b1 := blk_cell hg.out 1; have b2 := blk_cell hg.out 2; have b3 := blk_cell hg.out 3; have b4 := blk_cell hg.out 4; have b5 := blk_cell hg.out 5; simp at b0 b1 b2 b3 b4 b5; clear h2 m2)
    | (go_at_call 74; refine (enc_i16 _ _ p _ _ (by exact hc.out.enc)).mono ?_; rintro e wn ⟨rfl, h2, m2⟩; have hc := Lib.hid (hc.out.post h2 m2); have hg := Lib.hid (TMod.blk m2 hg.out (by unfold EncT WrT; decide)); have hm := hm.trans m2; have cx := hc.out.cell; have b0 := blk_cell hg.out 0; have b1 := blk_cell hg.out 1; have b2 := blk_cell hg.out 2; have b3 := blk_cell hg.out 3; have b4 := blk_cell hg.out 4; have b5 := blk_cell hg.out 5; simp at b0 b1 b2 b3 b4 b5; clear h2 m2)
    | (go_at_call 72; refine (enc_has _ _ p _ _ _ (by exact hc.out.enc)).mono ?_; rintro e wn ⟨rfl, rfl⟩)
    | (go_at_call 117; refine (ce_items_i64 w0 _ p bx _ t.offsets A0 c0 (by exact hc.out) G0.out).mono ?_; rintro e wn ⟨rfl, h2, m2⟩; have hc := Lib.hid h2; have hg := Lib.hid (TMod.blk m2 hg.out (by unfold EncT WrT; decide)); have hm := hm.trans m2; have cx := hc.out.cell; have b0 := blk_cell hg.out 0; have b1 := blk_cell hg.out 1; have b2 := blk_cell hg.out 2; have b3 := blk_cell hg.out 3; have b4 := blk_cell hg.out 4; have b5 := blk_cell hg.out 5; simp at b0 b1 b2 b3 b4 b5; clear h2 m2)
    | (go_at_call 96; refine (enc_i64 _ _ p _ _ (by exact hc.out.enc)).mono ?_; rintro e wn ⟨rfl, h2, m2⟩; have hc := Lib.hid (hc.out.post h2 m2); have hg := Lib.hid (TMod.blk m2 hg.out (by unfold EncT WrT; decide)); have hm := hm.trans m2; have cx := hc.out.cell; have b0 := blk_cell hg.out 0; have b1 := blk_cell hg.out 1; have b2 := blk_cell hg.out 2; have b3 := blk_cell hg.out 3; have b4 := blk_cell hg.out 4; have b5 := blk_cell hg.out 5; simp at b0 b1 b2 b3 b4 b5; clear h2 m2)
    | fail)
  all_goals
    go_wp2
    ((try simp only [Exit.inBlock, Exit.then]); first | refine bodyPost_end (results_none rfl _ _ _) rfl ?_ | refine bodyPost_ret (results_none rfl _ _ _) rfl ?_ | fail)
    exact ⟨rfl, by simpa [wrListDone, ES.when, *] using hc.out, hm⟩

set_option maxRecDepth 100000 in
set_option maxHeartbeats 6400000 in
theorem ce_items_ListDone (w0 w : World) (p bx : Nat) (x : ES) (xs : List ListDone) (A : Option Addr) (c : Nat) (h : CeAt w0 w p bx x) (hA : kListDone.C w0 A xs.length xs) (hok : ∀ t ∈ xs, okListDone t) :
    Calls Tryz.prog 115 #[.pointer (some ⟨p, 0, none⟩), .slice A xs.length c, .func (.func 116) #[] #[.pointer (some ⟨bx, 0, none⟩)]] w (CePost w0 p bx (wrItems wrListDone xs x) w) := by
  by_cases hl : 16 < xs.length
  · have hl' : decide (16 < xs.length) = true := by simpa using hl
    have HQ := Lib.hid (wrItems_many (f := wrListDone) (x := x) hl)
    go_enter Tryz.func115, Tryz.ntmps115
    go_wp2_with fail
    refine (enc_fail _ _ p x 9 h.enc).mono ?_
    rintro e w1 ⟨rfl, h2, m2⟩
    go_wp2
    ((try simp only [Exit.inBlock, Exit.then]); first | refine bodyPost_end (results_none rfl _ _ _) rfl ?_ | refine bodyPost_ret (results_none rfl _ _ _) rfl ?_ | fail)
    rw [HQ.out]
    exact ⟨rfl, h.post h2 m2, m2⟩
  · have hl' : decide (16 < xs.length) = false := by simpa using hl
    have HQ := Lib.hid (wrItems_ok (f := wrListDone) (x := x) hl)
    have hle : xs.length ≤ 16 := by omega
    go_enter Tryz.func115, Tryz.ntmps115
    go_wp2_with fail
    refine (enc_i32 _ _ p x _ h.enc).mono ?_
    rintro e w1 ⟨rfl, h2, m2⟩
    have hc := h.post h2 m2
    clear h h2 hl
    go_wp2_with fail
    go_loopg [20] xs.length (fun gk v20 wr => ∃ k : Nat, v20 = .int .i64 k ∧ Hid (k + gk = xs.length) ∧ k ≤ 16 ∧ CeAt w0 wr p bx ((xs.take k).foldl (fun s t => wrListDone t s) (x.i32 xs.length)) ∧ EMod w0.heap.size w wr)
    case atStart => exact ⟨0, rfl, Lib.hid (by omega), by omega, hc, m2⟩
    case round =>
      obtain ⟨k, rfl, hgk, hk16, hcr, hmr⟩ := hrel
      clear hc m2
      by_cases hlt : k < xs.length
      · obtain ⟨j, rfl⟩ : ∃ j, gk = j + 1 := ⟨gk - 1, by have := hgk.out; omega⟩
        obtain ⟨ad, cs, rfl, hcl, hK, hcell⟩ := Kd.C_get hA zListDone (k : Int) (by omega) (by omega)
        obtain ⟨A0, c0, rfl, l0, g0⟩ := kListDone_openK hK
        have hsK := Lib.hid (foldl_step wrListDone xs (x.i32 xs.length) k zListDone hlt)
        have hokk : okListDone (xs.getD k zListDone) := hok _ (by rw [List.getD_eq_getElem?_getD, List.getElem?_eq_getElem hlt]; exact List.getElem_mem hlt)
        have d0 : wr.cell? (ad.add (k * 6)) = some (.int .i32 (xs.getD k zListDone).index) := pw_cell_below hcr.base (hcell 0 _ rfl)
        have d1 : wr.cell? ⟨(ad.add (k * 6)).block, (ad.add (k * 6)).off + 1, none⟩ = some (.int .i16 (xs.getD k zListDone).code) := by rw [← add_field ad (k * 6) 1 (by omega)]; exact pw_cell_below hcr.base (hcell 1 _ rfl)
        have d2 : wr.cell? ⟨(ad.add (k * 6)).block, (ad.add (k * 6)).off + 2, none⟩ = some (.slice A0 (xs.getD k zListDone).offsets.length c0) := by rw [← add_field ad (k * 6) 2 (by omega)]; exact pw_cell_below hcr.base (hcell 2 _ rfl)
        have d3 : wr.cell? ⟨(ad.add (k * 6)).block, (ad.add (k * 6)).off + 3, none⟩ = some (.int .i64 (xs.getD k zListDone).time) := by rw [← add_field ad (k * 6) 3 (by omega)]; exact pw_cell_below hcr.base (hcell 3 _ rfl)
        have d4 : wr.cell? ⟨(ad.add (k * 6)).block, (ad.add (k * 6)).off + 4, none⟩ = some (.int .i64 (xs.getD k zListDone).offset) := by rw [← add_field ad (k * 6) 4 (by omega)]; exact pw_cell_below hcr.base (hcell 4 _ rfl)
        have d5 : wr.cell? ⟨(ad.add (k * 6)).block, (ad.add (k * 6)).off + 5, none⟩ = some (.int .i32 (xs.getD k zListDone).epoch) := by rw [← add_field ad (k * 6) 5 (by omega)]; exact pw_cell_below hcr.base (hcell 5 _ rfl)
        have g0' : (Kd.int .i64).C w0 A0 (xs.getD k zListDone).offsets.length (xs.getD k zListDone).offsets := g0
        clear hcell hcl hK g0
        generalize hgt : xs.getD k zListDone = t at *
        have q0 : (0 : Int) ≤ (k : Int) := by omega
        have q1 : (k : Int) < (xs.length : Int) := by omega
        go_wp2_with fail
        refine (ce_ListDone w0 _ p bx _ t A0 c0 (hcr.grown ((Below.refl _ _).alloc (Nat.le_refl _) _)) g0' hokk).mono ?_
        rintro e w2 ⟨rfl, h3, m3⟩
        have m4 : EMod w0.heap.size w w2 := hmr.trans (EMod.trans (EMod.of_below ((Below.refl _ _).alloc (Nat.le_refl _) _)) m3)
        clear d0 d1 d2 d3 d4 d5 hcr hmr m3
        go_wp2
        go_roundg j
        case measure => omega
        case rel => exact ⟨k + 1, by go_num, Lib.hid (by have := hgk.out; omega), by omega, by rw [hsK.out]; exact h3, m4⟩
      · have hend : k = xs.length := by have := hgk.out; omega
        have hlt' : decide ((k : Int) < (xs.length : Int)) = false := by simp; omega
        go_wp2
        ((try simp only [Exit.inBlock, Exit.then]); first | refine bodyPost_end (results_none rfl _ _ _) rfl ?_ | refine bodyPost_ret (results_none rfl _ _ _) rfl ?_ | fail)
        rw [HQ.out]
        rw [hend, List.take_length] at hcr
        exact ⟨rfl, hcr, hmr⟩

end Go.Proofs.YteckmgmcfngddaaGreat
end

section
/- The writer of a part, and of a list of it: ListGone. -/
set_option linter.unusedVariables false
set_option linter.unusedSimpArgs false
namespace Go.Proofs.YteckmgmcfngddaaGreat
open Go.RowKit Go.Proofs.YteckmgmcfngddaaGreatW.PrintWords

def wrListGone (t : ListGone) (x : ES) : ES := (wrItems wrListDone t.parts (ES.str t.name x))
def okListGone (t : ListGone) : Prop := t.name.size ≤ 140737488355328 ∧ ∀ y ∈ t.parts, okListDone y
def zListGone : ListGone := ⟨⟨#[]⟩, []⟩

set_option maxRecDepth 100000 in
set_option maxHeartbeats 6400000 in
theorem ce_ListGone (w0 w : World) (p bx : Nat) (x : ES) (t : ListGone) (A0 : Option Addr) (c0 : Nat) (h : CeAt w0 w p bx x) (g0 : kListDone.C w0 A0 t.parts.length t.parts) (hok : okListGone t) :
    Calls Tryz.prog 114 #[.agg #[.string t.name, .slice A0 t.parts.length c0], .pointer (some ⟨bx, 0, none⟩)] w (CePost w0 p bx (wrListGone t x) w) := by
  have hmf : ∀ (fn : Fn) (first cap : Array Value) (w : World), (Instr.makeFunc fn first cap).run Tryz.prog w = .ok (.func fn first cap) w := fun _ _ _ _ => rfl
  have H := Lib.hid h
  have G0 := Lib.hid g0
  have OK0 := Lib.hid hok.1
  have OK1 := Lib.hid hok.2
  clear h hok g0
  go_enter Tryz.func114, Tryz.ntmps114
  go_wp2_with (first
    | ((with_reducible refine gate_dst (N := 2) rfl ?_); refine box_event ?hg (N := 2) ?hd (cs := #[.string t.name, .slice A0 t.parts.length c0]) (t := 192) ?hr ?_; (case hd => rfl); (case hg => rfl); (case hr => first | (go_simp; done) | (go_simp; rfl)); intro gb hgb w1 kgb bgb; have hc := Lib.hid (H.out.grown bgb); have hm : EMod w0.heap.size w w1 := EMod.of_below bgb; have hg := Lib.hid kgb; have cx := hc.out.cell; have b0 := blk_cell hg.out 0; have b1 := blk_cell hg.out 1; simp at b0 b1; clear hgb kgb bgb)
    | (go_at_call 78; refine (enc_str _ _ p _ _ (by exact hc.out.enc) OK0.out).mono ?_; rintro e wn ⟨rfl, h2, m2⟩; have hc := Lib.hid (hc.out.post h2 m2); have hg := Lib.hid (TMod.blk m2 hg.out (by unfold EncT WrT; decide)); have hm := hm.trans m2; have cx := hc.out.cell; have b0 := blk_cell hg.out 0; have b1 := blk_cell hg.out 1; simp at b0 b1; clear h2 m2)
    | (go_at_call 115; refine (ce_items_ListDone w0 _ p bx _ t.parts A0 c0 (by exact hc.out) G0.out OK1.out).mono ?_; rintro e wn ⟨rfl, h2, m2⟩; have hc := Lib.hid h2; have hg := Lib.hid (TMod.blk m2 hg.out (by unfold EncT WrT; decide)); have hm := hm.trans m2; have cx := hc.out.cell; have b0 := blk_cell hg.out 0; have b1 := blk_cell hg.out 1; simp at b0 b1; clear h2 m2)
    | fail)
  all_goals
    go_wp2
    ((try simp only [Exit.inBlock, Exit.then]); first | refine bodyPost_end (results_none rfl _ _ _) rfl ?_ | refine bodyPost_ret (results_none rfl _ _ _) rfl ?_ | fail)
    exact ⟨rfl, hc.out, hm⟩

set_option maxRecDepth 100000 in
set_option maxHeartbeats 6400000 in
theorem ce_items_ListGone (w0 w : World) (p bx : Nat) (x : ES) (xs : List ListGone) (A : Option Addr) (c : Nat) (h : CeAt w0 w p bx x) (hA : kListGone.C w0 A xs.length xs) (hok : ∀ t ∈ xs, okListGone t) :
    Calls Tryz.prog 113 #[.pointer (some ⟨p, 0, none⟩), .slice A xs.length c, .func (.func 114) #[] #[.pointer (some ⟨bx, 0, none⟩)]] w (CePost w0 p bx (wrItems wrListGone xs x) w) := by
  by_cases hl : 16 < xs.length
  · have hl' : decide (16 < xs.length) = true := by simpa using hl
    have HQ := Lib.hid (wrItems_many (f := wrListGone) (x := x) hl)
    go_enter Tryz.func113, Tryz.ntmps113
    go_wp2_with fail
    refine (enc_fail _ _ p x 9 h.enc).mono ?_
    rintro e w1 ⟨rfl, h2, m2⟩
    go_wp2
    ((try simp only [Exit.inBlock, Exit.then]); first | refine bodyPost_end (results_none rfl _ _ _) rfl ?_ | refine bodyPost_ret (results_none rfl _ _ _) rfl ?_ | fail)
    rw [HQ.out]
    exact ⟨rfl, h.post h2 m2, m2⟩
  · have hl' : decide (16 < xs.length) = false := by simpa using hl
    have HQ := Lib.hid (wrItems_ok (f := wrListGone) (x := x) hl)
    have hle : xs.length ≤ 16 := by omega
    go_enter Tryz.func113, Tryz.ntmps113
    go_wp2_with fail
    refine (enc_i32 _ _ p x _ h.enc).mono ?_
    rintro e w1 ⟨rfl, h2, m2⟩
    have hc := h.post h2 m2
    clear h h2 hl
    go_wp2_with fail
    go_loopg [20] xs.length (fun gk v20 wr => ∃ k : Nat, v20 = .int .i64 k ∧ Hid (k + gk = xs.length) ∧ k ≤ 16 ∧ CeAt w0 wr p bx ((xs.take k).foldl (fun s t => wrListGone t s) (x.i32 xs.length)) ∧ EMod w0.heap.size w wr)
    case atStart => exact ⟨0, rfl, Lib.hid (by omega), by omega, hc, m2⟩
    case round =>
      obtain ⟨k, rfl, hgk, hk16, hcr, hmr⟩ := hrel
      clear hc m2
      by_cases hlt : k < xs.length
      · obtain ⟨j, rfl⟩ : ∃ j, gk = j + 1 := ⟨gk - 1, by have := hgk.out; omega⟩
        obtain ⟨ad, cs, rfl, hcl, hK, hcell⟩ := Kd.C_get hA zListGone (k : Int) (by omega) (by omega)
        obtain ⟨A0, c0, rfl, l0, g0⟩ := kListGone_openK hK
        have hsK := Lib.hid (foldl_step wrListGone xs (x.i32 xs.length) k zListGone hlt)
        have hokk : okListGone (xs.getD k zListGone) := hok _ (by rw [List.getD_eq_getElem?_getD, List.getElem?_eq_getElem hlt]; exact List.getElem_mem hlt)
        have d0 : wr.cell? (ad.add (k * 2)) = some (.string (xs.getD k zListGone).name) := pw_cell_below hcr.base (hcell 0 _ rfl)
        have d1 : wr.cell? ⟨(ad.add (k * 2)).block, (ad.add (k * 2)).off + 1, none⟩ = some (.slice A0 (xs.getD k zListGone).parts.length c0) := by rw [← add_field ad (k * 2) 1 (by omega)]; exact pw_cell_below hcr.base (hcell 1 _ rfl)
        have g0' : kListDone.C w0 A0 (xs.getD k zListGone).parts.length (xs.getD k zListGone).parts := g0
        clear hcell hcl hK g0
        generalize hgt : xs.getD k zListGone = t at *
        have q0 : (0 : Int) ≤ (k : Int) := by omega
        have q1 : (k : Int) < (xs.length : Int) := by omega
        go_wp2_with fail
        refine (ce_ListGone w0 _ p bx _ t A0 c0 (hcr.grown ((Below.refl _ _).alloc (Nat.le_refl _) _)) g0' hokk).mono ?_
        rintro e w2 ⟨rfl, h3, m3⟩
        have m4 : EMod w0.heap.size w w2 := hmr.trans (EMod.trans (EMod.of_below ((Below.refl _ _).alloc (Nat.le_refl _) _)) m3)
        clear d0 d1 hcr hmr m3
        go_wp2
        go_roundg j
        case measure => omega
        case rel => exact ⟨k + 1, by go_num, Lib.hid (by have := hgk.out; omega), by omega, by rw [hsK.out]; exact h3, m4⟩
      · have hend : k = xs.length := by have := hgk.out; omega
        have hlt' : decide ((k : Int) < (xs.length : Int)) = false := by simp; omega
        go_wp2
        ((try simp only [Exit.inBlock, Exit.then]); first | refine bodyPost_end (results_none rfl _ _ _) rfl ?_ | refine bodyPost_ret (results_none rfl _ _ _) rfl ?_ | fail)
        rw [HQ.out]
        rw [hend, List.take_length] at hcr
        exact ⟨rfl, hcr, hmr⟩

end Go.Proofs.YteckmgmcfngddaaGreat
end

section
/- offsets.lacks. -/
set_option linter.unusedVariables false
set_option linter.unusedSimpArgs false
namespace Go.Proofs.YteckmgmcfngddaaGreat
open Go.RowKit Go.Proofs.YteckmgmcfngddaaGreatW.PrintWords

def lkListDone (t : ListDone) (x : ES) : ES := ES.lacks (t.epoch == 0) 3 3 (ES.lacks (t.time == 0 && t.offset == 0) 1 3 (ES.lacks ((t.offsets.length : Int) == 0) 0 0 x))
set_option maxRecDepth 100000 in
set_option maxHeartbeats 6400000 in
theorem enc_lacksDone (B : Nat) (w : World) (p : Nat) (x : ES) (t : ListDone) (A0 : Option Addr) (c0 : Nat) (h : EncAt B w p x) :
    Calls Tryz.prog 112 #[.pointer (some ⟨p, 0, none⟩), .agg #[.int .i32 t.index, .int .i16 t.code, .slice A0 t.offsets.length c0, .int .i64 t.time, .int .i64 t.offset, .int .i32 t.epoch]] w (EncPost B p (lkListDone t x) w) := by
  have H := Lib.hid h
  clear h
  cases hb : (t.time == 0)
  all_goals
    go_enter Tryz.func112, Tryz.ntmps112
    go_wp2_with (first
      | ((with_reducible refine gate_dst (N := 3) rfl ?_); refine box_event ?hg (N := 3) ?hd (cs := #[.int .i32 t.index, .int .i16 t.code, .slice A0 t.offsets.length c0, .int .i64 t.time, .int .i64 t.offset, .int .i32 t.epoch]) (t := 196) ?hr ?_; (case hd => rfl); (case hg => rfl); (case hr => first | (go_simp; done) | (go_simp; rfl)); intro gb hgb w1 kgb bgb; have hc := Lib.hid (H.out.grown bgb); have hm : EMod B w w1 := EMod.of_below bgb; have hg := Lib.hid kgb; have b2 := blk_cell hg.out 2; have b3 := blk_cell hg.out 3; have b4 := blk_cell hg.out 4; have b5 := blk_cell hg.out 5; simp at b2 b3 b4 b5; clear hgb kgb bgb)
      | (go_at_call 71; refine (enc_lacks _ _ p _ _ _ _ (by exact hc.out)).mono ?_; rintro e wn ⟨rfl, h2, m2⟩; have hc := Lib.hid h2; have hg := Lib.hid (TMod.blk m2 hg.out (by unfold EncT WrT; decide)); have hm := hm.trans m2; have b2 := blk_cell hg.out 2; have b3 := blk_cell hg.out 3; have b4 := blk_cell hg.out 4; have b5 := blk_cell hg.out 5; simp at b2 b3 b4 b5; clear h2 m2)
      | fail)
    all_goals
      go_wp2
      ((try simp only [Exit.inBlock, Exit.then]); first | refine bodyPost_end (results_none rfl _ _ _) rfl ?_ | refine bodyPost_ret (results_none rfl _ _ _) rfl ?_ | fail)
      exact ⟨rfl, by simpa [lkListDone, hb] using hc.out, hm⟩

end Go.Proofs.YteckmgmcfngddaaGreat
end

section
/- Encode of a message: ListRep. -/
set_option linter.unusedVariables false
set_option linter.unusedSimpArgs false
namespace Go.Proofs.YteckmgmcfngddaaGreat
open Go.RowKit Go.Proofs.YteckmgmcfngddaaGreatW.PrintWords

def lkListGone (t : ListGone) (x : ES) : ES := t.parts.foldl (fun s p => lkListDone p s) x
def encListRep (v : Int) (m : ListRep) : List Int × Int := ((wrItems wrListGone m.topics (ES.when 2 3 (fun s => (ES.i32 m.throttle s)) (m.topics.foldl (fun s t => lkListGone t s) (ES.lacks (m.throttle == 0) 2 3 (ES.new v)))))).done
def okListRep (m : ListRep) : Prop := ∀ y ∈ m.topics, okListGone y

set_option maxRecDepth 100000 in
set_option maxHeartbeats 12800000 in
theorem eo_ListRep (w : World) (v : Int) (m : ListRep) (A0 : Option Addr) (c0 : Nat) (g0 : kListGone.C w A0 m.topics.length m.topics) (hok : okListRep m) :
    Calls Tryz.prog 25 #[.int .i64 v, .agg #[.int .i32 m.throttle, .slice A0 m.topics.length c0]] w (EncRes (encListRep v m) w) := by
  have hmf : ∀ (fn : Fn) (first cap : Array Value) (w : World), (Instr.makeFunc fn first cap).run Tryz.prog w = .ok (.func fn first cap) w := fun _ _ _ _ => rfl
  have OK0 := Lib.hid hok
  have hmax := Kd.C_max g0
  clear hok
  go_enter Tryz.func25, Tryz.ntmps25
  go_wp2_with (first
    | ((with_reducible refine gate_dst (N := 3) rfl ?_); refine box_event ?hg (N := 3) ?hd (cs := #[.int .i32 m.throttle, .slice A0 m.topics.length c0]) (t := 62) ?hr ?_; (case hd => rfl); (case hg => rfl); (case hr => first | (go_simp; done) | (go_simp; rfl)); intro gb hgb w1 kgb bgb; have G0 := Lib.hid (Kd.C_below g0 bgb); have hg1 := Lib.hid kgb; have HB1 := Lib.hid bgb; clear hgb kgb bgb)
    | (go_at_call 70; refine (newEnc w1 v).mono ?_; rintro e w2 ⟨p, rfl, hE, hB⟩; have hc := Lib.hid (CeAt.new hE hB); have hg := Lib.hid (base_blk hc.out.base hg1.out); have cx := hc.out.cell; have b0 := blk_cell hg.out 0; have b1 := blk_cell hg.out 1; simp at b0 b1; clear hE hB)
    | (go_at_call 71; refine (enc_lacks _ _ p _ _ _ _ (by exact hc.out.enc)).mono ?_; rintro e wn ⟨rfl, h2, m2⟩; have hc := Lib.hid (hc.out.post h2 m2); have hg := Lib.hid (TMod.blk m2 hg.out (by unfold EncT WrT; decide)); have cx := hc.out.cell; have b0 := blk_cell hg.out 0; have b1 := blk_cell hg.out 1; simp at b0 b1; clear h2 m2)
    | (go_at_call 72; refine (enc_has _ _ p _ _ _ (by exact hc.out.enc)).mono ?_; rintro e wn ⟨rfl, rfl⟩)
    | (go_at_call 75; refine (enc_i32 _ _ p _ _ (by exact hc.out.enc)).mono ?_; rintro e wn ⟨rfl, h2, m2⟩; have hc := Lib.hid (hc.out.post h2 m2); have hg := Lib.hid (TMod.blk m2 hg.out (by unfold EncT WrT; decide)); have cx := hc.out.cell; have b0 := blk_cell hg.out 0; have b1 := blk_cell hg.out 1; simp at b0 b1; clear h2 m2)
    | (go_at_call 113; refine (ce_items_ListGone w1 _ p _ _ m.topics A0 c0 (by exact hc.out) G0.out OK0.out).mono ?_; rintro e wn ⟨rfl, h2, m2⟩; have hc := Lib.hid h2; have hg := Lib.hid (TMod.blk m2 hg.out (by unfold EncT WrT; decide)); have cx := hc.out.cell; have b0 := blk_cell hg.out 0; have b1 := blk_cell hg.out 1; simp at b0 b1; clear h2 m2)
    | (go_at_call 82; refine (enc_done _ _ p _ (by exact hc.out.enc)).mono ?_; rintro e wn ⟨vv, rfl, ho, m2⟩; obtain ⟨AA, cc, rfl⟩ := own_slice ho; have HO := Lib.hid ho; have hM := Lib.hid m2; clear ho m2)
    | fail)
  go_loopg [21] m.topics.length (fun gk v21 wr => ∃ k : Nat, v21 = .int .i64 k ∧ Hid (k + gk = m.topics.length) ∧ k ≤ m.topics.length ∧ CeAt w1 wr p w2.heap.size ((m.topics.take k).foldl (fun s t => lkListGone t s) (ES.lacks (m.throttle == 0) 2 3 (ES.new v))))
  case atStart => exact ⟨0, rfl, Lib.hid (by omega), by omega, hc.out⟩
  case round =>
    obtain ⟨k, rfl, hgk, hkl, hcr⟩ := hrel
    clear hc hg cx b0 b1
    by_cases hlt : k < m.topics.length
    · obtain ⟨j, rfl⟩ : ∃ j, gk = j + 1 := ⟨gk - 1, by have := hgk.out; omega⟩
      obtain ⟨add, cs, rfl, hcl, hK, hcell⟩ := Kd.C_get G0.out zListGone (k : Int) (by omega) (by omega)
      obtain ⟨B0, q0, rfl, l0, g0'⟩ := kListGone_openK hK
      have hsK := Lib.hid (foldl_step lkListGone m.topics (ES.lacks (m.throttle == 0) 2 3 (ES.new v)) k zListGone hlt)
      have d0 : wr.cell? (add.add (k * 2)) = some (.string (m.topics.getD k zListGone).name) := pw_cell_below hcr.base (hcell 0 _ rfl)
      have d1 : wr.cell? ⟨(add.add (k * 2)).block, (add.add (k * 2)).off + 1, none⟩ = some (.slice B0 (m.topics.getD k zListGone).parts.length q0) := by rw [← add_field add (k * 2) 1 (by omega)]; exact pw_cell_below hcr.base (hcell 1 _ rfl)
      have G1 : kListDone.C w1 B0 (m.topics.getD k zListGone).parts.length (m.topics.getD k zListGone).parts := g0'
      clear hcell hcl hK g0'
      generalize hgt : (m.topics.getD k zListGone) = t at *
      have hmax2 := Kd.C_max G1
      have i0 : (0 : Int) ≤ (k : Int) := by omega
      have i1 : (k : Int) < (m.topics.length : Int) := by omega
      have hcA := hcr.grown ((Below.refl _ _).alloc (Nat.le_refl _) (.cells #[.string t.name, .slice B0 t.parts.length q0] 192))
      clear hcr
      go_wp2_with fail
      go_loopg [28] t.parts.length (fun gk2 v28 wr2 => ∃ k2 : Nat, v28 = .int .i64 k2 ∧ Hid (k2 + gk2 = t.parts.length) ∧ k2 ≤ t.parts.length ∧ CeAt w1 wr2 p w2.heap.size ((t.parts.take k2).foldl (fun s p => lkListDone p s) ((m.topics.take k).foldl (fun s t => lkListGone t s) (ES.lacks (m.throttle == 0) 2 3 (ES.new v)))))
      case atStart => exact ⟨0, rfl, Lib.hid (by omega), by omega, hcA⟩
      case round =>
        obtain ⟨k2, rfl, hgk2, hkl2, hcr2⟩ := hrel
        clear hcA d0 d1
        by_cases hlt2 : k2 < t.parts.length
        · obtain ⟨j2, rfl⟩ : ∃ j2, gk = j2 + 1 := ⟨gk - 1, by have := hgk2.out; omega⟩
          obtain ⟨ade, cs2, rfl, hcl2, hK2, hcell2⟩ := Kd.C_get G1 zListDone (k2 : Int) (by omega) (by omega)
          obtain ⟨E0, f0, rfl, r0, s0⟩ := kListDone_openK hK2
          have hs2 := Lib.hid (foldl_step lkListDone t.parts ((m.topics.take k).foldl (fun s t => lkListGone t s) (ES.lacks (m.throttle == 0) 2 3 (ES.new v))) k2 zListDone hlt2)
          have e0 : wr.cell? (ade.add (k2 * 6)) = some (.int .i32 (t.parts.getD k2 zListDone).index) := pw_cell_below hcr2.base (hcell2 0 _ rfl)
          have e1 : wr.cell? ⟨(ade.add (k2 * 6)).block, (ade.add (k2 * 6)).off + 1, none⟩ = some (.int .i16 (t.parts.getD k2 zListDone).code) := by rw [← add_field ade (k2 * 6) 1 (by omega)]; exact pw_cell_below hcr2.base (hcell2 1 _ rfl)
          have e2 : wr.cell? ⟨(ade.add (k2 * 6)).block, (ade.add (k2 * 6)).off + 2, none⟩ = some (.slice E0 (t.parts.getD k2 zListDone).offsets.length f0) := by rw [← add_field ade (k2 * 6) 2 (by omega)]; exact pw_cell_below hcr2.base (hcell2 2 _ rfl)
          have e3 : wr.cell? ⟨(ade.add (k2 * 6)).block, (ade.add (k2 * 6)).off + 3, none⟩ = some (.int .i64 (t.parts.getD k2 zListDone).time) := by rw [← add_field ade (k2 * 6) 3 (by omega)]; exact pw_cell_below hcr2.base (hcell2 3 _ rfl)
          have e4 : wr.cell? ⟨(ade.add (k2 * 6)).block, (ade.add (k2 * 6)).off + 4, none⟩ = some (.int .i64 (t.parts.getD k2 zListDone).offset) := by rw [← add_field ade (k2 * 6) 4 (by omega)]; exact pw_cell_below hcr2.base (hcell2 4 _ rfl)
          have e5 : wr.cell? ⟨(ade.add (k2 * 6)).block, (ade.add (k2 * 6)).off + 5, none⟩ = some (.int .i32 (t.parts.getD k2 zListDone).epoch) := by rw [← add_field ade (k2 * 6) 5 (by omega)]; exact pw_cell_below hcr2.base (hcell2 5 _ rfl)
          clear hcell2 hcl2 hK2
          generalize hgy : (t.parts.getD k2 zListDone) = y at *
          have i2 : (0 : Int) ≤ (k2 : Int) := by omega
          have i3 : (k2 : Int) < (t.parts.length : Int) := by omega
          have hc := Lib.hid (hcr2.grown ((Below.refl _ _).alloc (Nat.le_refl _) (.cells #[.int .i32 y.index, .int .i16 y.code, .slice E0 y.offsets.length f0, .int .i64 y.time, .int .i64 y.offset, .int .i32 y.epoch] 196)))
          have hq := Lib.hid (blk_new wr (.cells #[.int .i32 y.index, .int .i16 y.code, .slice E0 y.offsets.length f0, .int .i64 y.time, .int .i64 y.offset, .int .i32 y.epoch] 196))
          have cx := hc.out.cell
          clear hcr2
          go_wp2_with (first
            | (go_at_call 112; refine (enc_lacksDone _ _ p _ y E0 f0 (by exact hc.out.enc)).mono ?_; rintro e wn ⟨rfl, h2, m2⟩; have hc := Lib.hid (hc.out.post h2 m2); have hq := Lib.hid (TMod.blk m2 hq.out (by unfold EncT WrT; decide)); have cx := hc.out.cell; have y0 := blk_cell hq.out 0; have y1 := blk_cell hq.out 1; have y2 := blk_cell hq.out 2; have y3 := blk_cell hq.out 3; have y4 := blk_cell hq.out 4; have y5 := blk_cell hq.out 5; simp at y0 y1 y2 y3 y4 y5; clear h2 m2)
            | fail)
          go_roundg j2
          case measure => omega
          case rel => exact ⟨k2 + 1, by go_num, Lib.hid (by have := hgk2.out; omega), by omega, by rw [hs2.out]; exact hc.out⟩
        · have hend2 : k2 = t.parts.length := by have := hgk2.out; omega
          have hlt2' : decide ((k2 : Int) < (t.parts.length : Int)) = false := by simp; omega
          rw [hend2, List.take_length] at hcr2
          go_wp2
          go_roundg j
          case measure => omega
          case rel => exact ⟨k + 1, by go_num, Lib.hid (by have := hgk.out; omega), by omega, by rw [hsK.out]; exact hcr2⟩
    · have hend : k = m.topics.length := by have := hgk.out; omega
      have hlt' : decide ((k : Int) < (m.topics.length : Int)) = false := by simp; omega
      rw [hend, List.take_length] at hcr
      have hc := Lib.hid hcr
      have hg := Lib.hid (base_blk hc.out.base hg1.out)
      have cx := hc.out.cell
      have b0 := blk_cell hg.out 0
      have b1 := blk_cell hg.out 1
      simp at b0 b1
      clear hcr
      go_wp2_with (first
        | ((with_reducible refine gate_dst (N := 3) rfl ?_); refine box_event ?hg (N := 3) ?hd (cs := #[.int .i32 m.throttle, .slice A0 m.topics.length c0]) (t := 62) ?hr ?_; (case hd => rfl); (case hg => rfl); (case hr => first | (go_simp; done) | (go_simp; rfl)); intro gb hgb w1 kgb bgb; have G0 := Lib.hid (Kd.C_below g0 bgb); have hg1 := Lib.hid kgb; have HB1 := Lib.hid bgb; clear hgb kgb bgb)
        | (go_at_call 70; refine (newEnc w1 v).mono ?_; rintro e w2 ⟨p, rfl, hE, hB⟩; have hc := Lib.hid (CeAt.new hE hB); have hg := Lib.hid (base_blk hc.out.base hg1.out); have cx := hc.out.cell; have b0 := blk_cell hg.out 0; have b1 := blk_cell hg.out 1; simp at b0 b1; clear hE hB)
        | (go_at_call 71; refine (enc_lacks _ _ p _ _ _ _ (by exact hc.out.enc)).mono ?_; rintro e wn ⟨rfl, h2, m2⟩; have hc := Lib.hid (hc.out.post h2 m2); have hg := Lib.hid (TMod.blk m2 hg.out (by unfold EncT WrT; decide)); have cx := hc.out.cell; have b0 := blk_cell hg.out 0; have b1 := blk_cell hg.out 1; simp at b0 b1; clear h2 m2)
        | (go_at_call 72; refine (enc_has _ _ p _ _ _ (by exact hc.out.enc)).mono ?_; rintro e wn ⟨rfl, rfl⟩)
        | (go_at_call 75; refine (enc_i32 _ _ p _ _ (by exact hc.out.enc)).mono ?_; rintro e wn ⟨rfl, h2, m2⟩; have hc := Lib.hid (hc.out.post h2 m2); have hg := Lib.hid (TMod.blk m2 hg.out (by unfold EncT WrT; decide)); have cx := hc.out.cell; have b0 := blk_cell hg.out 0; have b1 := blk_cell hg.out 1; simp at b0 b1; clear h2 m2)
        | (go_at_call 113; refine (ce_items_ListGone w1 _ p _ _ m.topics A0 c0 (by exact hc.out) G0.out OK0.out).mono ?_; rintro e wn ⟨rfl, h2, m2⟩; have hc := Lib.hid h2; have hg := Lib.hid (TMod.blk m2 hg.out (by unfold EncT WrT; decide)); have cx := hc.out.cell; have b0 := blk_cell hg.out 0; have b1 := blk_cell hg.out 1; simp at b0 b1; clear h2 m2)
        | (go_at_call 82; refine (enc_done _ _ p _ (by exact hc.out.enc)).mono ?_; rintro e wn ⟨vv, rfl, ho, m2⟩; obtain ⟨AA, cc, rfl⟩ := own_slice ho; have HO := Lib.hid ho; have hM := Lib.hid m2; clear ho m2)
        | fail)
      all_goals
        go_wp2
        go_ret2
        exact EncRes.of (by simp [encListRep, ES.when, *]) HO.out HB1.out hc.out.base hM.out

end Go.Proofs.YteckmgmcfngddaaGreat
end

section
/- What is written of a message is no longer than the room. -/
set_option linter.unusedVariables false
set_option linter.unusedSimpArgs false
namespace Go.Proofs.YteckmgmcfngddaaGreat
open Go.RowKit Go.Proofs.YteckmgmcfngddaaGreatW.PrintWords

def ES.Ok (s : ES) : Prop := s.out.length ≤ 130048
theorem putB_le {out bs : List Int} {most : Nat} (h : out.length ≤ most) : (putB out most bs).2.length ≤ most := by
  unfold putB
  split
  · simp; omega
  · exact h
namespace ES
theorem Ok.fail {s : ES} (h : s.Ok) (c : Int) : (s.fail c).Ok := by unfold ES.fail; split <;> exact h
theorem Ok.lacks {s : ES} (h : s.Ok) (z : Bool) (lo hi : Int) : (s.lacks z lo hi).Ok := by unfold ES.lacks; split; exact h.fail 7; exact h
theorem Ok.put {s : ES} (h : s.Ok) (bs : List Int) : (s.put bs).Ok := putB_le h
theorem Ok.i8 {s : ES} (h : s.Ok) (x : Int) : (s.i8 x).Ok := h.put _
theorem Ok.i16 {s : ES} (h : s.Ok) (x : Int) : (s.i16 x).Ok := h.put _
theorem Ok.i32 {s : ES} (h : s.Ok) (x : Int) : (s.i32 x).Ok := h.put _
theorem Ok.i64 {s : ES} (h : s.Ok) (x : Int) : (s.i64 x).Ok := h.put _
theorem Ok.str {s : ES} (h : s.Ok) (b : ByteArray) : (s.str b).Ok := by
  unfold ES.str
  split
  · exact h.fail 6
  · split
    · exact h.fail 4
    · exact (h.i16 _).put _
theorem Ok.name {s : ES} (h : s.Ok) (n : Name) : (s.name n).Ok := by
  unfold ES.name
  split
  · split
    · exact h.i16 _
    · exact h.fail 70
  · exact h.str _
theorem Ok.blob {s : ES} (h : s.Ok) (n : Blob) : (s.blob n).Ok := by
  unfold ES.blob
  split
  · split
    · exact h.fail 70
    · exact h.i32 _
  · exact (h.i32 _).put _
theorem Ok.when {s : ES} (h : s.Ok) (lo hi : Int) {f : ES → ES} (hf : ∀ s, s.Ok → (f s).Ok) : (ES.when lo hi f s).Ok := by unfold ES.when; split; exact hf _ h; exact h
theorem Ok.folds {α : Type} {f : α → ES → ES} (hf : ∀ t s, s.Ok → (f t s).Ok) : ∀ (xs : List α) {s : ES}, s.Ok → (xs.foldl (fun s t => f t s) s).Ok
  | [], _, h => h
  | t :: r, _, h => Ok.folds hf r (hf t _ h)
theorem Ok.items {α : Type} {f : α → ES → ES} (hf : ∀ t s, s.Ok → (f t s).Ok) (xs : List α) {s : ES} (h : s.Ok) : (wrItems f xs s).Ok := by
  unfold wrItems
  split
  · exact h.fail 9
  · exact Ok.folds hf xs (h.i32 _)
theorem Ok.new (v : Int) : (ES.new v).Ok := Nat.zero_le _
theorem Ok.done {s : ES} (h : s.Ok) : s.done.1.length ≤ 130048 := by
  unfold ES.done
  split
  · exact Nat.zero_le _
  · split
    · exact Nat.zero_le _
    · exact h
end ES
theorem ok_wrProdPart (t : ProdPart) (x : ES) (h : x.Ok) : (wrProdPart t x).Ok := by
  unfold wrProdPart
  (repeat (first | assumption | with_reducible refine ES.Ok.i8 ?_ _ | with_reducible refine ES.Ok.i16 ?_ _ | with_reducible refine ES.Ok.i32 ?_ _ | with_reducible refine ES.Ok.i64 ?_ _ | with_reducible refine ES.Ok.blob ?_ _ | with_reducible refine ES.Ok.name ?_ _ | with_reducible refine ES.Ok.when ?_ _ _ (fun s hs => ?_) | (with_reducible refine ES.Ok.items (fun t s hs => ES.Ok.i64 hs t) _ ?_)))
theorem ok_wrProdDone (t : ProdDone) (x : ES) (h : x.Ok) : (wrProdDone t x).Ok := by
  unfold wrProdDone
  (repeat (first | assumption | with_reducible refine ES.Ok.i8 ?_ _ | with_reducible refine ES.Ok.i16 ?_ _ | with_reducible refine ES.Ok.i32 ?_ _ | with_reducible refine ES.Ok.i64 ?_ _ | with_reducible refine ES.Ok.blob ?_ _ | with_reducible refine ES.Ok.name ?_ _ | with_reducible refine ES.Ok.when ?_ _ _ (fun s hs => ?_) | (with_reducible refine ES.Ok.items (fun t s hs => ES.Ok.i64 hs t) _ ?_)))
theorem ok_wrFetchPart (t : FetchPart) (x : ES) (h : x.Ok) : (wrFetchPart t x).Ok := by
  unfold wrFetchPart
  (repeat (first | assumption | with_reducible refine ES.Ok.i8 ?_ _ | with_reducible refine ES.Ok.i16 ?_ _ | with_reducible refine ES.Ok.i32 ?_ _ | with_reducible refine ES.Ok.i64 ?_ _ | with_reducible refine ES.Ok.blob ?_ _ | with_reducible refine ES.Ok.name ?_ _ | with_reducible refine ES.Ok.when ?_ _ _ (fun s hs => ?_) | (with_reducible refine ES.Ok.items (fun t s hs => ES.Ok.i64 hs t) _ ?_)))
theorem ok_wrFetchDone (t : FetchDone) (x : ES) (h : x.Ok) : (wrFetchDone t x).Ok := by
  unfold wrFetchDone
  (repeat (first | assumption | with_reducible refine ES.Ok.i8 ?_ _ | with_reducible refine ES.Ok.i16 ?_ _ | with_reducible refine ES.Ok.i32 ?_ _ | with_reducible refine ES.Ok.i64 ?_ _ | with_reducible refine ES.Ok.blob ?_ _ | with_reducible refine ES.Ok.name ?_ _ | with_reducible refine ES.Ok.when ?_ _ _ (fun s hs => ?_) | (with_reducible refine ES.Ok.items (fun t s hs => ES.Ok.i64 hs t) _ ?_)))
theorem ok_wrListPart (t : ListPart) (x : ES) (h : x.Ok) : (wrListPart t x).Ok := by
  unfold wrListPart
  (repeat (first | assumption | with_reducible refine ES.Ok.i8 ?_ _ | with_reducible refine ES.Ok.i16 ?_ _ | with_reducible refine ES.Ok.i32 ?_ _ | with_reducible refine ES.Ok.i64 ?_ _ | with_reducible refine ES.Ok.blob ?_ _ | with_reducible refine ES.Ok.name ?_ _ | with_reducible refine ES.Ok.when ?_ _ _ (fun s hs => ?_) | (with_reducible refine ES.Ok.items (fun t s hs => ES.Ok.i64 hs t) _ ?_)))
theorem ok_wrListDone (t : ListDone) (x : ES) (h : x.Ok) : (wrListDone t x).Ok := by
  unfold wrListDone
  (repeat (first | assumption | with_reducible refine ES.Ok.i8 ?_ _ | with_reducible refine ES.Ok.i16 ?_ _ | with_reducible refine ES.Ok.i32 ?_ _ | with_reducible refine ES.Ok.i64 ?_ _ | with_reducible refine ES.Ok.blob ?_ _ | with_reducible refine ES.Ok.name ?_ _ | with_reducible refine ES.Ok.when ?_ _ _ (fun s hs => ?_) | (with_reducible refine ES.Ok.items (fun t s hs => ES.Ok.i64 hs t) _ ?_)))
theorem ok_wrProdTopic (t : ProdTopic) (x : ES) (h : x.Ok) : (wrProdTopic t x).Ok := ES.Ok.items ok_wrProdPart _ (h.str _)
theorem ok_wrProdGone (t : ProdGone) (x : ES) (h : x.Ok) : (wrProdGone t x).Ok := ES.Ok.items ok_wrProdDone _ (h.str _)
theorem ok_wrFetchTopic (t : FetchTopic) (x : ES) (h : x.Ok) : (wrFetchTopic t x).Ok := ES.Ok.items ok_wrFetchPart _ (h.str _)
theorem ok_wrFetchGone (t : FetchGone) (x : ES) (h : x.Ok) : (wrFetchGone t x).Ok := ES.Ok.items ok_wrFetchDone _ (h.str _)
theorem ok_wrListTopic (t : ListTopic) (x : ES) (h : x.Ok) : (wrListTopic t x).Ok := ES.Ok.items ok_wrListPart _ (h.str _)
theorem ok_wrListGone (t : ListGone) (x : ES) (h : x.Ok) : (wrListGone t x).Ok := ES.Ok.items ok_wrListDone _ (h.str _)
theorem ok_lkProdDone (t : ProdDone) (x : ES) (h : x.Ok) : (lkProdDone t x).Ok := by
  unfold lkProdDone
  (repeat (first | assumption | with_reducible refine ES.Ok.lacks ?_ _ _ _))
theorem ok_lkProdGone (t : ProdGone) (x : ES) (h : x.Ok) : (lkProdGone t x).Ok := ES.Ok.folds ok_lkProdDone _ h
theorem ok_lkFetchPart (t : FetchPart) (x : ES) (h : x.Ok) : (lkFetchPart t x).Ok := by
  unfold lkFetchPart
  (repeat (first | assumption | with_reducible refine ES.Ok.lacks ?_ _ _ _))
theorem ok_lkFetchTopic (t : FetchTopic) (x : ES) (h : x.Ok) : (lkFetchTopic t x).Ok := ES.Ok.folds ok_lkFetchPart _ h
theorem ok_lkFetchDone (t : FetchDone) (x : ES) (h : x.Ok) : (lkFetchDone t x).Ok := by
  unfold lkFetchDone
  (repeat (first | assumption | with_reducible refine ES.Ok.lacks ?_ _ _ _))
theorem ok_lkFetchGone (t : FetchGone) (x : ES) (h : x.Ok) : (lkFetchGone t x).Ok := ES.Ok.folds ok_lkFetchDone _ h
theorem ok_lkListPart (t : ListPart) (x : ES) (h : x.Ok) : (lkListPart t x).Ok := by
  unfold lkListPart
  (repeat (first | assumption | with_reducible refine ES.Ok.lacks ?_ _ _ _))
theorem ok_lkListTopic (t : ListTopic) (x : ES) (h : x.Ok) : (lkListTopic t x).Ok := ES.Ok.folds ok_lkListPart _ h
theorem ok_lkListDone (t : ListDone) (x : ES) (h : x.Ok) : (lkListDone t x).Ok := by
  unfold lkListDone
  (repeat (first | assumption | with_reducible refine ES.Ok.lacks ?_ _ _ _))
theorem ok_lkListGone (t : ListGone) (x : ES) (h : x.Ok) : (lkListGone t x).Ok := ES.Ok.folds ok_lkListDone _ h
theorem len_ProdReq (v : Int) (m : ProdReq) : (encProdReq v m).1.length ≤ 130048 := by
  unfold encProdReq
  refine ES.Ok.done ?_
  (repeat (first | assumption | exact ES.Ok.new _ | with_reducible refine ES.Ok.i8 ?_ _ | with_reducible refine ES.Ok.i16 ?_ _ | with_reducible refine ES.Ok.i32 ?_ _ | with_reducible refine ES.Ok.lacks ?_ _ _ _ | with_reducible refine ES.Ok.name ?_ _ | with_reducible refine ES.Ok.when ?_ _ _ (fun s hs => ?_) | (with_reducible refine ES.Ok.items ok_wrProdTopic _ ?_)))
theorem len_ProdRep (v : Int) (m : ProdRep) : (encProdRep v m).1.length ≤ 130048 := by
  unfold encProdRep
  refine ES.Ok.done ?_
  (repeat (first | assumption | exact ES.Ok.new _ | with_reducible refine ES.Ok.i8 ?_ _ | with_reducible refine ES.Ok.i16 ?_ _ | with_reducible refine ES.Ok.i32 ?_ _ | with_reducible refine ES.Ok.lacks ?_ _ _ _ | with_reducible refine ES.Ok.name ?_ _ | with_reducible refine ES.Ok.when ?_ _ _ (fun s hs => ?_) | (with_reducible refine ES.Ok.items ok_wrProdGone _ ?_) | (with_reducible refine ES.Ok.folds ok_lkProdGone _ ?_)))
theorem len_FetchReq (v : Int) (m : FetchReq) : (encFetchReq v m).1.length ≤ 130048 := by
  unfold encFetchReq
  refine ES.Ok.done ?_
  (repeat (first | assumption | exact ES.Ok.new _ | with_reducible refine ES.Ok.i8 ?_ _ | with_reducible refine ES.Ok.i16 ?_ _ | with_reducible refine ES.Ok.i32 ?_ _ | with_reducible refine ES.Ok.lacks ?_ _ _ _ | with_reducible refine ES.Ok.name ?_ _ | with_reducible refine ES.Ok.when ?_ _ _ (fun s hs => ?_) | (with_reducible refine ES.Ok.items ok_wrFetchTopic _ ?_) | (with_reducible refine ES.Ok.folds ok_lkFetchTopic _ ?_)))
theorem len_FetchRep (v : Int) (m : FetchRep) : (encFetchRep v m).1.length ≤ 130048 := by
  unfold encFetchRep
  refine ES.Ok.done ?_
  (repeat (first | assumption | exact ES.Ok.new _ | with_reducible refine ES.Ok.i8 ?_ _ | with_reducible refine ES.Ok.i16 ?_ _ | with_reducible refine ES.Ok.i32 ?_ _ | with_reducible refine ES.Ok.lacks ?_ _ _ _ | with_reducible refine ES.Ok.name ?_ _ | with_reducible refine ES.Ok.when ?_ _ _ (fun s hs => ?_) | (with_reducible refine ES.Ok.items ok_wrFetchGone _ ?_) | (with_reducible refine ES.Ok.folds ok_lkFetchGone _ ?_)))
theorem len_ListReq (v : Int) (m : ListReq) : (encListReq v m).1.length ≤ 130048 := by
  unfold encListReq
  refine ES.Ok.done ?_
  (repeat (first | assumption | exact ES.Ok.new _ | with_reducible refine ES.Ok.i8 ?_ _ | with_reducible refine ES.Ok.i16 ?_ _ | with_reducible refine ES.Ok.i32 ?_ _ | with_reducible refine ES.Ok.lacks ?_ _ _ _ | with_reducible refine ES.Ok.name ?_ _ | with_reducible refine ES.Ok.when ?_ _ _ (fun s hs => ?_) | (with_reducible refine ES.Ok.items ok_wrListTopic _ ?_) | (with_reducible refine ES.Ok.folds ok_lkListTopic _ ?_)))
theorem len_ListRep (v : Int) (m : ListRep) : (encListRep v m).1.length ≤ 130048 := by
  unfold encListRep
  refine ES.Ok.done ?_
  (repeat (first | assumption | exact ES.Ok.new _ | with_reducible refine ES.Ok.i8 ?_ _ | with_reducible refine ES.Ok.i16 ?_ _ | with_reducible refine ES.Ok.i32 ?_ _ | with_reducible refine ES.Ok.lacks ?_ _ _ _ | with_reducible refine ES.Ok.name ?_ _ | with_reducible refine ES.Ok.when ?_ _ _ (fun s hs => ?_) | (with_reducible refine ES.Ok.items ok_wrListGone _ ?_) | (with_reducible refine ES.Ok.folds ok_lkListGone _ ?_)))

end Go.Proofs.YteckmgmcfngddaaGreat
end
