/- A part of a proof. Proved: Rows.CallOnlySaid: for every byte slice the law leatlaw16.CallOnly returns true, and the slice reads afterwards as it read before. No condition but the row's own reach. -/
import Derived.Test.YteckmgmcfngddaaGreatCo103
import Derived.Test.YteckmgmcfngddaaGreatCo104
import Derived.Test.YteckmgmcfngddaaGreatCo102
import Derived.Test.YteckmgmcfngddaaGreatCo101
import Derived.Deep.LoopGhost
import Derived.StillTailTactics
import Derived.Deep.DeepCutAuto
section
/- The layer of calls: Decode. -/
set_option linter.unusedVariables false
set_option linter.unusedSimpArgs false
namespace Go.Proofs.YteckmgmcfngddaaGreat
open Go.RowKit Go.Proofs.YteckmgmcfngddaaGreatW.PrintWords

def zProdReq : ProdReq := ⟨⟨false, ⟨#[]⟩⟩, 0, 0, []⟩
def zFetchReq : FetchReq := ⟨0, 0, 0, 0, 0, []⟩
def zListReq : ListReq := ⟨0, 0, []⟩
def zCall : Call := ⟨0, 0, 0, zName, zProdReq, zFetchReq, zListReq⟩
def DS.raw (xs : List Int) : DS := { b := xs, pos := 0, v := 0, e := 0 }
/-- The body's bytes. -/
def DS.rest (d : DS) : List Int := d.b.drop d.pos
def Beg.prod (r : Beg) : ProdReq × Int := decFin zProdReq (rdProdReq (DS.new r.ver r.d.rest))
def Beg.fetch (r : Beg) : FetchReq × Int := decFin zFetchReq (rdFetchReq (DS.new r.ver r.d.rest))
def Beg.list (r : Beg) : ListReq × Int := decFin zListReq (rdListReq (DS.new r.ver r.d.rest))
def begDecode (r : Beg) : Call × Int :=
  if r.d.e ≠ 0 then (zCall, r.d.e)
  else if r.key = 0 then (if r.prod.2 ≠ 0 then (zCall, r.prod.2) else (⟨r.key, r.ver, r.corr, r.cl, r.prod.1, zFetchReq, zListReq⟩, 0))
  else if r.key = 1 then (if r.fetch.2 ≠ 0 then (zCall, r.fetch.2) else (⟨r.key, r.ver, r.corr, r.cl, zProdReq, r.fetch.1, zListReq⟩, 0))
  else (if r.list.2 ≠ 0 then (zCall, r.list.2) else (⟨r.key, r.ver, r.corr, r.cl, zProdReq, zFetchReq, r.list.1⟩, 0))
def callDecode (xs : List Int) : Call × Int := begDecode (callBegin (DS.raw xs))
theorem headF_ok {key ver : Int} (h : headF key ver = 0) : (key = 0 ∨ key = 1 ∨ key = 2) ∧ 0 ≤ ver ∧ ver ≤ 3 := by
  unfold headF at h
  split at h
  · omega
  · split at h
    · omega
    · omega
theorem callBegin_ok {d : DS} (h : (callBegin d).d.e = 0) : headF (callBegin d).key (callBegin d).ver = 0 := by
  by_cases h0 : d.i16.2.e = 0
  · by_cases h1 : d.i16.2.i16.2.e = 0
    · by_cases h2 : d.i16.2.i16.2.i32.2.e = 0
      · by_cases h3 : (callName d.i16.2.i16.2.i32.2).2.e = 0
        · rw [callBegin5 h0 h1 h2 h3] at h ⊢; exact h
        · rw [callBegin4 h0 h1 h2 h3] at h; exact absurd h h3
      · rw [callBegin3 h0 h1 h2] at h; exact absurd h h2
    · rw [callBegin2 h0 h1] at h; exact absurd h h1
  · rw [callBegin1 h0] at h; exact absurd h h0
theorem zeroPost {r : Call × Int} {w w' : World} {c : Int} {cs : List Value} (hc : Hid (cs = headCells 0 0 0 zName)) (hr : Hid (r = (zCall, c))) (hb : Below w.heap.size w w') : DecPost kCall r w (.returned (.tuple #[.agg cs.toArray, .int .i64 c])) w' := by
  have h1 := hr.out
  have h2 := hc.out
  subst h1 h2
  exact ⟨headCells 0 0 0 zName, rfl, kCall_mkM _ _ _ zCall (Kd.R_nil _ _ _ _ _) (Kd.R_nil _ _ _ _ _) (Kd.R_nil _ _ _ _ _), hb⟩
theorem decPost_of {α : Type} {k : Kd α} {r : α × Int} {x : α} {w w' : World} {cs cs' : List Value} (hr : Hid (r = (x, 0))) (hc : Hid (cs = cs')) (hM : k.M w' w.heap.size (fun _ => True) x cs') (hb : Below w.heap.size w w') : DecPost k r w (.returned (.tuple #[.agg cs.toArray, .int .i64 0])) w' := by
  have h1 := hr.out
  have h2 := hc.out
  subst h1 h2
  exact ⟨cs, rfl, hM, hb⟩
theorem begDecode_bad {r : Beg} (h : ¬ r.d.e = 0) : begDecode r = (zCall, r.d.e) := if_pos h
theorem begDecode_prod {r : Beg} (h : r.d.e = 0) (hk : r.key = 0) : begDecode r = if r.prod.2 ≠ 0 then (zCall, r.prod.2) else (⟨r.key, r.ver, r.corr, r.cl, r.prod.1, zFetchReq, zListReq⟩, 0) := by unfold begDecode; rw [if_neg (by simpa using h), if_pos hk]
theorem begDecode_fetch {r : Beg} (h : r.d.e = 0) (hk : r.key = 1) : begDecode r = if r.fetch.2 ≠ 0 then (zCall, r.fetch.2) else (⟨r.key, r.ver, r.corr, r.cl, zProdReq, r.fetch.1, zListReq⟩, 0) := by unfold begDecode; rw [if_neg (by simpa using h), if_neg (by omega), if_pos hk]
theorem begDecode_list {r : Beg} (h : r.d.e = 0) (hk : r.key = 2) : begDecode r = if r.list.2 ≠ 0 then (zCall, r.list.2) else (⟨r.key, r.ver, r.corr, r.cl, zProdReq, zFetchReq, r.list.1⟩, 0) := by unfold begDecode; rw [if_neg (by simpa using h), if_neg (by omega), if_neg (by omega)]
theorem kCall_prod {w : World} {base : Nat} {ok : Nat → Prop} {k v c : Int} {n : Name} {m : ProdReq} {pc : List Value} (h : kProdReq.M w base ok m pc) : kCall.M w base ok ⟨k, v, c, n, m, zFetchReq, zListReq⟩ (putL (headCells k v c n) 5 pc) := by
  obtain ⟨A0, c0, rfl, g0⟩ := kProdReq_openM h
  exact kCall_mkM w base ok (⟨k, v, c, n, m, zFetchReq, zListReq⟩ : Call) g0 (Kd.R_nil _ _ _ _ _) (Kd.R_nil _ _ _ _ _)
theorem kCall_fetch {w : World} {base : Nat} {ok : Nat → Prop} {k v c : Int} {n : Name} {m : FetchReq} {pc : List Value} (h : kFetchReq.M w base ok m pc) : kCall.M w base ok ⟨k, v, c, n, zProdReq, m, zListReq⟩ (putL (headCells k v c n) 10 pc) := by
  obtain ⟨A0, c0, rfl, g0⟩ := kFetchReq_openM h
  exact kCall_mkM w base ok (⟨k, v, c, n, zProdReq, m, zListReq⟩ : Call) (Kd.R_nil _ _ _ _ _) g0 (Kd.R_nil _ _ _ _ _)
theorem kCall_list {w : World} {base : Nat} {ok : Nat → Prop} {k v c : Int} {n : Name} {m : ListReq} {pc : List Value} (h : kListReq.M w base ok m pc) : kCall.M w base ok ⟨k, v, c, n, zProdReq, zFetchReq, m⟩ (putL (headCells k v c n) 16 pc) := by
  obtain ⟨A0, c0, rfl, g0⟩ := kListReq_openM h
  exact kCall_mkM w base ok (⟨k, v, c, n, zProdReq, zFetchReq, m⟩ : Call) (Kd.R_nil _ _ _ _ _) (Kd.R_nil _ _ _ _ _) g0
theorem info_ProdReq : (Tryz.prog.info? 33).map (·.size) = some 5 := by kernel_rfl
theorem info_FetchReq : (Tryz.prog.info? 68).map (·.size) = some 6 := by kernel_rfl
theorem info_ListReq : (Tryz.prog.info? 56).map (·.size) = some 3 := by kernel_rfl
theorem drewN_blk {w : World} {g : Nat} {t : TypeId} {n : Nat} {cs : List Value} (h : Blk w g t n cs) (k : Nat) : Blk (w.drewN k) g t n cs := ⟨h.heap, h.len, h.one⟩

set_option maxRecDepth 100000 in
set_option maxHeartbeats 12800000 in
theorem ca_decode (w : World) (A : Option Addr) (c : Nat) (xs : List Int) (hr : ReadsInt w .u8 A xs.length xs) (hl : xs.length ≤ 140737488355328) :
    Calls Tryz.prog 43 #[.slice A xs.length c] w (DecPost kCall (callDecode xs) w) := by
  have HR := Lib.hid hr
  clear hr
  go_enter Tryz.func43, Tryz.ntmps43
  go_wp2_with (first
    | ((with_reducible refine gate_dst (N := 2) rfl ?_); refine box_event ?hg (N := 2) ?hd (cs := #[.int .i16 0, .int .i16 0, .int .i32 0, .bool false, .string ⟨#[]⟩, .bool false, .string ⟨#[]⟩, .int .i16 0, .int .i32 0, .slice none 0 0, .int .i32 0, .int .i32 0, .int .i32 0, .int .i32 0, .int .i8 0, .slice none 0 0, .int .i32 0, .int .i8 0, .slice none 0 0]) (t := 79) ?hr ?_; (case hd => rfl); (case hg => rfl); (case hr => first | (go_simp; done) | (go_simp; rfl)); intro gb hq w1 kq bq; have hgb : Blk w1 gb 79 19 (headCells 0 0 0 zName) := ⟨kq, rfl, by simp [headCells, Value.oneCell']⟩; have HB := Lib.hid bq; have hsg := Lib.hid (Nat.le_of_eq hq.symm); clear hq kq bq)
    | fail)
  refine (newReader w1 A _ c xs (HR.out.below HB.out) hl).mono ?_
  rintro e w2 ⟨g, rv, rfl, hR, hgw, hrv, hb2⟩
  have hgb := hgb.below hb2
  have hB : Below w.heap.size w w2 := HB.out.trans (hb2.mono HB.out.size)
  have hsr : Hid (w.heap.size ≤ g) := Lib.hid (Nat.le_trans HB.out.size hgw)
  have hng : gb ≠ g := (blk_ne hR.1 hgb.heap (by decide)).symm
  have hR := Lib.hid hR
  have HB := Lib.hid hB
  clear hb2 hB hgw hrv
  go_wp2_with fail
  refine (ca_begin w2 g rv (DS.raw xs) hR.out rfl).mono ?_
  rintro e w3 ⟨rfl, h2, m2⟩
  have hok := fun h => callBegin_ok (d := DS.raw xs) h
  have hbb : (callBegin (DS.raw xs)).d.b.length ≤ 140737488355328 := h2.2.2.2
  have hbp := h2.2.2.1
  have HD : Hid (callDecode xs = begDecode (callBegin (DS.raw xs))) := Lib.hid rfl
  generalize callBegin (DS.raw xs) = r at *
  have hgb := hgb.mod m2 hng
  have HB := Lib.hid (belowFresh HB.out m2 hsr.out)
  have hR := Lib.hid h2
  have hvl : (headCells r.key r.ver r.corr r.cl).length = 19 := rfl
  have hvo : ∀ v ∈ headCells r.key r.ver r.corr r.cl, v.oneCell' = true := by simp [headCells, Value.oneCell']
  generalize hvs : headCells r.key r.ver r.corr r.cl = vs at *
  have Hvs := Lib.hid hvs.symm
  have hzl : (headCells 0 0 0 zName).length = 19 := hgb.len
  have hzo := hgb.one
  have Hza : Hid ((headCells 0 0 0 zName).toArray = #[.int .i16 0, .int .i16 0, .int .i32 0, .bool false, .string ⟨#[]⟩, .bool false, .string ⟨#[]⟩, .int .i16 0, .int .i32 0, .slice none 0 0, .int .i32 0, .int .i32 0, .int .i32 0, .int .i32 0, .int .i8 0, .slice none 0 0, .int .i32 0, .int .i8 0, .slice none 0 0]) := Lib.hid rfl
  clear h2 m2 hvs
  by_cases he : r.d.e = 0
  · have he' : (r.d.e != 0) = false := by simp [he]
    obtain ⟨hk, hv0, hv3⟩ := headF_ok (hok he)
    have HE := Lib.hid he
    clear he hok
    go_wp2_with (first
      | ((with_reducible refine gate_dst (N := 5) rfl ?_); refine box_event ?hg (N := 5) ?hd (cs := #[.int .i16 0, .int .i16 0, .int .i32 0, .bool false, .string ⟨#[]⟩, .bool false, .string ⟨#[]⟩, .int .i16 0, .int .i32 0, .slice none 0 0, .int .i32 0, .int .i32 0, .int .i32 0, .int .i32 0, .int .i8 0, .slice none 0 0, .int .i32 0, .int .i8 0, .slice none 0 0]) (t := 79) ?hr ?_; (case hd => rfl); (case hg => rfl); (case hr => first | (go_simp; done) | (go_simp; rfl)); intro gc hq w4 kq bq; have hgc : Blk w4 gc 79 19 (headCells 0 0 0 zName) := ⟨kq, rfl, by simp [headCells, Value.oneCell']⟩; have hnc := Lib.hid (Nat.ne_of_lt (Nat.lt_of_lt_of_le hgb.lt (Nat.le_of_eq hq.symm))); have hsc := Lib.hid (Nat.le_trans HB.out.size (Nat.le_of_eq hq.symm)); have hgb := hgb.below bq; have hR := Lib.hid (hR.out.grown bq); have HB := Lib.hid (HB.out.trans (bq.mono HB.out.size)); clear hq kq bq)
      | (refine bfull_event rfl 79 (.tmp 5) (.tmp 14) rfl rfl gc 19 (headCells 0 0 0 zName) vs 79 (by rfl) (by rfl) (by exact hgc) hvl info_Call hvo ?_; intro w5 kj mj; have hR := Lib.hid (hR.out.modAt hgc.heap (by decide) (by decide) mj); have hgb := hgb.mod mj hnc.out; have HB := Lib.hid (belowFresh HB.out mj hsc.out); have hgc := kj; clear kj mj)
      | fail)
    refine (rd_left _ g rv r.d.b r.d.pos hR.out).mono ?_
    rintro e w6 ⟨rfl, k6, rfl⟩
    have hR := Lib.hid (show RdAt (w5.drewN k6) g rv _ _ from hR.out)
    go_wp2_with fail
    rw [show ((r.d.b.length : Int) - r.d.pos) = ((r.d.b.length - r.d.pos : Nat) : Int) from by omega]
    refine (rd_take _ g rv r.d.b r.d.pos _ hR.out (Nat.le_refl _)).mono ?_
    rintro e w7 ⟨v7, rfl, ho, h2, m2⟩
    have e7 : (r.d.b.drop r.d.pos).take (r.d.b.length - r.d.pos) = r.d.rest := List.take_of_length_le (by simp)
    rw [e7] at ho
    obtain ⟨A7, c7, rfl⟩ := own_slice ho
    have HO := Lib.hid (own_reads' ho)
    have hng2 : gc ≠ g := (blk_ne hR.out.1 hgc.heap (by decide)).symm
    have m7 : Mod (· = g) w5 w7 := ((Mod.refl _ _).drewN k6).trans m2
    have hgb := hgb.mod m7 hng
    have hgc := hgc.mod m7 hng2
    have HB := Lib.hid (belowFresh HB.out m7 hsr.out)
    have hrl : r.d.rest.length ≤ 140737488355328 := by unfold DS.rest; rw [List.length_drop]; omega
    have b0 := hgc.cell (i := 0) (v := .int .i16 r.key) (by rw [Hvs.out]; rfl)
    have b1 := hgc.cell (i := 1) (v := .int .i16 r.ver) (by rw [Hvs.out]; rfl)
    have hsb := Lib.hid (show w.heap.size ≤ w7.heap.size from HB.out.size)
    clear ho h2 m2 m7 e7 hng hng2 hR
    rcases hk with hk | hk | hk
    · have HK := Lib.hid (HD.out.trans (begDecode_prod HE.out hk))
      have k0 : (r.key == 0) = true := by simp [hk]
      clear hk
      go_wp2_with fail
      refine (show Calls _ _ _ _ (DecPost kProdReq r.prod w7) from dec_ProdReq w7 r.ver A7 c7 r.d.rest HO.out hrl).mono ?_
      rintro e w8 ⟨pc, rfl, hM, hb8⟩
      have hpl : pc.length = 5 := kProdReq.K_len (kProdReq.K_of_M hM)
      have hpo := kProdReq.K_one (kProdReq.K_of_M hM)
      have HM := Lib.hid hM
      have hgcl := Lib.hid hgc.lt
      have hgbl := Lib.hid hgb.lt
      have hgb := hgb.below hb8
      have hgc := hgc.below hb8
      have HB := Lib.hid (HB.out.trans (hb8.mono HB.out.size))
      clear hM hb8 b0 b1
      by_cases hp : r.prod.2 = 0
      · have hp' : (r.prod.2 != 0) = false := by simp [hp]
        have HQ := Lib.hid (HK.out.trans (if_neg (by simpa using hp)))
        clear hp
        go_wp2_with (first
          | (refine bmid_event rfl 33 (.tmp 39) (.tmp 37) rfl rfl gc 5 19 5 vs pc 79 (by rfl) (by rfl) (by exact hgc) hpl (by decide) info_ProdReq hpo ?_; intro w9 cs1 hc1 kj mj; have hgb := hgb.mod mj hnc.out; have HM := Lib.hid (M_mod HM.out mj (fun q hq e => by have := hgcl.out; omega)); have HB := Lib.hid (belowFresh HB.out mj hsc.out); have hgc := kj; clear kj mj)
          | ((with_reducible refine gate_dst (N := 66) rfl ?_); refine bload_event rfl 79 (.tmp 5) rfl gc 19 cs1 79 _ (by rfl) (by exact hgc) Tryz.underlying79 rfl info_Call ?_)
          | (refine bfull_event rfl 79 (.tmp 2) (.tmp 66) rfl rfl gb 19 (headCells 0 0 0 zName) cs1 79 (by rfl) (by rfl) (by exact hgb) hgc.len info_Call hgc.one ?_; intro w10 kj mj; have HM := Lib.hid (M_mod HM.out mj (fun q hq e => by have := hgbl.out; omega)); have HB := Lib.hid (belowFresh HB.out mj hsg.out); have hgb := kj; clear kj mj)
          | fail)
        refine bodyPost_ret (results_blk rfl (by rfl) hgb Tryz.underlying79 rfl info_Call (by rfl) (v := .int .i64 0)) rfl ?_
        refine decPost_of HQ (Lib.hid (hc1.out.trans (by rw [Hvs.out]))) (kCall_prod (kProdReq.M_lower ?_ HM.out)) HB.out
        have := hsb.out
        omega
      · have hp' : (r.prod.2 != 0) = true := by simp [hp]
        have HQ := Lib.hid (HK.out.trans (if_pos hp))
        clear hp
        go_wp2_with (first
          | (refine bmid_event rfl 33 (.tmp 39) (.tmp 37) rfl rfl gc 5 19 5 vs pc 79 (by rfl) (by rfl) (by exact hgc) hpl (by decide) info_ProdReq hpo ?_; intro w9 cs1 hc1 kj mj; have hgb := hgb.mod mj hnc.out; have HB := Lib.hid (belowFresh HB.out mj hsc.out); clear kj mj)
          | (refine bfull_event rfl 79 (.tmp 2) (.tmp 64) rfl rfl gb 19 (headCells 0 0 0 zName) (headCells 0 0 0 zName) 79 (by rfl) (by exact congrArg Value.agg Hza.out.symm) (by exact hgb) hzl info_Call hzo ?_; intro w10 kj mj; have HB := Lib.hid (belowFresh HB.out mj hsg.out); have hgb := kj; clear kj mj)
          | fail)
        refine bodyPost_ret (results_blk rfl (by rfl) hgb Tryz.underlying79 rfl info_Call (by rfl) (v := .int .i64 r.prod.2)) rfl ?_
        exact zeroPost (Lib.hid rfl) HQ HB.out
    · have HK := Lib.hid (HD.out.trans (begDecode_fetch HE.out hk))
      have k0 : (r.key == 0) = false := by simp [hk]
      have k1 : (r.key == 1) = true := by simp [hk]
      clear hk
      go_wp2_with fail
      refine (show Calls _ _ _ _ (DecPost kFetchReq r.fetch w7) from dec_FetchReq w7 r.ver A7 c7 r.d.rest HO.out hrl).mono ?_
      rintro e w8 ⟨pc, rfl, hM, hb8⟩
      have hpl : pc.length = 6 := kFetchReq.K_len (kFetchReq.K_of_M hM)
      have hpo := kFetchReq.K_one (kFetchReq.K_of_M hM)
      have HM := Lib.hid hM
      have hgcl := Lib.hid hgc.lt
      have hgbl := Lib.hid hgb.lt
      have hgb := hgb.below hb8
      have hgc := hgc.below hb8
      have HB := Lib.hid (HB.out.trans (hb8.mono HB.out.size))
      clear hM hb8 b0 b1
      by_cases hp : r.fetch.2 = 0
      · have hp' : (r.fetch.2 != 0) = false := by simp [hp]
        have HQ := Lib.hid (HK.out.trans (if_neg (by simpa using hp)))
        clear hp
        go_wp2_with (first
          | (refine bmid_event rfl 68 (.tmp 50) (.tmp 48) rfl rfl gc 10 19 6 vs pc 79 (by rfl) (by rfl) (by exact hgc) hpl (by decide) info_FetchReq hpo ?_; intro w9 cs1 hc1 kj mj; have hgb := hgb.mod mj hnc.out; have HM := Lib.hid (M_mod HM.out mj (fun q hq e => by have := hgcl.out; omega)); have HB := Lib.hid (belowFresh HB.out mj hsc.out); have hgc := kj; clear kj mj)
          | ((with_reducible refine gate_dst (N := 66) rfl ?_); refine bload_event rfl 79 (.tmp 5) rfl gc 19 cs1 79 _ (by rfl) (by exact hgc) Tryz.underlying79 rfl info_Call ?_)
          | (refine bfull_event rfl 79 (.tmp 2) (.tmp 66) rfl rfl gb 19 (headCells 0 0 0 zName) cs1 79 (by rfl) (by rfl) (by exact hgb) hgc.len info_Call hgc.one ?_; intro w10 kj mj; have HM := Lib.hid (M_mod HM.out mj (fun q hq e => by have := hgbl.out; omega)); have HB := Lib.hid (belowFresh HB.out mj hsg.out); have hgb := kj; clear kj mj)
          | fail)
        refine bodyPost_ret (results_blk rfl (by rfl) hgb Tryz.underlying79 rfl info_Call (by rfl) (v := .int .i64 0)) rfl ?_
        refine decPost_of HQ (Lib.hid (hc1.out.trans (by rw [Hvs.out]))) (kCall_fetch (kFetchReq.M_lower ?_ HM.out)) HB.out
        have := hsb.out
        omega
      · have hp' : (r.fetch.2 != 0) = true := by simp [hp]
        have HQ := Lib.hid (HK.out.trans (if_pos hp))
        clear hp
        go_wp2_with (first
          | (refine bmid_event rfl 68 (.tmp 50) (.tmp 48) rfl rfl gc 10 19 6 vs pc 79 (by rfl) (by rfl) (by exact hgc) hpl (by decide) info_FetchReq hpo ?_; intro w9 cs1 hc1 kj mj; have hgb := hgb.mod mj hnc.out; have HB := Lib.hid (belowFresh HB.out mj hsc.out); clear kj mj)
          | (refine bfull_event rfl 79 (.tmp 2) (.tmp 64) rfl rfl gb 19 (headCells 0 0 0 zName) (headCells 0 0 0 zName) 79 (by rfl) (by exact congrArg Value.agg Hza.out.symm) (by exact hgb) hzl info_Call hzo ?_; intro w10 kj mj; have HB := Lib.hid (belowFresh HB.out mj hsg.out); have hgb := kj; clear kj mj)
          | fail)
        refine bodyPost_ret (results_blk rfl (by rfl) hgb Tryz.underlying79 rfl info_Call (by rfl) (v := .int .i64 r.fetch.2)) rfl ?_
        exact zeroPost (Lib.hid rfl) HQ HB.out
    · have HK := Lib.hid (HD.out.trans (begDecode_list HE.out hk))
      have k0 : (r.key == 0) = false := by simp [hk]
      have k1 : (r.key == 1) = false := by simp [hk]
      have k2 : (r.key == 2) = true := by simp [hk]
      clear hk
      go_wp2_with fail
      refine (show Calls _ _ _ _ (DecPost kListReq r.list w7) from dec_ListReq w7 r.ver A7 c7 r.d.rest HO.out hrl).mono ?_
      rintro e w8 ⟨pc, rfl, hM, hb8⟩
      have hpl : pc.length = 3 := kListReq.K_len (kListReq.K_of_M hM)
      have hpo := kListReq.K_one (kListReq.K_of_M hM)
      have HM := Lib.hid hM
      have hgcl := Lib.hid hgc.lt
      have hgbl := Lib.hid hgb.lt
      have hgb := hgb.below hb8
      have hgc := hgc.below hb8
      have HB := Lib.hid (HB.out.trans (hb8.mono HB.out.size))
      clear hM hb8 b0 b1
      by_cases hp : r.list.2 = 0
      · have hp' : (r.list.2 != 0) = false := by simp [hp]
        have HQ := Lib.hid (HK.out.trans (if_neg (by simpa using hp)))
        clear hp
        go_wp2_with (first
          | (refine bmid_event rfl 56 (.tmp 61) (.tmp 59) rfl rfl gc 16 19 3 vs pc 79 (by rfl) (by rfl) (by exact hgc) hpl (by decide) info_ListReq hpo ?_; intro w9 cs1 hc1 kj mj; have hgb := hgb.mod mj hnc.out; have HM := Lib.hid (M_mod HM.out mj (fun q hq e => by have := hgcl.out; omega)); have HB := Lib.hid (belowFresh HB.out mj hsc.out); have hgc := kj; clear kj mj)
          | ((with_reducible refine gate_dst (N := 66) rfl ?_); refine bload_event rfl 79 (.tmp 5) rfl gc 19 cs1 79 _ (by rfl) (by exact hgc) Tryz.underlying79 rfl info_Call ?_)
          | (refine bfull_event rfl 79 (.tmp 2) (.tmp 66) rfl rfl gb 19 (headCells 0 0 0 zName) cs1 79 (by rfl) (by rfl) (by exact hgb) hgc.len info_Call hgc.one ?_; intro w10 kj mj; have HM := Lib.hid (M_mod HM.out mj (fun q hq e => by have := hgbl.out; omega)); have HB := Lib.hid (belowFresh HB.out mj hsg.out); have hgb := kj; clear kj mj)
          | fail)
        refine bodyPost_ret (results_blk rfl (by rfl) hgb Tryz.underlying79 rfl info_Call (by rfl) (v := .int .i64 0)) rfl ?_
        refine decPost_of HQ (Lib.hid (hc1.out.trans (by rw [Hvs.out]))) (kCall_list (kListReq.M_lower ?_ HM.out)) HB.out
        have := hsb.out
        omega
      · have hp' : (r.list.2 != 0) = true := by simp [hp]
        have HQ := Lib.hid (HK.out.trans (if_pos hp))
        clear hp
        go_wp2_with (first
          | (refine bmid_event rfl 56 (.tmp 61) (.tmp 59) rfl rfl gc 16 19 3 vs pc 79 (by rfl) (by rfl) (by exact hgc) hpl (by decide) info_ListReq hpo ?_; intro w9 cs1 hc1 kj mj; have hgb := hgb.mod mj hnc.out; have HB := Lib.hid (belowFresh HB.out mj hsc.out); clear kj mj)
          | (refine bfull_event rfl 79 (.tmp 2) (.tmp 64) rfl rfl gb 19 (headCells 0 0 0 zName) (headCells 0 0 0 zName) 79 (by rfl) (by exact congrArg Value.agg Hza.out.symm) (by exact hgb) hzl info_Call hzo ?_; intro w10 kj mj; have HB := Lib.hid (belowFresh HB.out mj hsg.out); have hgb := kj; clear kj mj)
          | fail)
        refine bodyPost_ret (results_blk rfl (by rfl) hgb Tryz.underlying79 rfl info_Call (by rfl) (v := .int .i64 r.list.2)) rfl ?_
        exact zeroPost (Lib.hid rfl) HQ HB.out
  · have he' : (r.d.e != 0) = true := by simp [he]
    have HQ := Lib.hid (HD.out.trans (begDecode_bad he))
    clear he hok
    go_wp2_with (first
      | ((with_reducible refine gate_dst (N := 5) rfl ?_); refine box_event ?hg (N := 5) ?hd (cs := #[.int .i16 0, .int .i16 0, .int .i32 0, .bool false, .string ⟨#[]⟩, .bool false, .string ⟨#[]⟩, .int .i16 0, .int .i32 0, .slice none 0 0, .int .i32 0, .int .i32 0, .int .i32 0, .int .i32 0, .int .i8 0, .slice none 0 0, .int .i32 0, .int .i8 0, .slice none 0 0]) (t := 79) ?hr ?_; (case hd => rfl); (case hg => rfl); (case hr => first | (go_simp; done) | (go_simp; rfl)); intro gc hq w4 kq bq; have hgc : Blk w4 gc 79 19 (headCells 0 0 0 zName) := ⟨kq, rfl, by simp [headCells, Value.oneCell']⟩; have hnc := Lib.hid (Nat.ne_of_lt (Nat.lt_of_lt_of_le hgb.lt (Nat.le_of_eq hq.symm))); have hsc := Lib.hid (Nat.le_trans HB.out.size (Nat.le_of_eq hq.symm)); have hgb := hgb.below bq; have hR := Lib.hid (hR.out.grown bq); have HB := Lib.hid (HB.out.trans (bq.mono HB.out.size)); clear hq kq bq)
      | (refine bfull_event rfl 79 (.tmp 5) (.tmp 14) rfl rfl gc 19 (headCells 0 0 0 zName) vs 79 (by rfl) (by rfl) (by exact hgc) hvl info_Call hvo ?_; intro w5 kj mj; have hR := Lib.hid (hR.out.modAt hgc.heap (by decide) (by decide) mj); have hgb := hgb.mod mj hnc.out; have HB := Lib.hid (belowFresh HB.out mj hsc.out); have hgc := kj; clear kj mj)
      | (refine bfull_event rfl 79 (.tmp 2) (.tmp 18) rfl rfl gb 19 (headCells 0 0 0 zName) (headCells 0 0 0 zName) 79 (by rfl) (by exact congrArg Value.agg Hza.out.symm) (by exact hgb) hzl info_Call hzo ?_; intro w10 kj mj; have HB := Lib.hid (belowFresh HB.out mj hsg.out); have hgb := kj; clear kj mj)
      | fail)
    refine bodyPost_ret (results_blk rfl (by rfl) hgb Tryz.underlying79 rfl info_Call (by rfl) (v := .int .i64 r.d.e)) rfl ?_
    exact zeroPost (Lib.hid rfl) HQ HB.out

end Go.Proofs.YteckmgmcfngddaaGreat
end

section
/- The wire's writer of fields: names, blobs, its beginning and end. -/
set_option linter.unusedVariables false
set_option linter.unusedSimpArgs false
namespace Go.Proofs.YteckmgmcfngddaaGreat
open Go.RowKit Go.Proofs.YteckmgmcfngddaaGreatW.PrintWords

def ES.name (n : Name) (x : ES) : ES := if n.null = true then (if n.s.toList.isEmpty = true then x.i16 (-1) else x.fail 70) else x.str n.s

set_option maxRecDepth 100000 in
set_option maxHeartbeats 1600000 in
theorem enc_name (B : Nat) (w : World) (p : Nat) (x : ES) (n : Name) (h : EncAt B w p x) (hs : n.s.size ≤ 140737488355328) :
    Calls Tryz.prog 73 #[.pointer (some ⟨p, 0, none⟩), .agg #[.bool n.null, .string n.s]] w (EncPost B p (x.name n) w) := by
  have h1 := h.grown ((Below.refl w.heap.size w).alloc (Nat.le_refl _) (.cells #[.bool n.null, .string n.s] 30))
  have m1 : EMod B w (w.alloc (.cells #[.bool n.null, .string n.s] 30)) := EMod.of_below ((Below.refl _ _).alloc (Nat.le_refl _) _)
  cases hn : n.null with
  | true =>
    rw [hn] at h1 m1
    by_cases h0 : n.s.toList.isEmpty = true
    · have e1 : x.name n = x.i16 (-1) := by unfold ES.name; rw [if_pos hn, if_pos h0]
      rw [e1]
      clear e1
      go_enter Tryz.func73, Tryz.ntmps73
      go_wp2_with fail
      refine (enc_i16 B _ p x (-1) h1).mono ?_
      rintro e w2 ⟨rfl, h3, m3⟩
      go_wp2
      ((try simp only [Exit.inBlock, Exit.then]); first | refine bodyPost_end (results_none rfl _ _ _) rfl ?_ | refine bodyPost_ret (results_none rfl _ _ _) rfl ?_ | fail)
      exact ⟨rfl, h3, m1.trans m3⟩
    · have e1 : x.name n = x.fail 70 := by unfold ES.name; rw [if_pos hn, if_neg h0]
      have h0' : n.s.toList.isEmpty = false := by simpa using h0
      rw [e1]
      clear e1
      go_enter Tryz.func73, Tryz.ntmps73
      go_wp2_with fail
      refine (enc_fail B _ p x 70 h1).mono ?_
      rintro e w2 ⟨rfl, h3, m3⟩
      go_wp2
      ((try simp only [Exit.inBlock, Exit.then]); first | refine bodyPost_end (results_none rfl _ _ _) rfl ?_ | refine bodyPost_ret (results_none rfl _ _ _) rfl ?_ | fail)
      exact ⟨rfl, h3, m1.trans m3⟩
  | false =>
    rw [hn] at h1 m1
    have e1 : x.name n = x.str n.s := by unfold ES.name; rw [if_neg (by simp [hn])]
    rw [e1]
    clear e1
    go_enter Tryz.func73, Tryz.ntmps73
    go_wp2_with fail
    refine (enc_str B _ p x n.s h1 hs).mono ?_
    rintro e w2 ⟨rfl, h3, m3⟩
    go_wp2
    ((try simp only [Exit.inBlock, Exit.then]); first | refine bodyPost_end (results_none rfl _ _ _) rfl ?_ | refine bodyPost_ret (results_none rfl _ _ _) rfl ?_ | fail)
    exact ⟨rfl, h3, m1.trans m3⟩

theorem ints_of_C {k : IntKind} {w : World} {A : Option Addr} {n : Nat} {xs : List Int} (h : (Kd.int k).C w A n xs) : ReadsInt w k A n xs :=
  Kd.reads_of_C (enc := Value.int k) (d := (0 : Int)) (h1 := fun _ => rfl) h

def ES.blob (n : Blob) (x : ES) : ES := if n.null = true then (if n.b.length > 0 then x.fail 70 else x.i32 (-1)) else (x.i32 (wrap32 n.b.length)).put n.b

set_option maxRecDepth 100000 in
set_option maxHeartbeats 3200000 in
theorem enc_blob (w0 w : World) (p : Nat) (x : ES) (n : Blob) (A : Option Addr) (c : Nat) (h : EncAt w0.heap.size w p x) (h0 : Below w0.heap.size w0 w) (hx : ReadsInt w0 .u8 A n.b.length n.b) (hs : n.b.length ≤ 140737488355328) :
    Calls Tryz.prog 81 #[.pointer (some ⟨p, 0, none⟩), .agg #[.bool n.null, .slice A n.b.length c]] w (EncPost w0.heap.size p (x.blob n) w) := by
  have h1 := h.grown ((Below.refl w.heap.size w).alloc (Nat.le_refl _) (.cells #[.bool n.null, .slice A n.b.length c] 126))
  have m1 : EMod w0.heap.size w (w.alloc (.cells #[.bool n.null, .slice A n.b.length c] 126)) := EMod.of_below ((Below.refl _ _).alloc (Nat.le_refl _) _)
  cases hn : n.null with
  | true =>
    rw [hn] at h1 m1
    by_cases h0 : 0 < n.b.length
    · have e1 : x.blob n = x.fail 70 := by unfold ES.blob; rw [if_pos hn, if_pos h0]
      have h0' : decide (0 < n.b.length) = true := by simpa using h0
      rw [e1]
      clear e1
      go_enter Tryz.func81, Tryz.ntmps81
      go_wp2_with fail
      refine (enc_fail _ _ p x 70 h1).mono ?_
      rintro e w2 ⟨rfl, h3, m3⟩
      go_wp2
      ((try simp only [Exit.inBlock, Exit.then]); first | refine bodyPost_end (results_none rfl _ _ _) rfl ?_ | refine bodyPost_ret (results_none rfl _ _ _) rfl ?_ | fail)
      exact ⟨rfl, h3, m1.trans m3⟩
    · have e1 : x.blob n = x.i32 (-1) := by unfold ES.blob; rw [if_pos hn, if_neg h0]
      have h0' : decide (0 < n.b.length) = false := by simpa using h0
      rw [e1]
      clear e1
      go_enter Tryz.func81, Tryz.ntmps81
      go_wp2_with fail
      refine (enc_i32 _ _ p x (-1) h1).mono ?_
      rintro e w2 ⟨rfl, h3, m3⟩
      go_wp2
      ((try simp only [Exit.inBlock, Exit.then]); first | refine bodyPost_end (results_none rfl _ _ _) rfl ?_ | refine bodyPost_ret (results_none rfl _ _ _) rfl ?_ | fail)
      exact ⟨rfl, h3, m1.trans m3⟩
  | false =>
    rw [hn] at h1 m1
    have e1 : Hid (x.blob n = (x.i32 (wrap32 n.b.length)).put n.b) := Lib.hid (by unfold ES.blob; rw [if_neg (by simp [hn])])
    have hbox := blk_new w (.cells #[.bool false, .slice A n.b.length c] 126)
    have h0w := h0.alloc (B := w0.heap.size) h0.size (.cells #[.bool false, .slice A n.b.length c] 126)
    go_enter Tryz.func81, Tryz.ntmps81
    go_wp2_with fail
    refine (enc_i32 _ _ p x _ h1).mono ?_
    rintro e w2 ⟨rfl, h3, m3⟩
    have hbox2 := TMod.blk m3 hbox (by unfold EncT WrT; decide)
    have h02 := EMod.below m3 h0w (Nat.le_trans h0.size (by simp))
    have M2 := m1.trans m3
    have HX := Lib.hid (hx.below h02)
    obtain ⟨hB3, r, q, hb3, hw3⟩ := h3
    have c0 := blk_cell hb3 0
    have b1 := blk_cell hbox2 1
    simp at c0 b1
    have hw3D : WrAt w0.heap.size w2.drew r q _ 130048 := hw3
    have HXD : Hid (ReadsInt w2.drew .u8 A n.b.length n.b) := HX
    have hpD : p < w2.heap.size := blk_lt hb3
    have hqD : w.heap.size < w2.heap.size := blk_lt hbox2
    have cD : w2.drew.cell? ⟨p, 0, none⟩ = _ := c0
    have bD : w2.drew.cell? ⟨w.heap.size, 1, none⟩ = _ := b1
    have hbpA := blk_old (w := w2.drew) hb3 (.cells #[.slice A n.b.length c] 22)
    clear h1 m1 m3 hbox hbox2 h0w h02
    go_wp2_with fail
    go_region_with (first | (go_at_call 149; refine (wr_raw_new _ w2.drew r q _ 130048 22 A c n.b hw3D HXD.out hs).mono ?_; rintro e w5 ⟨rfl, q1, hw5, m5⟩; have H5 := EncAt.wrote hB3 (TMod.blk m5 hbpA encNo) hw5) | (go_at_call 185; refine (enc_noted _ w5 p _ _ H5).mono ?_; rintro e w6 ⟨rfl, h6, m6⟩) | fail)
    all_goals
      go_wp2
      ((try simp only [Exit.inBlock, Exit.then]); first | refine bodyPost_end (results_none rfl _ _ _) rfl ?_ | refine bodyPost_ret (results_none rfl _ _ _) rfl ?_ | fail)
      rw [e1.out, ES.put_eq]
      exact ⟨rfl, h6, M2.trans (EMod.trans (EMod.trans (show EMod w0.heap.size w2 w2.drew from Mod.drew (Mod.refl _ _)) (EMod.of_below ((Below.refl _ _).alloc (Nat.le_refl _) _))) (m5.enc.trans m6))⟩

/-- What a new writer of fields is like. -/
def ES.new (v : Int) : ES := (if v < 0 ∨ v > 3 then (8 : Int) else 0) |> fun e => { out := [], v := v, e := e, full := false }
theorem info_Enc : (Tryz.prog.info? 292).map (fun i => (i.zero, i.size)) = some (some (.agg #[.pointer none, .int .i64 0, .int .i64 0, .bool false]), 4) := by kernel_rfl
theorem newEnc (w : World) (v : Int) :
    Calls Tryz.prog 70 #[.int .i64 v] w fun e w' => ∃ p, e = .returned (.pointer (some ⟨p, 0, none⟩)) ∧ EncAt w.heap.size w' p (ES.new v) ∧ Below w.heap.size w w' := by
  go_enter Tryz.func70, Tryz.ntmps70
  go_wp2_with fail
  refine (newWriter w 130048 (by omega)).mono ?_
  rintro e w1 ⟨rfl, hw1, hb1⟩
  have hwA := hw1.below ((Below.refl w1.heap.size w1).alloc (Nat.le_refl _) (.cells #[.pointer (some ⟨w.heap.size, 0, none⟩), .int .i64 v, .int .i64 0, .bool false] 292))
  have hbA := blk_new w1 (.cells #[.pointer (some ⟨w.heap.size, 0, none⟩), .int .i64 v, .int .i64 0, .bool false] 292)
  have HB := hb1.alloc hb1.size (.cells #[.pointer (some ⟨w.heap.size, 0, none⟩), .int .i64 v, .int .i64 0, .bool false] 292)
  have HE : EncAt w.heap.size (w1.alloc (.cells #[.pointer (some ⟨w.heap.size, 0, none⟩), .int .i64 v, .int .i64 0, .bool false] 292)) w1.heap.size { out := [], v := v, e := 0, full := false } := ⟨hb1.size, _, _, hbA, hwA⟩
  have HS : w.heap.size ≤ (w1.alloc (.cells #[.pointer (some ⟨w.heap.size, 0, none⟩), .int .i64 v, .int .i64 0, .bool false] 292)).heap.size := by have := hb1.size; simp; omega
  clear hwA hbA hw1
  by_cases h1 : v < 0
  · have h1' : decide (v < 0) = true := by simpa using h1
    have e1 : Hid (ES.new v = ({ out := [], v := v, e := 0, full := false } : ES).fail 8) := Lib.hid (by unfold ES.new ES.fail; rw [if_pos (Or.inl h1)]; rfl)
    clear h1
    go_wp2_with fail
    refine (enc_fail _ _ _ _ 8 HE).mono ?_
    rintro e w2 ⟨rfl, h2, m2⟩
    go_wp2
    go_ret
    rw [e1.out]
    exact ⟨_, rfl, h2, EMod.below m2 HB HS⟩
  · have h1' : decide (v < 0) = false := by simpa using h1
    by_cases h2 : v > 3
    · have h2' : decide (v > 3) = true := by simpa using h2
      have e1 : Hid (ES.new v = ({ out := [], v := v, e := 0, full := false } : ES).fail 8) := Lib.hid (by unfold ES.new ES.fail; rw [if_pos (Or.inr h2)]; rfl)
      clear h1 h2
      go_wp2_with fail
      refine (enc_fail _ _ _ _ 8 HE).mono ?_
      rintro e w2 ⟨rfl, h2, m2⟩
      go_wp2
      go_ret
      rw [e1.out]
      exact ⟨_, rfl, h2, EMod.below m2 HB HS⟩
    · have h2' : decide (v > 3) = false := by simpa using h2
      have e1 : Hid (ES.new v = ({ out := [], v := v, e := 0, full := false } : ES)) := Lib.hid (by unfold ES.new; rw [if_neg (by omega)])
      clear h1 h2
      go_wp2
      go_ret
      rw [e1.out]
      exact ⟨_, rfl, HE, HB⟩

/-- What was written, and the first error. -/
def ES.done (x : ES) : List Int × Int := if x.e ≠ 0 then ([], x.e) else if x.full = true then ([], 4) else (x.out, 0)
theorem enc_done (B : Nat) (w : World) (p : Nat) (x : ES) (h : EncAt B w p x) :
    Calls Tryz.prog 82 #[.pointer (some ⟨p, 0, none⟩)] w fun e w' => ∃ v, e = .returned (.tuple #[v, .int .i64 x.done.2]) ∧ w'.ownsRow w.heap.size 5 1 v x.done.1.length (nums .u8 x.done.1) ∧ EMod B w w' := by
  have H2 := fun c => Lib.hid (h.set2 c)
  obtain ⟨hB, r, q, hb, hw⟩ := h
  have c2 := blk_cell hb 2
  have c3 := blk_cell hb 3
  have f2 := blk_frozen hb 2
  simp at c2 c3
  by_cases he : x.e = 0
  · have he' : (x.e == 0) = true := by simp [he]
    cases hf : x.full with
    | true =>
      have e1 : x.done = ([], 4) := by unfold ES.done; rw [if_neg (by simp [he]), if_pos hf]
      rw [e1]
      rw [hf] at c3
      have d2 := blk_cell (blk_set hb 2 (.int .i64 4)) 2
      simp at d2
      clear e1 he hf hb hw
      go_enter Tryz.func82, Tryz.ntmps82
      go_wp2_with fail
      go_quiet (fail)
      go_wp2
      go_ret2
      exact ⟨_, rfl, own_nil _ _ _ _, EMod.trans (H2 4).out.2 (Mod.drewN (Mod.refl _ _) _)⟩
    | false =>
      have e1 : x.done = (x.out, 0) := by unfold ES.done; rw [if_neg (by simp [he]), if_neg (by simp [hf])]
      rw [e1]
      rw [hf] at c3
      have c0 := blk_cell hb 0
      simp at c0
      clear e1 hf hb
      go_enter Tryz.func82, Tryz.ntmps82
      go_wp2_with fail
      refine (wr_bytes B w r q x.out 130048 hw).mono ?_
      rintro e w1 ⟨v, rfl, ho, hb1⟩
      obtain ⟨A1, c1, rfl⟩ := own_slice ho
      have HO := Lib.hid ho
      clear ho
      go_wp2
      go_ret2
      exact ⟨_, rfl, HO.out, EMod.of_below hb1⟩
  · have he' : (x.e == 0) = false := by simp [he]
    have e1 : x.done = ([], x.e) := by unfold ES.done; rw [if_pos he]
    rw [e1]
    clear e1 he hb hw
    go_enter Tryz.func82, Tryz.ntmps82
    go_wp2_with fail
    go_quiet (fail)
    go_wp2
    go_ret2
    exact ⟨_, rfl, own_nil _ _ _ _, Mod.drewN (Mod.refl _ _) _⟩

end Go.Proofs.YteckmgmcfngddaaGreat
end

section
/- Words for the closures that write a message's parts. -/
set_option linter.unusedVariables false
set_option linter.unusedSimpArgs false
namespace Go.Proofs.YteckmgmcfngddaaGreat
open Go.RowKit Go.Proofs.YteckmgmcfngddaaGreatW.PrintWords

/-- The encoder, the box that holds its address, and that nothing of w0 was touched. -/
structure CeAt (w0 w : World) (p bx : Nat) (x : ES) : Prop where
  enc : EncAt w0.heap.size w p x
  box : w.heap[bx]? = some (.cells #[.pointer (some ⟨p, 0, none⟩)] 141 (0, 0))
  base : Below w0.heap.size w0 w
def CePost (w0 : World) (p bx : Nat) (x : ES) (w : World) (e : Ending) (w' : World) : Prop := e = .returned (.tuple #[]) ∧ CeAt w0 w' p bx x ∧ EMod w0.heap.size w w'
theorem ptrNo : ¬ EncT 141 := by unfold EncT WrT; decide
theorem CeAt.post {w0 w w1 : World} {p bx : Nat} {x x1 : ES} (h : CeAt w0 w p bx x) (h1 : EncAt w0.heap.size w1 p x1) (m : EMod w0.heap.size w w1) : CeAt w0 w1 p bx x1 :=
  ⟨h1, TMod.blk m h.box ptrNo, EMod.below m h.base h.base.size⟩
theorem CeAt.grown {w0 w w1 : World} {p bx : Nat} {x : ES} (h : CeAt w0 w p bx x) (hb : Below w.heap.size w w1) : CeAt w0 w1 p bx x :=
  h.post (h.enc.grown hb) (EMod.of_below hb)
theorem CeAt.cell {w0 w : World} {p bx : Nat} {x : ES} (h : CeAt w0 w p bx x) : w.cell? ⟨bx, 0, none⟩ = some (.pointer (some ⟨p, 0, none⟩)) := by
  have := blk_cell h.box 0
  simpa using this
theorem CeAt.lt {w0 w : World} {p bx : Nat} {x : ES} (h : CeAt w0 w p bx x) : bx < w.heap.size := blk_lt h.box
/-- A field of some versions. -/
def ES.when (lo hi : Int) (f : ES → ES) (s : ES) : ES := if s.has lo hi = true then f s else s
/-- A list of parts: more than 16 are too many. -/
def wrItems {α : Type} (f : α → ES → ES) (xs : List α) (x : ES) : ES := if xs.length > 16 then x.fail 9 else xs.foldl (fun s t => f t s) (x.i32 xs.length)
theorem wrItems_many {α : Type} {f : α → ES → ES} {xs : List α} {x : ES} (h : xs.length > 16) : wrItems f xs x = x.fail 9 := if_pos h
theorem wrItems_ok {α : Type} {f : α → ES → ES} {xs : List α} {x : ES} (h : ¬ xs.length > 16) : wrItems f xs x = xs.foldl (fun s t => f t s) (x.i32 xs.length) := if_neg h
theorem foldl_step {α : Type} (f : α → ES → ES) (xs : List α) (x : ES) (k : Nat) (z : α) (h : k < xs.length) : (xs.take (k + 1)).foldl (fun s t => f t s) x = f (xs.getD k z) ((xs.take k).foldl (fun s t => f t s) x) := by
  rw [List.take_succ_eq_append_getElem h, List.foldl_append, List.getD_eq_getElem?_getD, List.getElem?_eq_getElem h]
  rfl

end Go.Proofs.YteckmgmcfngddaaGreat
end

section
/- Words for the functions that write messages. -/
set_option linter.unusedVariables false
set_option linter.unusedSimpArgs false
namespace Go.Proofs.YteckmgmcfngddaaGreat
open Go.RowKit Go.Proofs.YteckmgmcfngddaaGreatW.PrintWords

/-- What Encode answers: bytes of its own and a word. -/
def EncRes (r : List Int × Int) (w : World) (e : Ending) (w' : World) : Prop :=
  ∃ v, e = .returned (.tuple #[v, .int .i64 r.2]) ∧ w'.ownsRow w.heap.size 5 1 v r.1.length (nums .u8 r.1) ∧ Below w.heap.size w w'
theorem EncRes.of {r : List Int × Int} {s : ES} {w w1 wn w' : World} {v : Value} (h : s.done = r) (ho : w'.ownsRow wn.heap.size 5 1 v s.done.1.length (nums .u8 s.done.1)) (h1 : Below w.heap.size w w1) (h2 : Below w1.heap.size w1 wn) (m : EMod w1.heap.size wn w') : EncRes r w (.returned (.tuple #[v, .int .i64 s.done.2])) w' := by
  subst h
  refine ⟨v, rfl, own_weaken ho (Nat.le_trans h1.size h2.size), h1.trans ?_⟩
  have h3 := EMod.below m h2 h2.size
  exact ⟨h3.os, h3.tape, h3.output, h3.size, fun i hi => h3.block i (Nat.lt_of_lt_of_le hi h1.size)⟩
theorem CeAt.new {w1 w2 : World} {p : Nat} {s : ES} (h : EncAt w1.heap.size w2 p s) (hb : Below w1.heap.size w1 w2) : CeAt w1 (w2.alloc (.cells #[.pointer (some ⟨p, 0, none⟩)] 141)) p w2.heap.size s :=
  ⟨h.grown ((Below.refl _ _).alloc (Nat.le_refl _) _), blk_new w2 _, hb.alloc hb.size _⟩
theorem base_blk {w1 w : World} {g : Nat} {o : Obj} (h : Below w1.heap.size w1 w) (hg : w1.heap[g]? = some o) : w.heap[g]? = some o := (h.block g (blk_lt hg)).trans hg

/-- Is the name the zero of its type? -/
def zeroName (n : Name) : Bool := !n.null && n.s.toList.isEmpty
theorem run_zeroName (n : Name) (w : World) : (binOp .eql 30 (.agg #[.bool n.null, .string n.s]) (.agg #[.bool false, .string ⟨#[]⟩])).run Tryz.prog w = .ok (.bool (zeroName n)) w := by
  unfold zeroName
  cases n.null with
  | true => go_simp
  | false =>
    cases h : n.s.toList with
    | nil => go_simp
    | cons a l => go_simp

end Go.Proofs.YteckmgmcfngddaaGreat
end

section
/- The layer of calls: are the other bodies zero? -/
set_option linter.unusedVariables false
set_option linter.unusedSimpArgs false
namespace Go.Proofs.YteckmgmcfngddaaGreat
open Go.RowKit Go.Proofs.YteckmgmcfngddaaGreatW.PrintWords

/-- A call's cells. -/
def callCells (x : Call) (A0 A1 A2 : Option Addr) (c0 c1 c2 : Nat) : List Value := [.int .i16 x.key, .int .i16 x.ver, .int .i32 x.corr, .bool x.client.null, .string x.client.s, .bool x.prod.txn.null, .string x.prod.txn.s, .int .i16 x.prod.acks, .int .i32 x.prod.wait, .slice A0 x.prod.topics.length c0, .int .i32 x.fetch.replica, .int .i32 x.fetch.wait, .int .i32 x.fetch.min, .int .i32 x.fetch.max, .int .i8 x.fetch.level, .slice A1 x.fetch.topics.length c1, .int .i32 x.list.replica, .int .i8 x.list.level, .slice A2 x.list.topics.length c2]
theorem Blk.drew {w : World} {g : Nat} {t : TypeId} {n : Nat} {cs : List Value} (h : Blk w g t n cs) : Blk w.drew g t n cs := ⟨h.heap, h.len, h.one⟩
theorem Blk.alloc {w : World} {g : Nat} {t : TypeId} {n : Nat} {cs : List Value} (h : Blk w g t n cs) (o : Obj) : Blk (w.alloc o) g t n cs := ⟨blk_old h.heap o, h.len, h.one⟩
theorem keep14 {w' : World} {gb : Nat} {x : Call} {cs : List Value} {A0 A1 A2 : Option Addr} {c0 c1 c2 : Nat} (h : cs = callCells x A0 A1 A2 c0 c1 c2) (hb : Blk w' gb 79 19 cs) : w'.cell? ⟨gb, 5, none⟩ = some (.bool x.prod.txn.null) ∧ w'.cell? ⟨gb, 6, none⟩ = some (.string x.prod.txn.s) ∧ w'.cell? ⟨gb, 7, none⟩ = some (.int .i16 x.prod.acks) ∧ w'.cell? ⟨gb, 8, none⟩ = some (.int .i32 x.prod.wait) ∧ w'.cell? ⟨gb, 9, none⟩ = some (.slice A0 x.prod.topics.length c0) ∧ w'.cell? ⟨gb, 10, none⟩ = some (.int .i32 x.fetch.replica) ∧ w'.cell? ⟨gb, 11, none⟩ = some (.int .i32 x.fetch.wait) ∧ w'.cell? ⟨gb, 12, none⟩ = some (.int .i32 x.fetch.min) ∧ w'.cell? ⟨gb, 13, none⟩ = some (.int .i32 x.fetch.max) ∧ w'.cell? ⟨gb, 14, none⟩ = some (.int .i8 x.fetch.level) ∧ w'.cell? ⟨gb, 15, none⟩ = some (.slice A1 x.fetch.topics.length c1) ∧ w'.cell? ⟨gb, 16, none⟩ = some (.int .i32 x.list.replica) ∧ w'.cell? ⟨gb, 17, none⟩ = some (.int .i8 x.list.level) ∧ w'.cell? ⟨gb, 18, none⟩ = some (.slice A2 x.list.topics.length c2) := by
  subst h
  exact ⟨hb.cell rfl, hb.cell rfl, hb.cell rfl, hb.cell rfl, hb.cell rfl, hb.cell rfl, hb.cell rfl, hb.cell rfl, hb.cell rfl, hb.cell rfl, hb.cell rfl, hb.cell rfl, hb.cell rfl, hb.cell rfl⟩
def zProdB (m : ProdReq) : Bool := zeroName m.txn && (m.acks == 0 && (m.wait == 0 && (m.topics.length : Int) == 0))
def zFetchB (m : FetchReq) : Bool := m.replica == 0 && (m.wait == 0 && (m.min == 0 && (m.max == 0 && (m.level == 0 && (m.topics.length : Int) == 0))))
def zListB (m : ListReq) : Bool := m.replica == 0 && (m.level == 0 && (m.topics.length : Int) == 0)
/-- Are all bodies but the key's zero? -/
def othersF (x : Call) : Bool := (zProdB x.prod || x.key == 0) && ((zFetchB x.fetch || x.key == 1) && (zListB x.list || x.key == 2))
structure OthR (w wx : World) (gb g3 g4 g5 : Nat) (x : Call) (cs : List Value) (A0 A1 A2 : Option Addr) (c0 c1 c2 : Nat) : Prop where
  gb : Blk wx gb 79 19 cs
  b3 : wx.heap[g3]? = some (.cells #[.bool x.prod.txn.null, .string x.prod.txn.s, .int .i16 x.prod.acks, .int .i32 x.prod.wait, .slice A0 x.prod.topics.length c0] 33 (0, 0))
  b4 : wx.heap[g4]? = some (.cells #[.int .i32 x.fetch.replica, .int .i32 x.fetch.wait, .int .i32 x.fetch.min, .int .i32 x.fetch.max, .int .i8 x.fetch.level, .slice A1 x.fetch.topics.length c1] 68 (0, 0))
  b5 : wx.heap[g5]? = some (.cells #[.int .i32 x.list.replica, .int .i8 x.list.level, .slice A2 x.list.topics.length c2] 56 (0, 0))
  below : Below w.heap.size w wx
theorem OthR.world {w wx : World} {gb g3 g4 g5 : Nat} {x : Call} {cs : List Value} {A0 A1 A2 : Option Addr} {c0 c1 c2 : Nat} (_ : OthR w wx gb g3 g4 g5 x cs A0 A1 A2 c0 c1 c2) : ∃ wo : World, wo = wx := ⟨_, rfl⟩
theorem blk_drewOf {w : World} {g : Nat} {o : Obj} (h : w.heap[g]? = some o) : w.drew.heap[g]? = some o := h
theorem blk_new0 (w : World) (o : Obj) {g : Nat} (h : g = w.heap.size) : (w.alloc o).heap[g]? = some o := by rw [h]; exact blk_new w o

set_option maxRecDepth 100000 in
set_option maxHeartbeats 12800000 in
theorem ca_others (w : World) (x : Call) (cs : List Value) (A0 A1 A2 : Option Addr) (c0 c1 c2 : Nat) (h : cs = callCells x A0 A1 A2 c0 c1 c2) :
    Calls Tryz.prog 146 #[.agg cs.toArray] w (fun e w' => e = .returned (.bool (othersF x)) ∧ Below w.heap.size w w') := by
  have hl : cs.length = 19 := by rw [h]; rfl
  have ho : ∀ v ∈ cs, v.oneCell' = true := by rw [h]; simp [callCells, Value.oneCell']
  have Hcs := Lib.hid h
  have qE := fun w => run_zeroName x.prod.txn w
  clear h
  go_enter Tryz.func146, Tryz.ntmps146
  go_wp2_with (first
    | ((with_reducible refine gate_dst (N := 1) rfl ?_); refine box_event ?hg (N := 1) ?hd (cs := cs.toArray) (t := 79) ?hr ?_; (case hd => rfl); (case hg => rfl); (case hr => first | (go_simp; done) | (go_simp; rfl)); intro gb hq w1 kq bq; have hgb : Blk w1 gb 79 19 cs := ⟨kq, hl, ho⟩; have HB := Lib.hid bq; have hsg := Lib.hid (Nat.le_of_eq hq.symm); clear hq kq bq)
    | fail)
  go_upto_region 1 with (fail)
  have hgw := Lib.hid hgb
  clear hgb
  go_cut [3, 4, 5] (fun v3 v4 v5 wx => ∃ g3 g4 g5, v3 = .pointer (some ⟨g3, 0, none⟩) ∧ v4 = .pointer (some ⟨g4, 0, none⟩) ∧ v5 = .pointer (some ⟨g5, 0, none⟩) ∧ OthR w wx gb g3 g4 g5 x cs A0 A1 A2 c0 c1 c2)
  case first =>
    have hkk := keep14 Hcs.out hgw.out
    obtain ⟨q5, q6, q7, q8, q9, q10, q11, q12, q13, q14, q15, q16, q17, q18⟩ := hkk
    go_region_held3 (fun w' => w'.cell? ⟨gb, 5, none⟩ = some (.bool x.prod.txn.null) ∧ w'.cell? ⟨gb, 6, none⟩ = some (.string x.prod.txn.s) ∧ w'.cell? ⟨gb, 7, none⟩ = some (.int .i16 x.prod.acks) ∧ w'.cell? ⟨gb, 8, none⟩ = some (.int .i32 x.prod.wait) ∧ w'.cell? ⟨gb, 9, none⟩ = some (.slice A0 x.prod.topics.length c0) ∧ w'.cell? ⟨gb, 10, none⟩ = some (.int .i32 x.fetch.replica) ∧ w'.cell? ⟨gb, 11, none⟩ = some (.int .i32 x.fetch.wait) ∧ w'.cell? ⟨gb, 12, none⟩ = some (.int .i32 x.fetch.min) ∧ w'.cell? ⟨gb, 13, none⟩ = some (.int .i32 x.fetch.max) ∧ w'.cell? ⟨gb, 14, none⟩ = some (.int .i8 x.fetch.level) ∧ w'.cell? ⟨gb, 15, none⟩ = some (.slice A1 x.fetch.topics.length c1) ∧ w'.cell? ⟨gb, 16, none⟩ = some (.int .i32 x.list.replica) ∧ w'.cell? ⟨gb, 17, none⟩ = some (.int .i8 x.list.level) ∧ w'.cell? ⟨gb, 18, none⟩ = some (.slice A2 x.list.topics.length c2)) (first | (refine keep14 Hcs.out ?_; (repeat (first | (with_reducible exact hgw.out) | (with_reducible refine Blk.drew ?_) | (with_reducible refine Blk.alloc ?_ _))))) (fail)
    all_goals
      (go_wp2_with fail; go_meet; refine ⟨_, _, _, rfl, rfl, rfl, ⟨?_, ?_, ?_, ?_, ?_⟩⟩)
      · (repeat (first | (with_reducible exact hgw.out) | (with_reducible refine Blk.drew ?_) | (with_reducible refine Blk.alloc ?_ _)))
      · refine blk_drewOf ?_; (repeat (first | exact blk_new0 _ _ (by simp) | refine blk_old ?_ _))
      · refine blk_drewOf ?_; (repeat (first | exact blk_new0 _ _ (by simp) | refine blk_old ?_ _))
      · refine blk_drewOf ?_; (repeat (first | exact blk_new0 _ _ (by simp) | refine blk_old ?_ _))
      · exact HB.out.trans (((((Below.refl _ _).alloc (Nat.le_refl _) _).alloc (by simp) _).alloc (by simp; omega) _).drew.mono HB.out.size)
  case rest =>
    obtain ⟨g3, g4, g5, rfl, rfl, rfl, hR⟩ := hcut
    obtain ⟨wo, rfl⟩ := hR.world
    have b30 : wo.cell? ⟨g3, 0, none⟩ = _ := blk_cell hR.b3 0
    have b31 : wo.cell? ⟨g3, 1, none⟩ = _ := blk_cell hR.b3 1
    have b32 : wo.cell? ⟨g3, 2, none⟩ = _ := blk_cell hR.b3 2
    have b33 : wo.cell? ⟨g3, 3, none⟩ = _ := blk_cell hR.b3 3
    have b34 : wo.cell? ⟨g3, 4, none⟩ = _ := blk_cell hR.b3 4
    have b40 : wo.cell? ⟨g4, 0, none⟩ = _ := blk_cell hR.b4 0
    have b41 : wo.cell? ⟨g4, 1, none⟩ = _ := blk_cell hR.b4 1
    have b42 : wo.cell? ⟨g4, 2, none⟩ = _ := blk_cell hR.b4 2
    have b43 : wo.cell? ⟨g4, 3, none⟩ = _ := blk_cell hR.b4 3
    have b44 : wo.cell? ⟨g4, 4, none⟩ = _ := blk_cell hR.b4 4
    have b45 : wo.cell? ⟨g4, 5, none⟩ = _ := blk_cell hR.b4 5
    have b50 : wo.cell? ⟨g5, 0, none⟩ = _ := blk_cell hR.b5 0
    have b51 : wo.cell? ⟨g5, 1, none⟩ = _ := blk_cell hR.b5 1
    have b52 : wo.cell? ⟨g5, 2, none⟩ = _ := blk_cell hR.b5 2
    simp at b30 b31 b32 b33 b34 b40 b41 b42 b43 b44 b45 b50 b51 b52
    have d0 := hR.gb.cell (i := 0) (v := .int .i16 x.key) (by rw [Hcs.out]; rfl)
    have HBw := Lib.hid hR.below
    clear hR
    go_upto_region 2 with (fail)
    go_cut [6] (fun v wx1 => wo = wx1 ∧ v = .bool (zProdB x.prod))
    case first =>
      cases e0 : zeroName x.prod.txn
      · go_wp2_with fail
        go_meet
        exact ⟨rfl, by simp [zProdB, *]⟩
      · skip
        cases e1 : (x.prod.acks == 0)
        · go_wp2_with fail
          go_meet
          exact ⟨rfl, by simp [zProdB, *]⟩
        · skip
          cases e2 : (x.prod.wait == 0)
          · go_wp2_with fail
            go_meet
            exact ⟨rfl, by simp [zProdB, *]⟩
          · skip
            cases e3 : ((x.prod.topics.length : Int) == 0)
            · go_wp2_with fail
              go_meet
              exact ⟨rfl, by simp [zProdB, *]⟩
            · skip
              go_wp2_with fail
              go_meet
              exact ⟨rfl, by simp [zProdB, *]⟩
    case rest =>
    obtain ⟨rfl, rfl⟩ := hcut
    go_upto_region 3 with (fail)
    go_cut [7] (fun v wx2 => wo = wx2 ∧ v = .bool (zFetchB x.fetch))
    case first =>
      cases e0 : (x.fetch.replica == 0)
      · go_wp2_with fail
        go_meet
        exact ⟨rfl, by simp [zFetchB, *]⟩
      · skip
        cases e1 : (x.fetch.wait == 0)
        · go_wp2_with fail
          go_meet
          exact ⟨rfl, by simp [zFetchB, *]⟩
        · skip
          cases e2 : (x.fetch.min == 0)
          · go_wp2_with fail
            go_meet
            exact ⟨rfl, by simp [zFetchB, *]⟩
          · skip
            cases e3 : (x.fetch.max == 0)
            · go_wp2_with fail
              go_meet
              exact ⟨rfl, by simp [zFetchB, *]⟩
            · skip
              cases e4 : (x.fetch.level == 0)
              · go_wp2_with fail
                go_meet
                exact ⟨rfl, by simp [zFetchB, *]⟩
              · skip
                cases e5 : ((x.fetch.topics.length : Int) == 0)
                · go_wp2_with fail
                  go_meet
                  exact ⟨rfl, by simp [zFetchB, *]⟩
                · skip
                  go_wp2_with fail
                  go_meet
                  exact ⟨rfl, by simp [zFetchB, *]⟩
    case rest =>
    obtain ⟨rfl, rfl⟩ := hcut
    go_upto_region 4 with (fail)
    go_cut [8] (fun v wx3 => wo = wx3 ∧ v = .bool (zListB x.list))
    case first =>
      cases e0 : (x.list.replica == 0)
      · go_wp2_with fail
        go_meet
        exact ⟨rfl, by simp [zListB, *]⟩
      · skip
        cases e1 : (x.list.level == 0)
        · go_wp2_with fail
          go_meet
          exact ⟨rfl, by simp [zListB, *]⟩
        · skip
          cases e2 : ((x.list.topics.length : Int) == 0)
          · go_wp2_with fail
            go_meet
            exact ⟨rfl, by simp [zListB, *]⟩
          · skip
            go_wp2_with fail
            go_meet
            exact ⟨rfl, by simp [zListB, *]⟩
    case rest =>
    obtain ⟨rfl, rfl⟩ := hcut
    cases p1 : zProdB x.prod
    all_goals cases p2 : zFetchB x.fetch
    all_goals cases p3 : zListB x.list
    all_goals
      go_wp2
      all_goals
        go_ret
        exact ⟨by simp [othersF, *], HBw.out⟩

end Go.Proofs.YteckmgmcfngddaaGreat
end

section
/- The writer of a part, and of a list of it: ProdPart. -/
set_option linter.unusedVariables false
set_option linter.unusedSimpArgs false
namespace Go.Proofs.YteckmgmcfngddaaGreat
open Go.RowKit Go.Proofs.YteckmgmcfngddaaGreatW.PrintWords

def wrProdPart (t : ProdPart) (x : ES) : ES := (ES.blob t.recs (ES.i32 t.index x))
def okProdPart (t : ProdPart) : Prop := t.recs.b.length ≤ 140737488355328
def zProdPart : ProdPart := ⟨0, ⟨false, []⟩⟩

set_option maxRecDepth 100000 in
set_option maxHeartbeats 6400000 in
theorem ce_ProdPart (w0 w : World) (p bx : Nat) (x : ES) (t : ProdPart) (A0 : Option Addr) (c0 : Nat) (h : CeAt w0 w p bx x) (g0 : (Kd.int .u8).C w0 A0 t.recs.b.length t.recs.b) (hok : okProdPart t) :
    Calls Tryz.prog 80 #[.agg #[.int .i32 t.index, .bool t.recs.null, .slice A0 t.recs.b.length c0], .pointer (some ⟨bx, 0, none⟩)] w (CePost w0 p bx (wrProdPart t x) w) := by
  have hmf : ∀ (fn : Fn) (first cap : Array Value) (w : World), (Instr.makeFunc fn first cap).run Tryz.prog w = .ok (.func fn first cap) w := fun _ _ _ _ => rfl
  have H := Lib.hid h
  have G0 := Lib.hid g0
  have OK0 := Lib.hid hok
  clear h hok g0
  go_enter Tryz.func80, Tryz.ntmps80
  go_wp2_with (first
    | ((with_reducible refine gate_dst (N := 2) rfl ?_); refine box_event ?hg (N := 2) ?hd (cs := #[.int .i32 t.index, .bool t.recs.null, .slice A0 t.recs.b.length c0]) (t := 128) ?hr ?_; (case hd => rfl); (case hg => rfl); (case hr => first | (go_simp; done) | (go_simp; rfl)); intro gb hgb w1 kgb bgb; have hc := Lib.hid (H.out.grown bgb); have hm : EMod w0.heap.size w w1 := EMod.of_below bgb; have hg := Lib.hid kgb; have cx := hc.out.cell; have b0 := blk_cell hg.out 0; have b1 := blk_cell hg.out 1; have b2 := blk_cell hg.out 2; simp at b0 b1 b2; clear hgb kgb bgb)
    | (go_at_call 75; refine (enc_i32 _ _ p _ _ (by exact hc.out.enc)).mono ?_; rintro e wn ⟨rfl, h2, m2⟩; have hc := Lib.hid (hc.out.post h2 m2); have hg := Lib.hid (TMod.blk m2 hg.out (by unfold EncT WrT; decide)); have hm := hm.trans m2; have cx := hc.out.cell; have b0 := blk_cell hg.out 0; have b1 := blk_cell hg.out 1; have b2 := blk_cell hg.out 2; simp at b0 b1 b2; clear h2 m2)
    | (go_at_call 81; refine (enc_blob w0 _ p _ t.recs A0 c0 (by exact hc.out.enc) hc.out.base (ints_of_C G0.out) OK0.out).mono ?_; rintro e wn ⟨rfl, h2, m2⟩; have hc := Lib.hid (hc.out.post h2 m2); have hg := Lib.hid (TMod.blk m2 hg.out (by unfold EncT WrT; decide)); have hm := hm.trans m2; have cx := hc.out.cell; have b0 := blk_cell hg.out 0; have b1 := blk_cell hg.out 1; have b2 := blk_cell hg.out 2; simp at b0 b1 b2; clear h2 m2)
    | fail)
  all_goals
    go_wp2
    ((try simp only [Exit.inBlock, Exit.then]); first | refine bodyPost_end (results_none rfl _ _ _) rfl ?_ | refine bodyPost_ret (results_none rfl _ _ _) rfl ?_ | fail)
    exact ⟨rfl, hc.out, hm⟩

set_option maxRecDepth 100000 in
set_option maxHeartbeats 6400000 in
theorem ce_items_ProdPart (w0 w : World) (p bx : Nat) (x : ES) (xs : List ProdPart) (A : Option Addr) (c : Nat) (h : CeAt w0 w p bx x) (hA : kProdPart.C w0 A xs.length xs) (hok : ∀ t ∈ xs, okProdPart t) :
    Calls Tryz.prog 79 #[.pointer (some ⟨p, 0, none⟩), .slice A xs.length c, .func (.func 80) #[] #[.pointer (some ⟨bx, 0, none⟩)]] w (CePost w0 p bx (wrItems wrProdPart xs x) w) := by
  by_cases hl : 16 < xs.length
  · have hl' : decide (16 < xs.length) = true := by simpa using hl
    have HQ := Lib.hid (wrItems_many (f := wrProdPart) (x := x) hl)
    go_enter Tryz.func79, Tryz.ntmps79
    go_wp2_with fail
    refine (enc_fail _ _ p x 9 h.enc).mono ?_
    rintro e w1 ⟨rfl, h2, m2⟩
    go_wp2
    ((try simp only [Exit.inBlock, Exit.then]); first | refine bodyPost_end (results_none rfl _ _ _) rfl ?_ | refine bodyPost_ret (results_none rfl _ _ _) rfl ?_ | fail)
    rw [HQ.out]
    exact ⟨rfl, h.post h2 m2, m2⟩
  · have hl' : decide (16 < xs.length) = false := by simpa using hl
    have HQ := Lib.hid (wrItems_ok (f := wrProdPart) (x := x) hl)
    have hle : xs.length ≤ 16 := by omega
    go_enter Tryz.func79, Tryz.ntmps79
    go_wp2_with fail
    refine (enc_i32 _ _ p x _ h.enc).mono ?_
    rintro e w1 ⟨rfl, h2, m2⟩
    have hc := h.post h2 m2
    clear h h2 hl
    go_wp2_with fail
    go_loopg [20] xs.length (fun gk v20 wr => ∃ k : Nat, v20 = .int .i64 k ∧ Hid (k + gk = xs.length) ∧ k ≤ 16 ∧ CeAt w0 wr p bx ((xs.take k).foldl (fun s t => wrProdPart t s) (x.i32 xs.length)) ∧ EMod w0.heap.size w wr)
    case atStart => exact ⟨0, rfl, Lib.hid (by omega), by omega, hc, m2⟩
    case round =>
      obtain ⟨k, rfl, hgk, hk16, hcr, hmr⟩ := hrel
      clear hc m2
      by_cases hlt : k < xs.length
      · obtain ⟨j, rfl⟩ : ∃ j, gk = j + 1 := ⟨gk - 1, by have := hgk.out; omega⟩
        obtain ⟨ad, cs, rfl, hcl, hK, hcell⟩ := Kd.C_get hA zProdPart (k : Int) (by omega) (by omega)
        obtain ⟨A0, c0, rfl, l0, g0⟩ := kProdPart_openK hK
        have hsK := Lib.hid (foldl_step wrProdPart xs (x.i32 xs.length) k zProdPart hlt)
        have hokk : okProdPart (xs.getD k zProdPart) := hok _ (by rw [List.getD_eq_getElem?_getD, List.getElem?_eq_getElem hlt]; exact List.getElem_mem hlt)
        have d0 : wr.cell? (ad.add (k * 3)) = some (.int .i32 (xs.getD k zProdPart).index) := pw_cell_below hcr.base (hcell 0 _ rfl)
        have d1 : wr.cell? ⟨(ad.add (k * 3)).block, (ad.add (k * 3)).off + 1, none⟩ = some (.bool (xs.getD k zProdPart).recs.null) := by rw [← add_field ad (k * 3) 1 (by omega)]; exact pw_cell_below hcr.base (hcell 1 _ rfl)
        have d2 : wr.cell? ⟨(ad.add (k * 3)).block, (ad.add (k * 3)).off + 2, none⟩ = some (.slice A0 (xs.getD k zProdPart).recs.b.length c0) := by rw [← add_field ad (k * 3) 2 (by omega)]; exact pw_cell_below hcr.base (hcell 2 _ rfl)
        have g0' : (Kd.int .u8).C w0 A0 (xs.getD k zProdPart).recs.b.length (xs.getD k zProdPart).recs.b := g0
        clear hcell hcl hK g0
        generalize hgt : xs.getD k zProdPart = t at *
        have q0 : (0 : Int) ≤ (k : Int) := by omega
        have q1 : (k : Int) < (xs.length : Int) := by omega
        go_wp2_with fail
        refine (ce_ProdPart w0 _ p bx _ t A0 c0 (hcr.grown ((Below.refl _ _).alloc (Nat.le_refl _) _)) g0' hokk).mono ?_
        rintro e w2 ⟨rfl, h3, m3⟩
        have m4 : EMod w0.heap.size w w2 := hmr.trans (EMod.trans (EMod.of_below ((Below.refl _ _).alloc (Nat.le_refl _) _)) m3)
        clear d0 d1 d2 hcr hmr m3
        go_wp2
        go_roundg j
        case measure => omega
        case rel => exact ⟨k + 1, by go_num, Lib.hid (by have := hgk.out; omega), by omega, by rw [hsK.out]; exact h3, m4⟩
      · have hend : k = xs.length := by have := hgk.out; omega
        have hlt' : decide ((k : Int) < (xs.length : Int)) = false := by simp; omega
        go_wp2
        ((try simp only [Exit.inBlock, Exit.then]); first | refine bodyPost_end (results_none rfl _ _ _) rfl ?_ | refine bodyPost_ret (results_none rfl _ _ _) rfl ?_ | fail)
        rw [HQ.out]
        rw [hend, List.take_length] at hcr
        exact ⟨rfl, hcr, hmr⟩

end Go.Proofs.YteckmgmcfngddaaGreat
end

section
/- The writer of a part, and of a list of it: ProdTopic. -/
set_option linter.unusedVariables false
set_option linter.unusedSimpArgs false
namespace Go.Proofs.YteckmgmcfngddaaGreat
open Go.RowKit Go.Proofs.YteckmgmcfngddaaGreatW.PrintWords

def wrProdTopic (t : ProdTopic) (x : ES) : ES := (wrItems wrProdPart t.parts (ES.str t.name x))
def okProdTopic (t : ProdTopic) : Prop := t.name.size ≤ 140737488355328 ∧ ∀ y ∈ t.parts, okProdPart y
def zProdTopic : ProdTopic := ⟨⟨#[]⟩, []⟩

set_option maxRecDepth 100000 in
set_option maxHeartbeats 6400000 in
theorem ce_ProdTopic (w0 w : World) (p bx : Nat) (x : ES) (t : ProdTopic) (A0 : Option Addr) (c0 : Nat) (h : CeAt w0 w p bx x) (g0 : kProdPart.C w0 A0 t.parts.length t.parts) (hok : okProdTopic t) :
    Calls Tryz.prog 77 #[.agg #[.string t.name, .slice A0 t.parts.length c0], .pointer (some ⟨bx, 0, none⟩)] w (CePost w0 p bx (wrProdTopic t x) w) := by
  have hmf : ∀ (fn : Fn) (first cap : Array Value) (w : World), (Instr.makeFunc fn first cap).run Tryz.prog w = .ok (.func fn first cap) w := fun _ _ _ _ => rfl
  have H := Lib.hid h
  have G0 := Lib.hid g0
  have OK0 := Lib.hid hok.1
  have OK1 := Lib.hid hok.2
  clear h hok g0
  go_enter Tryz.func77, Tryz.ntmps77
  go_wp2_with (first
    | ((with_reducible refine gate_dst (N := 2) rfl ?_); refine box_event ?hg (N := 2) ?hd (cs := #[.string t.name, .slice A0 t.parts.length c0]) (t := 122) ?hr ?_; (case hd => rfl); (case hg => rfl); (case hr => first | (go_simp; done) | (go_simp; rfl)); intro gb hgb w1 kgb bgb; have hc := Lib.hid (H.out.grown bgb); have hm : EMod w0.heap.size w w1 := EMod.of_below bgb; have hg := Lib.hid kgb; have cx := hc.out.cell; have b0 := blk_cell hg.out 0; have b1 := blk_cell hg.out 1; simp at b0 b1; clear hgb kgb bgb)
    | (go_at_call 78; refine (enc_str _ _ p _ _ (by exact hc.out.enc) OK0.out).mono ?_; rintro e wn ⟨rfl, h2, m2⟩; have hc := Lib.hid (hc.out.post h2 m2); have hg := Lib.hid (TMod.blk m2 hg.out (by unfold EncT WrT; decide)); have hm := hm.trans m2; have cx := hc.out.cell; have b0 := blk_cell hg.out 0; have b1 := blk_cell hg.out 1; simp at b0 b1; clear h2 m2)
    | (go_at_call 79; refine (ce_items_ProdPart w0 _ p bx _ t.parts A0 c0 (by exact hc.out) G0.out OK1.out).mono ?_; rintro e wn ⟨rfl, h2, m2⟩; have hc := Lib.hid h2; have hg := Lib.hid (TMod.blk m2 hg.out (by unfold EncT WrT; decide)); have hm := hm.trans m2; have cx := hc.out.cell; have b0 := blk_cell hg.out 0; have b1 := blk_cell hg.out 1; simp at b0 b1; clear h2 m2)
    | fail)
  all_goals
    go_wp2
    ((try simp only [Exit.inBlock, Exit.then]); first | refine bodyPost_end (results_none rfl _ _ _) rfl ?_ | refine bodyPost_ret (results_none rfl _ _ _) rfl ?_ | fail)
    exact ⟨rfl, hc.out, hm⟩

set_option maxRecDepth 100000 in
set_option maxHeartbeats 6400000 in
theorem ce_items_ProdTopic (w0 w : World) (p bx : Nat) (x : ES) (xs : List ProdTopic) (A : Option Addr) (c : Nat) (h : CeAt w0 w p bx x) (hA : kProdTopic.C w0 A xs.length xs) (hok : ∀ t ∈ xs, okProdTopic t) :
    Calls Tryz.prog 76 #[.pointer (some ⟨p, 0, none⟩), .slice A xs.length c, .func (.func 77) #[] #[.pointer (some ⟨bx, 0, none⟩)]] w (CePost w0 p bx (wrItems wrProdTopic xs x) w) := by
  by_cases hl : 16 < xs.length
  · have hl' : decide (16 < xs.length) = true := by simpa using hl
    have HQ := Lib.hid (wrItems_many (f := wrProdTopic) (x := x) hl)
    go_enter Tryz.func76, Tryz.ntmps76
    go_wp2_with fail
    refine (enc_fail _ _ p x 9 h.enc).mono ?_
    rintro e w1 ⟨rfl, h2, m2⟩
    go_wp2
    ((try simp only [Exit.inBlock, Exit.then]); first | refine bodyPost_end (results_none rfl _ _ _) rfl ?_ | refine bodyPost_ret (results_none rfl _ _ _) rfl ?_ | fail)
    rw [HQ.out]
    exact ⟨rfl, h.post h2 m2, m2⟩
  · have hl' : decide (16 < xs.length) = false := by simpa using hl
    have HQ := Lib.hid (wrItems_ok (f := wrProdTopic) (x := x) hl)
    have hle : xs.length ≤ 16 := by omega
    go_enter Tryz.func76, Tryz.ntmps76
    go_wp2_with fail
    refine (enc_i32 _ _ p x _ h.enc).mono ?_
    rintro e w1 ⟨rfl, h2, m2⟩
    have hc := h.post h2 m2
    clear h h2 hl
    go_wp2_with fail
    go_loopg [20] xs.length (fun gk v20 wr => ∃ k : Nat, v20 = .int .i64 k ∧ Hid (k + gk = xs.length) ∧ k ≤ 16 ∧ CeAt w0 wr p bx ((xs.take k).foldl (fun s t => wrProdTopic t s) (x.i32 xs.length)) ∧ EMod w0.heap.size w wr)
    case atStart => exact ⟨0, rfl, Lib.hid (by omega), by omega, hc, m2⟩
    case round =>
      obtain ⟨k, rfl, hgk, hk16, hcr, hmr⟩ := hrel
      clear hc m2
      by_cases hlt : k < xs.length
      · obtain ⟨j, rfl⟩ : ∃ j, gk = j + 1 := ⟨gk - 1, by have := hgk.out; omega⟩
        obtain ⟨ad, cs, rfl, hcl, hK, hcell⟩ := Kd.C_get hA zProdTopic (k : Int) (by omega) (by omega)
        obtain ⟨A0, c0, rfl, l0, g0⟩ := kProdTopic_openK hK
        have hsK := Lib.hid (foldl_step wrProdTopic xs (x.i32 xs.length) k zProdTopic hlt)
        have hokk : okProdTopic (xs.getD k zProdTopic) := hok _ (by rw [List.getD_eq_getElem?_getD, List.getElem?_eq_getElem hlt]; exact List.getElem_mem hlt)
        have d0 : wr.cell? (ad.add (k * 2)) = some (.string (xs.getD k zProdTopic).name) := pw_cell_below hcr.base (hcell 0 _ rfl)
        have d1 : wr.cell? ⟨(ad.add (k * 2)).block, (ad.add (k * 2)).off + 1, none⟩ = some (.slice A0 (xs.getD k zProdTopic).parts.length c0) := by rw [← add_field ad (k * 2) 1 (by omega)]; exact pw_cell_below hcr.base (hcell 1 _ rfl)
        have g0' : kProdPart.C w0 A0 (xs.getD k zProdTopic).parts.length (xs.getD k zProdTopic).parts := g0
        clear hcell hcl hK g0
        generalize hgt : xs.getD k zProdTopic = t at *
        have q0 : (0 : Int) ≤ (k : Int) := by omega
        have q1 : (k : Int) < (xs.length : Int) := by omega
        go_wp2_with fail
        refine (ce_ProdTopic w0 _ p bx _ t A0 c0 (hcr.grown ((Below.refl _ _).alloc (Nat.le_refl _) _)) g0' hokk).mono ?_
        rintro e w2 ⟨rfl, h3, m3⟩
        have m4 : EMod w0.heap.size w w2 := hmr.trans (EMod.trans (EMod.of_below ((Below.refl _ _).alloc (Nat.le_refl _) _)) m3)
        clear d0 d1 hcr hmr m3
        go_wp2
        go_roundg j
        case measure => omega
        case rel => exact ⟨k + 1, by go_num, Lib.hid (by have := hgk.out; omega), by omega, by rw [hsK.out]; exact h3, m4⟩
      · have hend : k = xs.length := by have := hgk.out; omega
        have hlt' : decide ((k : Int) < (xs.length : Int)) = false := by simp; omega
        go_wp2
        ((try simp only [Exit.inBlock, Exit.then]); first | refine bodyPost_end (results_none rfl _ _ _) rfl ?_ | refine bodyPost_ret (results_none rfl _ _ _) rfl ?_ | fail)
        rw [HQ.out]
        rw [hend, List.take_length] at hcr
        exact ⟨rfl, hcr, hmr⟩

end Go.Proofs.YteckmgmcfngddaaGreat
end

section
/- Encode of a message: ProdReq. -/
set_option linter.unusedVariables false
set_option linter.unusedSimpArgs false
namespace Go.Proofs.YteckmgmcfngddaaGreat
open Go.RowKit Go.Proofs.YteckmgmcfngddaaGreatW.PrintWords

def encProdReq (v : Int) (m : ProdReq) : List Int × Int := ((wrItems wrProdTopic m.topics (ES.i32 m.wait (ES.i16 m.acks (ES.when 3 3 (fun s => (ES.name m.txn s)) (ES.lacks (zeroName m.txn) 3 3 (ES.new v))))))).done
def okProdReq (m : ProdReq) : Prop := m.txn.s.size ≤ 140737488355328 ∧ ∀ y ∈ m.topics, okProdTopic y

set_option maxRecDepth 100000 in
set_option maxHeartbeats 12800000 in
theorem eo_ProdReq (w : World) (v : Int) (m : ProdReq) (A0 : Option Addr) (c0 : Nat) (g0 : kProdTopic.C w A0 m.topics.length m.topics) (hok : okProdReq m) :
    Calls Tryz.prog 16 #[.int .i64 v, .agg #[.bool m.txn.null, .string m.txn.s, .int .i16 m.acks, .int .i32 m.wait, .slice A0 m.topics.length c0]] w (EncRes (encProdReq v m) w) := by
  have hmf : ∀ (fn : Fn) (first cap : Array Value) (w : World), (Instr.makeFunc fn first cap).run Tryz.prog w = .ok (.func fn first cap) w := fun _ _ _ _ => rfl
  have qE := fun w => run_zeroName m.txn w
  have OKN := Lib.hid hok.1
  have OK0 := Lib.hid hok.2
  have hmax := Kd.C_max g0
  clear hok
  go_enter Tryz.func16, Tryz.ntmps16
  go_wp2_with (first
    | ((with_reducible refine gate_dst (N := 3) rfl ?_); refine box_event ?hg (N := 3) ?hd (cs := #[.bool m.txn.null, .string m.txn.s, .int .i16 m.acks, .int .i32 m.wait, .slice A0 m.topics.length c0]) (t := 33) ?hr ?_; (case hd => rfl); (case hg => rfl); (case hr => first | (go_simp; done) | (go_simp; rfl)); intro gb hgb w1 kgb bgb; have G0 := Lib.hid (Kd.C_below g0 bgb); have hg1 := Lib.hid kgb; have HB1 := Lib.hid bgb; clear hgb kgb bgb)
    | (go_at_call 70; refine (newEnc w1 v).mono ?_; rintro e w2 ⟨p, rfl, hE, hB⟩; have hc := Lib.hid (CeAt.new hE hB); have hg := Lib.hid (base_blk hc.out.base hg1.out); have cx := hc.out.cell; have b0 := blk_cell hg.out 0; have b1 := blk_cell hg.out 1; have b2 := blk_cell hg.out 2; have b3 := blk_cell hg.out 3; have b4 := blk_cell hg.out 4; simp at b0 b1 b2 b3 b4; clear hE hB)
    | (go_at_call 71; refine (enc_lacks _ _ p _ _ _ _ (by exact hc.out.enc)).mono ?_; rintro e wn ⟨rfl, h2, m2⟩; have hc := Lib.hid (hc.out.post h2 m2); have hg := Lib.hid (TMod.blk m2 hg.out (by unfold EncT WrT; decide)); have cx := hc.out.cell; have b0 := blk_cell hg.out 0; have b1 := blk_cell hg.out 1; have b2 := blk_cell hg.out 2; have b3 := blk_cell hg.out 3; have b4 := blk_cell hg.out 4; simp at b0 b1 b2 b3 b4; clear h2 m2)
    | (go_at_call 72; refine (enc_has _ _ p _ _ _ (by exact hc.out.enc)).mono ?_; rintro e wn ⟨rfl, rfl⟩)
    | (go_at_call 73; refine (enc_name _ _ p _ m.txn (by exact hc.out.enc) OKN.out).mono ?_; rintro e wn ⟨rfl, h2, m2⟩; have hc := Lib.hid (hc.out.post h2 m2); have hg := Lib.hid (TMod.blk m2 hg.out (by unfold EncT WrT; decide)); have cx := hc.out.cell; have b0 := blk_cell hg.out 0; have b1 := blk_cell hg.out 1; have b2 := blk_cell hg.out 2; have b3 := blk_cell hg.out 3; have b4 := blk_cell hg.out 4; simp at b0 b1 b2 b3 b4; clear h2 m2)
    | (go_at_call 74; refine (enc_i16 _ _ p _ _ (by exact hc.out.enc)).mono ?_; rintro e wn ⟨rfl, h2, m2⟩; have hc := Lib.hid (hc.out.post h2 m2); have hg := Lib.hid (TMod.blk m2 hg.out (by unfold EncT WrT; decide)); have cx := hc.out.cell; have b0 := blk_cell hg.out 0; have b1 := blk_cell hg.out 1; have b2 := blk_cell hg.out 2; have b3 := blk_cell hg.out 3; have b4 := blk_cell hg.out 4; simp at b0 b1 b2 b3 b4; clear h2 m2)
    | (go_at_call 75; refine (enc_i32 _ _ p _ _ (by exact hc.out.enc)).mono ?_; rintro e wn ⟨rfl, h2, m2⟩; have hc := Lib.hid (hc.out.post h2 m2); have hg := Lib.hid (TMod.blk m2 hg.out (by unfold EncT WrT; decide)); have cx := hc.out.cell; have b0 := blk_cell hg.out 0; have b1 := blk_cell hg.out 1; have b2 := blk_cell hg.out 2; have b3 := blk_cell hg.out 3; have b4 := blk_cell hg.out 4; simp at b0 b1 b2 b3 b4; clear h2 m2)
    | (go_at_call 76; refine (ce_items_ProdTopic w1 _ p _ _ m.topics A0 c0 (by exact hc.out) G0.out OK0.out).mono ?_; rintro e wn ⟨rfl, h2, m2⟩; have hc := Lib.hid h2; have hg := Lib.hid (TMod.blk m2 hg.out (by unfold EncT WrT; decide)); have cx := hc.out.cell; have b0 := blk_cell hg.out 0; have b1 := blk_cell hg.out 1; have b2 := blk_cell hg.out 2; have b3 := blk_cell hg.out 3; have b4 := blk_cell hg.out 4; simp at b0 b1 b2 b3 b4; clear h2 m2)
    | (go_at_call 82; refine (enc_done _ _ p _ (by exact hc.out.enc)).mono ?_; rintro e wn ⟨vv, rfl, ho, m2⟩; obtain ⟨AA, cc, rfl⟩ := own_slice ho; have HO := Lib.hid ho; have hM := Lib.hid m2; clear ho m2)
    | fail)
  generalize hW : w2.alloc (.cells #[.pointer (some ⟨p, 0, none⟩)] 141) = W at *
  go_still_tail 5, (by kernel_rfl)
  change wpList _ _ _ _ _ W.drew
  have hc := Lib.hid (hc.out.grown ((Below.refl W.heap.size W).drew))
  have hg := Lib.hid (show W.drew.heap[gb]? = _ from hg.out)
  go_wp2_with (first
    | ((with_reducible refine gate_dst (N := 3) rfl ?_); refine box_event ?hg (N := 3) ?hd (cs := #[.bool m.txn.null, .string m.txn.s, .int .i16 m.acks, .int .i32 m.wait, .slice A0 m.topics.length c0]) (t := 33) ?hr ?_; (case hd => rfl); (case hg => rfl); (case hr => first | (go_simp; done) | (go_simp; rfl)); intro gb hgb w1 kgb bgb; have G0 := Lib.hid (Kd.C_below g0 bgb); have hg1 := Lib.hid kgb; have HB1 := Lib.hid bgb; clear hgb kgb bgb)
    | (go_at_call 70; refine (newEnc w1 v).mono ?_; rintro e w2 ⟨p, rfl, hE, hB⟩; have hc := Lib.hid (CeAt.new hE hB); have hg := Lib.hid (base_blk hc.out.base hg1.out); have cx := hc.out.cell; have b0 := blk_cell hg.out 0; have b1 := blk_cell hg.out 1; have b2 := blk_cell hg.out 2; have b3 := blk_cell hg.out 3; have b4 := blk_cell hg.out 4; simp at b0 b1 b2 b3 b4; clear hE hB)
    | (go_at_call 71; refine (enc_lacks _ _ p _ _ _ _ (by exact hc.out.enc)).mono ?_; rintro e wn ⟨rfl, h2, m2⟩; have hc := Lib.hid (hc.out.post h2 m2); have hg := Lib.hid (TMod.blk m2 hg.out (by unfold EncT WrT; decide)); have cx := hc.out.cell; have b0 := blk_cell hg.out 0; have b1 := blk_cell hg.out 1; have b2 := blk_cell hg.out 2; have b3 := blk_cell hg.out 3; have b4 := blk_cell hg.out 4; simp at b0 b1 b2 b3 b4; clear h2 m2)
    | (go_at_call 72; refine (enc_has _ _ p _ _ _ (by exact hc.out.enc)).mono ?_; rintro e wn ⟨rfl, rfl⟩)
    | (go_at_call 73; refine (enc_name _ _ p _ m.txn (by exact hc.out.enc) OKN.out).mono ?_; rintro e wn ⟨rfl, h2, m2⟩; have hc := Lib.hid (hc.out.post h2 m2); have hg := Lib.hid (TMod.blk m2 hg.out (by unfold EncT WrT; decide)); have cx := hc.out.cell; have b0 := blk_cell hg.out 0; have b1 := blk_cell hg.out 1; have b2 := blk_cell hg.out 2; have b3 := blk_cell hg.out 3; have b4 := blk_cell hg.out 4; simp at b0 b1 b2 b3 b4; clear h2 m2)
    | (go_at_call 74; refine (enc_i16 _ _ p _ _ (by exact hc.out.enc)).mono ?_; rintro e wn ⟨rfl, h2, m2⟩; have hc := Lib.hid (hc.out.post h2 m2); have hg := Lib.hid (TMod.blk m2 hg.out (by unfold EncT WrT; decide)); have cx := hc.out.cell; have b0 := blk_cell hg.out 0; have b1 := blk_cell hg.out 1; have b2 := blk_cell hg.out 2; have b3 := blk_cell hg.out 3; have b4 := blk_cell hg.out 4; simp at b0 b1 b2 b3 b4; clear h2 m2)
    | (go_at_call 75; refine (enc_i32 _ _ p _ _ (by exact hc.out.enc)).mono ?_; rintro e wn ⟨rfl, h2, m2⟩; have hc := Lib.hid (hc.out.post h2 m2); have hg := Lib.hid (TMod.blk m2 hg.out (by unfold EncT WrT; decide)); have cx := hc.out.cell; have b0 := blk_cell hg.out 0; have b1 := blk_cell hg.out 1; have b2 := blk_cell hg.out 2; have b3 := blk_cell hg.out 3; have b4 := blk_cell hg.out 4; simp at b0 b1 b2 b3 b4; clear h2 m2)
    | (go_at_call 76; refine (ce_items_ProdTopic w1 _ p _ _ m.topics A0 c0 (by exact hc.out) G0.out OK0.out).mono ?_; rintro e wn ⟨rfl, h2, m2⟩; have hc := Lib.hid h2; have hg := Lib.hid (TMod.blk m2 hg.out (by unfold EncT WrT; decide)); have cx := hc.out.cell; have b0 := blk_cell hg.out 0; have b1 := blk_cell hg.out 1; have b2 := blk_cell hg.out 2; have b3 := blk_cell hg.out 3; have b4 := blk_cell hg.out 4; simp at b0 b1 b2 b3 b4; clear h2 m2)
    | (go_at_call 82; refine (enc_done _ _ p _ (by exact hc.out.enc)).mono ?_; rintro e wn ⟨vv, rfl, ho, m2⟩; obtain ⟨AA, cc, rfl⟩ := own_slice ho; have HO := Lib.hid ho; have hM := Lib.hid m2; clear ho m2)
    | fail)
  all_goals
    go_wp2
    go_ret2
    exact EncRes.of (by simp [encProdReq, ES.when, *]) HO.out HB1.out hc.out.base hM.out

end Go.Proofs.YteckmgmcfngddaaGreat
end

section
/- The writer of a part, and of a list of it: ProdDone. -/
set_option linter.unusedVariables false
set_option linter.unusedSimpArgs false
namespace Go.Proofs.YteckmgmcfngddaaGreat
open Go.RowKit Go.Proofs.YteckmgmcfngddaaGreatW.PrintWords

def wrProdDone (t : ProdDone) (x : ES) : ES := (ES.when 3 3 (fun s => (ES.i64 t.start s)) (ES.when 2 3 (fun s => (ES.i64 t.time s)) (ES.i64 t.base (ES.i16 t.code (ES.i32 t.index x)))))
def okProdDone (t : ProdDone) : Prop := True
def zProdDone : ProdDone := ⟨0, 0, 0, 0, 0⟩

set_option maxRecDepth 100000 in
set_option maxHeartbeats 6400000 in
theorem ce_ProdDone (w0 w : World) (p bx : Nat) (x : ES) (t : ProdDone) (h : CeAt w0 w p bx x) (hok : okProdDone t) :
    Calls Tryz.prog 95 #[.agg #[.int .i32 t.index, .int .i16 t.code, .int .i64 t.base, .int .i64 t.time, .int .i64 t.start], .pointer (some ⟨bx, 0, none⟩)] w (CePost w0 p bx (wrProdDone t x) w) := by
  have hmf : ∀ (fn : Fn) (first cap : Array Value) (w : World), (Instr.makeFunc fn first cap).run Tryz.prog w = .ok (.func fn first cap) w := fun _ _ _ _ => rfl
  have H := Lib.hid h
  clear h hok
  go_enter Tryz.func95, Tryz.ntmps95
  go_wp2_with (first
    | ((with_reducible refine gate_dst (N := 2) rfl ?_); refine box_event ?hg (N := 2) ?hd (cs := #[.int .i32 t.index, .int .i16 t.code, .int .i64 t.base, .int .i64 t.time, .int .i64 t.start]) (t := 165) ?hr ?_; (case hd => rfl); (case hg => rfl); (case hr => first | (go_simp; done) | (go_simp; rfl)); intro gb hgb w1 kgb bgb; have hc := Lib.hid (H.out.grown bgb); have hm : EMod w0.heap.size w w1 := EMod.of_below bgb; have hg := Lib.hid kgb; have cx := hc.out.cell; have b0 := blk_cell hg.out 0; have b1 := blk_cell hg.out 1; have b2 := blk_cell hg.out 2; have b3 := blk_cell hg.out 3; have b4 := blk_cell hg.out 4; simp at b0 b1 b2 b3 b4; clear hgb kgb bgb)
    | (go_at_call 75; refine (enc_i32 _ _ p _ _ (by exact hc.out.enc)).mono ?_; rintro e wn ⟨rfl, h2, m2⟩; have hc := Lib.hid (hc.out.post h2 m2); have hg := Lib.hid (TMod.blk m2 hg.out (by unfold EncT WrT; decide)); have hm := hm.trans m2; have cx := hc.out.cell; have b0 := blk_cell hg.out 0; have b1 := blk_cell hg.out 1; have b2 := blk_cell hg.out 2; have b3 := blk_cell hg.out 3; have b4 := blk_cell hg.out 4; simp at b0 b1 b2 b3 b4; clear h2 m2)
    | (go_at_call 74; refine (enc_i16 _ _ p _ _ (by exact hc.out.enc)).mono ?_; rintro e wn ⟨rfl, h2, m2⟩; have hc := Lib.hid (hc.out.post h2 m2); have hg := Lib.hid (TMod.blk m2 hg.out (by unfold EncT WrT; decide)); have hm := hm.trans m2; have cx := hc.out.cell; have b0 := blk_cell hg.out 0; have b1 := blk_cell hg.out 1; have b2 := blk_cell hg.out 2; have b3 := blk_cell hg.out 3; have b4 := blk_cell hg.out 4; simp at b0 b1 b2 b3 b4; clear h2 m2)
    | (go_at_call 96; refine (enc_i64 _ _ p _ _ (by exact hc.out.enc)).mono ?_; rintro e wn ⟨rfl, h2, m2⟩; have hc := Lib.hid (hc.out.post h2 m2); have hg := Lib.hid (TMod.blk m2 hg.out (by unfold EncT WrT; decide)); have hm := hm.trans m2; have cx := hc.out.cell; have b0 := blk_cell hg.out 0; have b1 := blk_cell hg.out 1; have b2 := blk_cell hg.out 2; have b3 := blk_cell hg.out 3; have b4 := blk_cell hg.out 4; simp at b0 b1 b2 b3 b4; clear h2 m2)
    | (go_at_call 72; refine (enc_has _ _ p _ _ _ (by exact hc.out.enc)).mono ?_; rintro e wn ⟨rfl, rfl⟩)
    | fail)
  all_goals
    go_wp2
    ((try simp only [Exit.inBlock, Exit.then]); first | refine bodyPost_end (results_none rfl _ _ _) rfl ?_ | refine bodyPost_ret (results_none rfl _ _ _) rfl ?_ | fail)
    exact ⟨rfl, by simpa [wrProdDone, ES.when, *] using hc.out, hm⟩

set_option maxRecDepth 100000 in
set_option maxHeartbeats 6400000 in
theorem ce_items_ProdDone (w0 w : World) (p bx : Nat) (x : ES) (xs : List ProdDone) (A : Option Addr) (c : Nat) (h : CeAt w0 w p bx x) (hA : kProdDone.C w0 A xs.length xs) (hok : ∀ t ∈ xs, okProdDone t) :
    Calls Tryz.prog 94 #[.pointer (some ⟨p, 0, none⟩), .slice A xs.length c, .func (.func 95) #[] #[.pointer (some ⟨bx, 0, none⟩)]] w (CePost w0 p bx (wrItems wrProdDone xs x) w) := by
  by_cases hl : 16 < xs.length
  · have hl' : decide (16 < xs.length) = true := by simpa using hl
    have HQ := Lib.hid (wrItems_many (f := wrProdDone) (x := x) hl)
    go_enter Tryz.func94, Tryz.ntmps94
    go_wp2_with fail
    refine (enc_fail _ _ p x 9 h.enc).mono ?_
    rintro e w1 ⟨rfl, h2, m2⟩
    go_wp2
    ((try simp only [Exit.inBlock, Exit.then]); first | refine bodyPost_end (results_none rfl _ _ _) rfl ?_ | refine bodyPost_ret (results_none rfl _ _ _) rfl ?_ | fail)
    rw [HQ.out]
    exact ⟨rfl, h.post h2 m2, m2⟩
  · have hl' : decide (16 < xs.length) = false := by simpa using hl
    have HQ := Lib.hid (wrItems_ok (f := wrProdDone) (x := x) hl)
    have hle : xs.length ≤ 16 := by omega
    go_enter Tryz.func94, Tryz.ntmps94
    go_wp2_with fail
    refine (enc_i32 _ _ p x _ h.enc).mono ?_
    rintro e w1 ⟨rfl, h2, m2⟩
    have hc := h.post h2 m2
    clear h h2 hl
    go_wp2_with fail
    go_loopg [20] xs.length (fun gk v20 wr => ∃ k : Nat, v20 = .int .i64 k ∧ Hid (k + gk = xs.length) ∧ k ≤ 16 ∧ CeAt w0 wr p bx ((xs.take k).foldl (fun s t => wrProdDone t s) (x.i32 xs.length)) ∧ EMod w0.heap.size w wr)
    case atStart => exact ⟨0, rfl, Lib.hid (by omega), by omega, hc, m2⟩
    case round =>
      obtain ⟨k, rfl, hgk, hk16, hcr, hmr⟩ := hrel
      clear hc m2
      by_cases hlt : k < xs.length
      · obtain ⟨j, rfl⟩ : ∃ j, gk = j + 1 := ⟨gk - 1, by have := hgk.out; omega⟩
        obtain ⟨ad, cs, rfl, hcl, hK, hcell⟩ := Kd.C_get hA zProdDone (k : Int) (by omega) (by omega)
        obtain rfl := kProdDone_openK hK
        have hsK := Lib.hid (foldl_step wrProdDone xs (x.i32 xs.length) k zProdDone hlt)
        have hokk : okProdDone (xs.getD k zProdDone) := hok _ (by rw [List.getD_eq_getElem?_getD, List.getElem?_eq_getElem hlt]; exact List.getElem_mem hlt)
        have d0 : wr.cell? (ad.add (k * 5)) = some (.int .i32 (xs.getD k zProdDone).index) := pw_cell_below hcr.base (hcell 0 _ rfl)
        have d1 : wr.cell? ⟨(ad.add (k * 5)).block, (ad.add (k * 5)).off + 1, none⟩ = some (.int .i16 (xs.getD k zProdDone).code) := by rw [← add_field ad (k * 5) 1 (by omega)]; exact pw_cell_below hcr.base (hcell 1 _ rfl)
        have d2 : wr.cell? ⟨(ad.add (k * 5)).block, (ad.add (k * 5)).off + 2, none⟩ = some (.int .i64 (xs.getD k zProdDone).base) := by rw [← add_field ad (k * 5) 2 (by omega)]; exact pw_cell_below hcr.base (hcell 2 _ rfl)
        have d3 : wr.cell? ⟨(ad.add (k * 5)).block, (ad.add (k * 5)).off + 3, none⟩ = some (.int .i64 (xs.getD k zProdDone).time) := by rw [← add_field ad (k * 5) 3 (by omega)]; exact pw_cell_below hcr.base (hcell 3 _ rfl)
        have d4 : wr.cell? ⟨(ad.add (k * 5)).block, (ad.add (k * 5)).off + 4, none⟩ = some (.int .i64 (xs.getD k zProdDone).start) := by rw [← add_field ad (k * 5) 4 (by omega)]; exact pw_cell_below hcr.base (hcell 4 _ rfl)
        clear hcell hcl hK
        generalize hgt : xs.getD k zProdDone = t at *
        have q0 : (0 : Int) ≤ (k : Int) := by omega
        have q1 : (k : Int) < (xs.length : Int) := by omega
        go_wp2_with fail
        refine (ce_ProdDone w0 _ p bx _ t (hcr.grown ((Below.refl _ _).alloc (Nat.le_refl _) _)) hokk).mono ?_
        rintro e w2 ⟨rfl, h3, m3⟩
        have m4 : EMod w0.heap.size w w2 := hmr.trans (EMod.trans (EMod.of_below ((Below.refl _ _).alloc (Nat.le_refl _) _)) m3)
        clear d0 d1 d2 d3 d4 hcr hmr m3
        go_wp2
        go_roundg j
        case measure => omega
        case rel => exact ⟨k + 1, by go_num, Lib.hid (by have := hgk.out; omega), by omega, by rw [hsK.out]; exact h3, m4⟩
      · have hend : k = xs.length := by have := hgk.out; omega
        have hlt' : decide ((k : Int) < (xs.length : Int)) = false := by simp; omega
        go_wp2
        ((try simp only [Exit.inBlock, Exit.then]); first | refine bodyPost_end (results_none rfl _ _ _) rfl ?_ | refine bodyPost_ret (results_none rfl _ _ _) rfl ?_ | fail)
        rw [HQ.out]
        rw [hend, List.take_length] at hcr
        exact ⟨rfl, hcr, hmr⟩

end Go.Proofs.YteckmgmcfngddaaGreat
end

section
/- The writer of a part, and of a list of it: ProdGone. -/
set_option linter.unusedVariables false
set_option linter.unusedSimpArgs false
namespace Go.Proofs.YteckmgmcfngddaaGreat
open Go.RowKit Go.Proofs.YteckmgmcfngddaaGreatW.PrintWords

def wrProdGone (t : ProdGone) (x : ES) : ES := (wrItems wrProdDone t.parts (ES.str t.name x))
def okProdGone (t : ProdGone) : Prop := t.name.size ≤ 140737488355328 ∧ ∀ y ∈ t.parts, okProdDone y
def zProdGone : ProdGone := ⟨⟨#[]⟩, []⟩

set_option maxRecDepth 100000 in
set_option maxHeartbeats 6400000 in
theorem ce_ProdGone (w0 w : World) (p bx : Nat) (x : ES) (t : ProdGone) (A0 : Option Addr) (c0 : Nat) (h : CeAt w0 w p bx x) (g0 : kProdDone.C w0 A0 t.parts.length t.parts) (hok : okProdGone t) :
    Calls Tryz.prog 93 #[.agg #[.string t.name, .slice A0 t.parts.length c0], .pointer (some ⟨bx, 0, none⟩)] w (CePost w0 p bx (wrProdGone t x) w) := by
  have hmf : ∀ (fn : Fn) (first cap : Array Value) (w : World), (Instr.makeFunc fn first cap).run Tryz.prog w = .ok (.func fn first cap) w := fun _ _ _ _ => rfl
  have H := Lib.hid h
  have G0 := Lib.hid g0
  have OK0 := Lib.hid hok.1
  have OK1 := Lib.hid hok.2
  clear h hok g0
  go_enter Tryz.func93, Tryz.ntmps93
  go_wp2_with (first
    | ((with_reducible refine gate_dst (N := 2) rfl ?_); refine box_event ?hg (N := 2) ?hd (cs := #[.string t.name, .slice A0 t.parts.length c0]) (t := 162) ?hr ?_; (case hd => rfl); (case hg => rfl); (case hr => first | (go_simp; done) | (go_simp; rfl)); intro gb hgb w1 kgb bgb; have hc := Lib.hid (H.out.grown bgb); have hm : EMod w0.heap.size w w1 := EMod.of_below bgb; have hg := Lib.hid kgb; have cx := hc.out.cell; have b0 := blk_cell hg.out 0; have b1 := blk_cell hg.out 1; simp at b0 b1; clear hgb kgb bgb)
    | (go_at_call 78; refine (enc_str _ _ p _ _ (by exact hc.out.enc) OK0.out).mono ?_; rintro e wn ⟨rfl, h2, m2⟩; have hc := Lib.hid (hc.out.post h2 m2); have hg := Lib.hid (TMod.blk m2 hg.out (by unfold EncT WrT; decide)); have hm := hm.trans m2; have cx := hc.out.cell; have b0 := blk_cell hg.out 0; have b1 := blk_cell hg.out 1; simp at b0 b1; clear h2 m2)
    | (go_at_call 94; refine (ce_items_ProdDone w0 _ p bx _ t.parts A0 c0 (by exact hc.out) G0.out OK1.out).mono ?_; rintro e wn ⟨rfl, h2, m2⟩; have hc := Lib.hid h2; have hg := Lib.hid (TMod.blk m2 hg.out (by unfold EncT WrT; decide)); have hm := hm.trans m2; have cx := hc.out.cell; have b0 := blk_cell hg.out 0; have b1 := blk_cell hg.out 1; simp at b0 b1; clear h2 m2)
    | fail)
  all_goals
    go_wp2
    ((try simp only [Exit.inBlock, Exit.then]); first | refine bodyPost_end (results_none rfl _ _ _) rfl ?_ | refine bodyPost_ret (results_none rfl _ _ _) rfl ?_ | fail)
    exact ⟨rfl, hc.out, hm⟩

set_option maxRecDepth 100000 in
set_option maxHeartbeats 6400000 in
theorem ce_items_ProdGone (w0 w : World) (p bx : Nat) (x : ES) (xs : List ProdGone) (A : Option Addr) (c : Nat) (h : CeAt w0 w p bx x) (hA : kProdGone.C w0 A xs.length xs) (hok : ∀ t ∈ xs, okProdGone t) :
    Calls Tryz.prog 92 #[.pointer (some ⟨p, 0, none⟩), .slice A xs.length c, .func (.func 93) #[] #[.pointer (some ⟨bx, 0, none⟩)]] w (CePost w0 p bx (wrItems wrProdGone xs x) w) := by
  by_cases hl : 16 < xs.length
  · have hl' : decide (16 < xs.length) = true := by simpa using hl
    have HQ := Lib.hid (wrItems_many (f := wrProdGone) (x := x) hl)
    go_enter Tryz.func92, Tryz.ntmps92
    go_wp2_with fail
    refine (enc_fail _ _ p x 9 h.enc).mono ?_
    rintro e w1 ⟨rfl, h2, m2⟩
    go_wp2
    ((try simp only [Exit.inBlock, Exit.then]); first | refine bodyPost_end (results_none rfl _ _ _) rfl ?_ | refine bodyPost_ret (results_none rfl _ _ _) rfl ?_ | fail)
    rw [HQ.out]
    exact ⟨rfl, h.post h2 m2, m2⟩
  · have hl' : decide (16 < xs.length) = false := by simpa using hl
    have HQ := Lib.hid (wrItems_ok (f := wrProdGone) (x := x) hl)
    have hle : xs.length ≤ 16 := by omega
    go_enter Tryz.func92, Tryz.ntmps92
    go_wp2_with fail
    refine (enc_i32 _ _ p x _ h.enc).mono ?_
    rintro e w1 ⟨rfl, h2, m2⟩
    have hc := h.post h2 m2
    clear h h2 hl
    go_wp2_with fail
    go_loopg [20] xs.length (fun gk v20 wr => ∃ k : Nat, v20 = .int .i64 k ∧ Hid (k + gk = xs.length) ∧ k ≤ 16 ∧ CeAt w0 wr p bx ((xs.take k).foldl (fun s t => wrProdGone t s) (x.i32 xs.length)) ∧ EMod w0.heap.size w wr)
    case atStart => exact ⟨0, rfl, Lib.hid (by omega), by omega, hc, m2⟩
    case round =>
      obtain ⟨k, rfl, hgk, hk16, hcr, hmr⟩ := hrel
      clear hc m2
      by_cases hlt : k < xs.length
      · obtain ⟨j, rfl⟩ : ∃ j, gk = j + 1 := ⟨gk - 1, by have := hgk.out; omega⟩
        obtain ⟨ad, cs, rfl, hcl, hK, hcell⟩ := Kd.C_get hA zProdGone (k : Int) (by omega) (by omega)
        obtain ⟨A0, c0, rfl, l0, g0⟩ := kProdGone_openK hK
        have hsK := Lib.hid (foldl_step wrProdGone xs (x.i32 xs.length) k zProdGone hlt)
        have hokk : okProdGone (xs.getD k zProdGone) := hok _ (by rw [List.getD_eq_getElem?_getD, List.getElem?_eq_getElem hlt]; exact List.getElem_mem hlt)
        have d0 : wr.cell? (ad.add (k * 2)) = some (.string (xs.getD k zProdGone).name) := pw_cell_below hcr.base (hcell 0 _ rfl)
        have d1 : wr.cell? ⟨(ad.add (k * 2)).block, (ad.add (k * 2)).off + 1, none⟩ = some (.slice A0 (xs.getD k zProdGone).parts.length c0) := by rw [← add_field ad (k * 2) 1 (by omega)]; exact pw_cell_below hcr.base (hcell 1 _ rfl)
        have g0' : kProdDone.C w0 A0 (xs.getD k zProdGone).parts.length (xs.getD k zProdGone).parts := g0
        clear hcell hcl hK g0
        generalize hgt : xs.getD k zProdGone = t at *
        have q0 : (0 : Int) ≤ (k : Int) := by omega
        have q1 : (k : Int) < (xs.length : Int) := by omega
        go_wp2_with fail
        refine (ce_ProdGone w0 _ p bx _ t A0 c0 (hcr.grown ((Below.refl _ _).alloc (Nat.le_refl _) _)) g0' hokk).mono ?_
        rintro e w2 ⟨rfl, h3, m3⟩
        have m4 : EMod w0.heap.size w w2 := hmr.trans (EMod.trans (EMod.of_below ((Below.refl _ _).alloc (Nat.le_refl _) _)) m3)
        clear d0 d1 hcr hmr m3
        go_wp2
        go_roundg j
        case measure => omega
        case rel => exact ⟨k + 1, by go_num, Lib.hid (by have := hgk.out; omega), by omega, by rw [hsK.out]; exact h3, m4⟩
      · have hend : k = xs.length := by have := hgk.out; omega
        have hlt' : decide ((k : Int) < (xs.length : Int)) = false := by simp; omega
        go_wp2
        ((try simp only [Exit.inBlock, Exit.then]); first | refine bodyPost_end (results_none rfl _ _ _) rfl ?_ | refine bodyPost_ret (results_none rfl _ _ _) rfl ?_ | fail)
        rw [HQ.out]
        rw [hend, List.take_length] at hcr
        exact ⟨rfl, hcr, hmr⟩

end Go.Proofs.YteckmgmcfngddaaGreat
end

section
/- Encode of a message: ProdRep. -/
set_option linter.unusedVariables false
set_option linter.unusedSimpArgs false
namespace Go.Proofs.YteckmgmcfngddaaGreat
open Go.RowKit Go.Proofs.YteckmgmcfngddaaGreatW.PrintWords

def lkProdDone (t : ProdDone) (x : ES) : ES := (ES.lacks (t.start == 0) 3 3 (ES.lacks (t.time == 0) 2 3 x))
def lkProdGone (t : ProdGone) (x : ES) : ES := t.parts.foldl (fun s p => lkProdDone p s) x
def encProdRep (v : Int) (m : ProdRep) : List Int × Int := ((ES.when 1 3 (fun s => (ES.i32 m.throttle s)) (wrItems wrProdGone m.topics (m.topics.foldl (fun s t => lkProdGone t s) (ES.lacks (m.throttle == 0) 1 3 (ES.new v)))))).done
def okProdRep (m : ProdRep) : Prop := ∀ y ∈ m.topics, okProdGone y

set_option maxRecDepth 100000 in
set_option maxHeartbeats 12800000 in
theorem eo_ProdRep (w : World) (v : Int) (m : ProdRep) (A0 : Option Addr) (c0 : Nat) (g0 : kProdGone.C w A0 m.topics.length m.topics) (hok : okProdRep m) :
    Calls Tryz.prog 20 #[.int .i64 v, .agg #[.slice A0 m.topics.length c0, .int .i32 m.throttle]] w (EncRes (encProdRep v m) w) := by
  have hmf : ∀ (fn : Fn) (first cap : Array Value) (w : World), (Instr.makeFunc fn first cap).run Tryz.prog w = .ok (.func fn first cap) w := fun _ _ _ _ => rfl
  have OK0 := Lib.hid hok
  have hmax := Kd.C_max g0
  clear hok
  go_enter Tryz.func20, Tryz.ntmps20
  go_wp2_with (first
    | ((with_reducible refine gate_dst (N := 3) rfl ?_); refine box_event ?hg (N := 3) ?hd (cs := #[.slice A0 m.topics.length c0, .int .i32 m.throttle]) (t := 48) ?hr ?_; (case hd => rfl); (case hg => rfl); (case hr => first | (go_simp; done) | (go_simp; rfl)); intro gb hgb w1 kgb bgb; have G0 := Lib.hid (Kd.C_below g0 bgb); have hg1 := Lib.hid kgb; have HB1 := Lib.hid bgb; clear hgb kgb bgb)
    | (go_at_call 70; refine (newEnc w1 v).mono ?_; rintro e w2 ⟨p, rfl, hE, hB⟩; have hc := Lib.hid (CeAt.new hE hB); have hg := Lib.hid (base_blk hc.out.base hg1.out); have cx := hc.out.cell; have b0 := blk_cell hg.out 0; have b1 := blk_cell hg.out 1; simp at b0 b1; clear hE hB)
    | (go_at_call 71; refine (enc_lacks _ _ p _ _ _ _ (by exact hc.out.enc)).mono ?_; rintro e wn ⟨rfl, h2, m2⟩; have hc := Lib.hid (hc.out.post h2 m2); have hg := Lib.hid (TMod.blk m2 hg.out (by unfold EncT WrT; decide)); have cx := hc.out.cell; have b0 := blk_cell hg.out 0; have b1 := blk_cell hg.out 1; simp at b0 b1; clear h2 m2)
    | (go_at_call 92; refine (ce_items_ProdGone w1 _ p _ _ m.topics A0 c0 (by exact hc.out) G0.out OK0.out).mono ?_; rintro e wn ⟨rfl, h2, m2⟩; have hc := Lib.hid h2; have hg := Lib.hid (TMod.blk m2 hg.out (by unfold EncT WrT; decide)); have cx := hc.out.cell; have b0 := blk_cell hg.out 0; have b1 := blk_cell hg.out 1; simp at b0 b1; clear h2 m2)
    | (go_at_call 72; refine (enc_has _ _ p _ _ _ (by exact hc.out.enc)).mono ?_; rintro e wn ⟨rfl, rfl⟩)
    | (go_at_call 75; refine (enc_i32 _ _ p _ _ (by exact hc.out.enc)).mono ?_; rintro e wn ⟨rfl, h2, m2⟩; have hc := Lib.hid (hc.out.post h2 m2); have hg := Lib.hid (TMod.blk m2 hg.out (by unfold EncT WrT; decide)); have cx := hc.out.cell; have b0 := blk_cell hg.out 0; have b1 := blk_cell hg.out 1; simp at b0 b1; clear h2 m2)
    | (go_at_call 82; refine (enc_done _ _ p _ (by exact hc.out.enc)).mono ?_; rintro e wn ⟨vv, rfl, ho, m2⟩; obtain ⟨AA, cc, rfl⟩ := own_slice ho; have HO := Lib.hid ho; have hM := Lib.hid m2; clear ho m2)
    | fail)
  go_loopg [21] m.topics.length (fun gk v21 wr => ∃ k : Nat, v21 = .int .i64 k ∧ Hid (k + gk = m.topics.length) ∧ k ≤ m.topics.length ∧ CeAt w1 wr p w2.heap.size ((m.topics.take k).foldl (fun s t => lkProdGone t s) (ES.lacks (m.throttle == 0) 1 3 (ES.new v))))
  case atStart => exact ⟨0, rfl, Lib.hid (by omega), by omega, hc.out⟩
  case round =>
    obtain ⟨k, rfl, hgk, hkl, hcr⟩ := hrel
    clear hc hg cx b0 b1
    by_cases hlt : k < m.topics.length
    · obtain ⟨j, rfl⟩ : ∃ j, gk = j + 1 := ⟨gk - 1, by have := hgk.out; omega⟩
      obtain ⟨add, cs, rfl, hcl, hK, hcell⟩ := Kd.C_get G0.out zProdGone (k : Int) (by omega) (by omega)
      obtain ⟨B0, q0, rfl, l0, g0'⟩ := kProdGone_openK hK
      have hsK := Lib.hid (foldl_step lkProdGone m.topics (ES.lacks (m.throttle == 0) 1 3 (ES.new v)) k zProdGone hlt)
      have d0 : wr.cell? (add.add (k * 2)) = some (.string (m.topics.getD k zProdGone).name) := pw_cell_below hcr.base (hcell 0 _ rfl)
      have d1 : wr.cell? ⟨(add.add (k * 2)).block, (add.add (k * 2)).off + 1, none⟩ = some (.slice B0 (m.topics.getD k zProdGone).parts.length q0) := by rw [← add_field add (k * 2) 1 (by omega)]; exact pw_cell_below hcr.base (hcell 1 _ rfl)
      have G1 : kProdDone.C w1 B0 (m.topics.getD k zProdGone).parts.length (m.topics.getD k zProdGone).parts := g0'
      clear hcell hcl hK g0'
      generalize hgt : (m.topics.getD k zProdGone) = t at *
      have hmax2 := Kd.C_max G1
      have i0 : (0 : Int) ≤ (k : Int) := by omega
      have i1 : (k : Int) < (m.topics.length : Int) := by omega
      have hcA := hcr.grown ((Below.refl _ _).alloc (Nat.le_refl _) (.cells #[.string t.name, .slice B0 t.parts.length q0] 162))
      clear hcr
      go_wp2_with fail
      go_loopg [28] t.parts.length (fun gk2 v28 wr2 => ∃ k2 : Nat, v28 = .int .i64 k2 ∧ Hid (k2 + gk2 = t.parts.length) ∧ k2 ≤ t.parts.length ∧ CeAt w1 wr2 p w2.heap.size ((t.parts.take k2).foldl (fun s p => lkProdDone p s) ((m.topics.take k).foldl (fun s t => lkProdGone t s) (ES.lacks (m.throttle == 0) 1 3 (ES.new v)))))
      case atStart => exact ⟨0, rfl, Lib.hid (by omega), by omega, hcA⟩
      case round =>
        obtain ⟨k2, rfl, hgk2, hkl2, hcr2⟩ := hrel
        clear hcA d0 d1
        by_cases hlt2 : k2 < t.parts.length
        · obtain ⟨j2, rfl⟩ : ∃ j2, gk = j2 + 1 := ⟨gk - 1, by have := hgk2.out; omega⟩
          obtain ⟨ade, cs2, rfl, hcl2, hK2, hcell2⟩ := Kd.C_get G1 zProdDone (k2 : Int) (by omega) (by omega)
          obtain rfl := kProdDone_openK hK2
          have hs2 := Lib.hid (foldl_step lkProdDone t.parts ((m.topics.take k).foldl (fun s t => lkProdGone t s) (ES.lacks (m.throttle == 0) 1 3 (ES.new v))) k2 zProdDone hlt2)
          have e0 : wr.cell? (ade.add (k2 * 5)) = some (.int .i32 (t.parts.getD k2 zProdDone).index) := pw_cell_below hcr2.base (hcell2 0 _ rfl)
          have e1 : wr.cell? ⟨(ade.add (k2 * 5)).block, (ade.add (k2 * 5)).off + 1, none⟩ = some (.int .i16 (t.parts.getD k2 zProdDone).code) := by rw [← add_field ade (k2 * 5) 1 (by omega)]; exact pw_cell_below hcr2.base (hcell2 1 _ rfl)
          have e2 : wr.cell? ⟨(ade.add (k2 * 5)).block, (ade.add (k2 * 5)).off + 2, none⟩ = some (.int .i64 (t.parts.getD k2 zProdDone).base) := by rw [← add_field ade (k2 * 5) 2 (by omega)]; exact pw_cell_below hcr2.base (hcell2 2 _ rfl)
          have e3 : wr.cell? ⟨(ade.add (k2 * 5)).block, (ade.add (k2 * 5)).off + 3, none⟩ = some (.int .i64 (t.parts.getD k2 zProdDone).time) := by rw [← add_field ade (k2 * 5) 3 (by omega)]; exact pw_cell_below hcr2.base (hcell2 3 _ rfl)
          have e4 : wr.cell? ⟨(ade.add (k2 * 5)).block, (ade.add (k2 * 5)).off + 4, none⟩ = some (.int .i64 (t.parts.getD k2 zProdDone).start) := by rw [← add_field ade (k2 * 5) 4 (by omega)]; exact pw_cell_below hcr2.base (hcell2 4 _ rfl)
          clear hcell2 hcl2 hK2
          generalize hgy : (t.parts.getD k2 zProdDone) = y at *
          have i2 : (0 : Int) ≤ (k2 : Int) := by omega
          have i3 : (k2 : Int) < (t.parts.length : Int) := by omega
          have hc := Lib.hid (hcr2.grown ((Below.refl _ _).alloc (Nat.le_refl _) (.cells #[.int .i32 y.index, .int .i16 y.code, .int .i64 y.base, .int .i64 y.time, .int .i64 y.start] 165)))
          have hq := Lib.hid (blk_new wr (.cells #[.int .i32 y.index, .int .i16 y.code, .int .i64 y.base, .int .i64 y.time, .int .i64 y.start] 165))
          have cx := hc.out.cell
          clear hcr2
          go_wp2_with (first
            | (go_at_call 71; refine (enc_lacks _ _ p _ _ _ _ (by exact hc.out.enc)).mono ?_; rintro e wn ⟨rfl, h2, m2⟩; have hc := Lib.hid (hc.out.post h2 m2); have hq := Lib.hid (TMod.blk m2 hq.out (by unfold EncT WrT; decide)); have cx := hc.out.cell; have y0 := blk_cell hq.out 0; have y1 := blk_cell hq.out 1; have y2 := blk_cell hq.out 2; have y3 := blk_cell hq.out 3; have y4 := blk_cell hq.out 4; simp at y0 y1 y2 y3 y4; clear h2 m2)
            | fail)
          go_roundg j2
          case measure => omega
          case rel => exact ⟨k2 + 1, by go_num, Lib.hid (by have := hgk2.out; omega), by omega, by rw [hs2.out]; exact hc.out⟩
        · have hend2 : k2 = t.parts.length := by have := hgk2.out; omega
          have hlt2' : decide ((k2 : Int) < (t.parts.length : Int)) = false := by simp; omega
          rw [hend2, List.take_length] at hcr2
          go_wp2
          go_roundg j
          case measure => omega
          case rel => exact ⟨k + 1, by go_num, Lib.hid (by have := hgk.out; omega), by omega, by rw [hsK.out]; exact hcr2⟩
    · have hend : k = m.topics.length := by have := hgk.out; omega
      have hlt' : decide ((k : Int) < (m.topics.length : Int)) = false := by simp; omega
      rw [hend, List.take_length] at hcr
      have hc := Lib.hid hcr
      have hg := Lib.hid (base_blk hc.out.base hg1.out)
      have cx := hc.out.cell
      have b0 := blk_cell hg.out 0
      have b1 := blk_cell hg.out 1
      simp at b0 b1
      clear hcr
      go_wp2_with (first
        | ((with_reducible refine gate_dst (N := 3) rfl ?_); refine box_event ?hg (N := 3) ?hd (cs := #[.slice A0 m.topics.length c0, .int .i32 m.throttle]) (t := 48) ?hr ?_; (case hd => rfl); (case hg => rfl); (case hr => first | (go_simp; done) | (go_simp; rfl)); intro gb hgb w1 kgb bgb; have G0 := Lib.hid (Kd.C_below g0 bgb); have hg1 := Lib.hid kgb; have HB1 := Lib.hid bgb; clear hgb kgb bgb)
        | (go_at_call 70; refine (newEnc w1 v).mono ?_; rintro e w2 ⟨p, rfl, hE, hB⟩; have hc := Lib.hid (CeAt.new hE hB); have hg := Lib.hid (base_blk hc.out.base hg1.out); have cx := hc.out.cell; have b0 := blk_cell hg.out 0; have b1 := blk_cell hg.out 1; simp at b0 b1; clear hE hB)
        | (go_at_call 71; refine (enc_lacks _ _ p _ _ _ _ (by exact hc.out.enc)).mono ?_; rintro e wn ⟨rfl, h2, m2⟩; have hc := Lib.hid (hc.out.post h2 m2); have hg := Lib.hid (TMod.blk m2 hg.out (by unfold EncT WrT; decide)); have cx := hc.out.cell; have b0 := blk_cell hg.out 0; have b1 := blk_cell hg.out 1; simp at b0 b1; clear h2 m2)
        | (go_at_call 92; refine (ce_items_ProdGone w1 _ p _ _ m.topics A0 c0 (by exact hc.out) G0.out OK0.out).mono ?_; rintro e wn ⟨rfl, h2, m2⟩; have hc := Lib.hid h2; have hg := Lib.hid (TMod.blk m2 hg.out (by unfold EncT WrT; decide)); have cx := hc.out.cell; have b0 := blk_cell hg.out 0; have b1 := blk_cell hg.out 1; simp at b0 b1; clear h2 m2)
        | (go_at_call 72; refine (enc_has _ _ p _ _ _ (by exact hc.out.enc)).mono ?_; rintro e wn ⟨rfl, rfl⟩)
        | (go_at_call 75; refine (enc_i32 _ _ p _ _ (by exact hc.out.enc)).mono ?_; rintro e wn ⟨rfl, h2, m2⟩; have hc := Lib.hid (hc.out.post h2 m2); have hg := Lib.hid (TMod.blk m2 hg.out (by unfold EncT WrT; decide)); have cx := hc.out.cell; have b0 := blk_cell hg.out 0; have b1 := blk_cell hg.out 1; simp at b0 b1; clear h2 m2)
        | (go_at_call 82; refine (enc_done _ _ p _ (by exact hc.out.enc)).mono ?_; rintro e wn ⟨vv, rfl, ho, m2⟩; obtain ⟨AA, cc, rfl⟩ := own_slice ho; have HO := Lib.hid ho; have hM := Lib.hid m2; clear ho m2)
        | fail)
      all_goals
        go_wp2
        go_ret2
        exact EncRes.of (by simp [encProdRep, ES.when, *]) HO.out HB1.out hc.out.base hM.out

end Go.Proofs.YteckmgmcfngddaaGreat
end

section
/- The writer of a part, and of a list of it: FetchPart. -/
set_option linter.unusedVariables false
set_option linter.unusedSimpArgs false
namespace Go.Proofs.YteckmgmcfngddaaGreat
open Go.RowKit Go.Proofs.YteckmgmcfngddaaGreatW.PrintWords

def wrFetchPart (t : FetchPart) (x : ES) : ES := (ES.i32 t.max (ES.i64 t.offset (ES.when 3 3 (fun s => (ES.i32 t.epoch s)) (ES.i32 t.index x))))
def okFetchPart (t : FetchPart) : Prop := True
def zFetchPart : FetchPart := ⟨0, 0, 0, 0⟩

set_option maxRecDepth 100000 in
set_option maxHeartbeats 6400000 in
theorem ce_FetchPart (w0 w : World) (p bx : Nat) (x : ES) (t : FetchPart) (h : CeAt w0 w p bx x) (hok : okFetchPart t) :
    Calls Tryz.prog 125 #[.agg #[.int .i32 t.index, .int .i64 t.offset, .int .i32 t.epoch, .int .i32 t.max], .pointer (some ⟨bx, 0, none⟩)] w (CePost w0 p bx (wrFetchPart t x) w) := by
  have hmf : ∀ (fn : Fn) (first cap : Array Value) (w : World), (Instr.makeFunc fn first cap).run Tryz.prog w = .ok (.func fn first cap) w := fun _ _ _ _ => rfl
  have H := Lib.hid h
  clear h hok
  go_enter Tryz.func125, Tryz.ntmps125
  go_wp2_with (first
    | ((with_reducible refine gate_dst (N := 2) rfl ?_); refine box_event ?hg (N := 2) ?hd (cs := #[.int .i32 t.index, .int .i64 t.offset, .int .i32 t.epoch, .int .i32 t.max]) (t := 212) ?hr ?_; (case hd => rfl); (case hg => rfl); (case hr => first | (go_simp; done) | (go_simp; rfl)); intro gb hgb w1 kgb bgb; have hc := Lib.hid (H.out.grown bgb); have hm : EMod w0.heap.size w w1 := EMod.of_below bgb; have hg := Lib.hid kgb; have cx := hc.out.cell; have b0 := blk_cell hg.out 0; have b1 := blk_cell hg.out 1; have b2 := blk_cell hg.out 2; have b3 := blk_cell hg.out 3; simp at b0 b1 b2 b3; clear hgb kgb bgb)
    | (go_at_call 75; refine (enc_i32 _ _ p _ _ (by exact hc.out.enc)).mono ?_; rintro e wn ⟨rfl, h2, m2⟩; have hc := Lib.hid (hc.out.post h2 m2); have hg := Lib.hid (TMod.blk m2 hg.out (by unfold EncT WrT; decide)); have hm := hm.trans m2; have cx := hc.out.cell; have b0 := blk_cell hg.out 0; have b1 := blk_cell hg.out 1; have b2 := blk_cell hg.out 2; have b3 := blk_cell hg.out 3; simp at b0 b1 b2 b3; clear h2 m2)
    | (go_at_call 72; refine (enc_has _ _ p _ _ _ (by exact hc.out.enc)).mono ?_; rintro e wn ⟨rfl, rfl⟩)
    | (go_at_call 96; refine (enc_i64 _ _ p _ _ (by exact hc.out.enc)).mono ?_; rintro e wn ⟨rfl, h2, m2⟩; have hc := Lib.hid (hc.out.post h2 m2); have hg := Lib.hid (TMod.blk m2 hg.out (by unfold EncT WrT; decide)); have hm := hm.trans m2; have cx := hc.out.cell; have b0 := blk_cell hg.out 0; have b1 := blk_cell hg.out 1; have b2 := blk_cell hg.out 2; have b3 := blk_cell hg.out 3; simp at b0 b1 b2 b3; clear h2 m2)
    | fail)
  all_goals
    go_wp2
    ((try simp only [Exit.inBlock, Exit.then]); first | refine bodyPost_end (results_none rfl _ _ _) rfl ?_ | refine bodyPost_ret (results_none rfl _ _ _) rfl ?_ | fail)
    exact ⟨rfl, by simpa [wrFetchPart, ES.when, *] using hc.out, hm⟩

set_option maxRecDepth 100000 in
set_option maxHeartbeats 6400000 in
theorem ce_items_FetchPart (w0 w : World) (p bx : Nat) (x : ES) (xs : List FetchPart) (A : Option Addr) (c : Nat) (h : CeAt w0 w p bx x) (hA : kFetchPart.C w0 A xs.length xs) (hok : ∀ t ∈ xs, okFetchPart t) :
    Calls Tryz.prog 124 #[.pointer (some ⟨p, 0, none⟩), .slice A xs.length c, .func (.func 125) #[] #[.pointer (some ⟨bx, 0, none⟩)]] w (CePost w0 p bx (wrItems wrFetchPart xs x) w) := by
  by_cases hl : 16 < xs.length
  · have hl' : decide (16 < xs.length) = true := by simpa using hl
    have HQ := Lib.hid (wrItems_many (f := wrFetchPart) (x := x) hl)
    go_enter Tryz.func124, Tryz.ntmps124
    go_wp2_with fail
    refine (enc_fail _ _ p x 9 h.enc).mono ?_
    rintro e w1 ⟨rfl, h2, m2⟩
    go_wp2
    ((try simp only [Exit.inBlock, Exit.then]); first | refine bodyPost_end (results_none rfl _ _ _) rfl ?_ | refine bodyPost_ret (results_none rfl _ _ _) rfl ?_ | fail)
    rw [HQ.out]
    exact ⟨rfl, h.post h2 m2, m2⟩
  · have hl' : decide (16 < xs.length) = false := by simpa using hl
    have HQ := Lib.hid (wrItems_ok (f := wrFetchPart) (x := x) hl)
    have hle : xs.length ≤ 16 := by omega
    go_enter Tryz.func124, Tryz.ntmps124
    go_wp2_with fail
    refine (enc_i32 _ _ p x _ h.enc).mono ?_
    rintro e w1 ⟨rfl, h2, m2⟩
    have hc := h.post h2 m2
    clear h h2 hl
    go_wp2_with fail
    go_loopg [20] xs.length (fun gk v20 wr => ∃ k : Nat, v20 = .int .i64 k ∧ Hid (k + gk = xs.length) ∧ k ≤ 16 ∧ CeAt w0 wr p bx ((xs.take k).foldl (fun s t => wrFetchPart t s) (x.i32 xs.length)) ∧ EMod w0.heap.size w wr)
    case atStart => exact ⟨0, rfl, Lib.hid (by omega), by omega, hc, m2⟩
    case round =>
      obtain ⟨k, rfl, hgk, hk16, hcr, hmr⟩ := hrel
      clear hc m2
      by_cases hlt : k < xs.length
      · obtain ⟨j, rfl⟩ : ∃ j, gk = j + 1 := ⟨gk - 1, by have := hgk.out; omega⟩
        obtain ⟨ad, cs, rfl, hcl, hK, hcell⟩ := Kd.C_get hA zFetchPart (k : Int) (by omega) (by omega)
        obtain rfl := kFetchPart_openK hK
        have hsK := Lib.hid (foldl_step wrFetchPart xs (x.i32 xs.length) k zFetchPart hlt)
        have hokk : okFetchPart (xs.getD k zFetchPart) := hok _ (by rw [List.getD_eq_getElem?_getD, List.getElem?_eq_getElem hlt]; exact List.getElem_mem hlt)
        have d0 : wr.cell? (ad.add (k * 4)) = some (.int .i32 (xs.getD k zFetchPart).index) := pw_cell_below hcr.base (hcell 0 _ rfl)
        have d1 : wr.cell? ⟨(ad.add (k * 4)).block, (ad.add (k * 4)).off + 1, none⟩ = some (.int .i64 (xs.getD k zFetchPart).offset) := by rw [← add_field ad (k * 4) 1 (by omega)]; exact pw_cell_below hcr.base (hcell 1 _ rfl)
        have d2 : wr.cell? ⟨(ad.add (k * 4)).block, (ad.add (k * 4)).off + 2, none⟩ = some (.int .i32 (xs.getD k zFetchPart).epoch) := by rw [← add_field ad (k * 4) 2 (by omega)]; exact pw_cell_below hcr.base (hcell 2 _ rfl)
        have d3 : wr.cell? ⟨(ad.add (k * 4)).block, (ad.add (k * 4)).off + 3, none⟩ = some (.int .i32 (xs.getD k zFetchPart).max) := by rw [← add_field ad (k * 4) 3 (by omega)]; exact pw_cell_below hcr.base (hcell 3 _ rfl)
        clear hcell hcl hK
        generalize hgt : xs.getD k zFetchPart = t at *
        have q0 : (0 : Int) ≤ (k : Int) := by omega
        have q1 : (k : Int) < (xs.length : Int) := by omega
        go_wp2_with fail
        refine (ce_FetchPart w0 _ p bx _ t (hcr.grown ((Below.refl _ _).alloc (Nat.le_refl _) _)) hokk).mono ?_
        rintro e w2 ⟨rfl, h3, m3⟩
        have m4 : EMod w0.heap.size w w2 := hmr.trans (EMod.trans (EMod.of_below ((Below.refl _ _).alloc (Nat.le_refl _) _)) m3)
        clear d0 d1 d2 d3 hcr hmr m3
        go_wp2
        go_roundg j
        case measure => omega
        case rel => exact ⟨k + 1, by go_num, Lib.hid (by have := hgk.out; omega), by omega, by rw [hsK.out]; exact h3, m4⟩
      · have hend : k = xs.length := by have := hgk.out; omega
        have hlt' : decide ((k : Int) < (xs.length : Int)) = false := by simp; omega
        go_wp2
        ((try simp only [Exit.inBlock, Exit.then]); first | refine bodyPost_end (results_none rfl _ _ _) rfl ?_ | refine bodyPost_ret (results_none rfl _ _ _) rfl ?_ | fail)
        rw [HQ.out]
        rw [hend, List.take_length] at hcr
        exact ⟨rfl, hcr, hmr⟩

end Go.Proofs.YteckmgmcfngddaaGreat
end

section
/- The writer of a part, and of a list of it: FetchTopic. -/
set_option linter.unusedVariables false
set_option linter.unusedSimpArgs false
namespace Go.Proofs.YteckmgmcfngddaaGreat
open Go.RowKit Go.Proofs.YteckmgmcfngddaaGreatW.PrintWords

def wrFetchTopic (t : FetchTopic) (x : ES) : ES := (wrItems wrFetchPart t.parts (ES.str t.name x))
def okFetchTopic (t : FetchTopic) : Prop := t.name.size ≤ 140737488355328 ∧ ∀ y ∈ t.parts, okFetchPart y
def zFetchTopic : FetchTopic := ⟨⟨#[]⟩, []⟩

set_option maxRecDepth 100000 in
set_option maxHeartbeats 6400000 in
theorem ce_FetchTopic (w0 w : World) (p bx : Nat) (x : ES) (t : FetchTopic) (A0 : Option Addr) (c0 : Nat) (h : CeAt w0 w p bx x) (g0 : kFetchPart.C w0 A0 t.parts.length t.parts) (hok : okFetchTopic t) :
    Calls Tryz.prog 123 #[.agg #[.string t.name, .slice A0 t.parts.length c0], .pointer (some ⟨bx, 0, none⟩)] w (CePost w0 p bx (wrFetchTopic t x) w) := by
  have hmf : ∀ (fn : Fn) (first cap : Array Value) (w : World), (Instr.makeFunc fn first cap).run Tryz.prog w = .ok (.func fn first cap) w := fun _ _ _ _ => rfl
  have H := Lib.hid h
  have G0 := Lib.hid g0
  have OK0 := Lib.hid hok.1
  have OK1 := Lib.hid hok.2
  clear h hok g0
  go_enter Tryz.func123, Tryz.ntmps123
  go_wp2_with (first
    | ((with_reducible refine gate_dst (N := 2) rfl ?_); refine box_event ?hg (N := 2) ?hd (cs := #[.string t.name, .slice A0 t.parts.length c0]) (t := 209) ?hr ?_; (case hd => rfl); (case hg => rfl); (case hr => first | (go_simp; done) | (go_simp; rfl)); intro gb hgb w1 kgb bgb; have hc := Lib.hid (H.out.grown bgb); have hm : EMod w0.heap.size w w1 := EMod.of_below bgb; have hg := Lib.hid kgb; have cx := hc.out.cell; have b0 := blk_cell hg.out 0; have b1 := blk_cell hg.out 1; simp at b0 b1; clear hgb kgb bgb)
    | (go_at_call 78; refine (enc_str _ _ p _ _ (by exact hc.out.enc) OK0.out).mono ?_; rintro e wn ⟨rfl, h2, m2⟩; have hc := Lib.hid (hc.out.post h2 m2); have hg := Lib.hid (TMod.blk m2 hg.out (by unfold EncT WrT; decide)); have hm := hm.trans m2; have cx := hc.out.cell; have b0 := blk_cell hg.out 0; have b1 := blk_cell hg.out 1; simp at b0 b1; clear h2 m2)
    | (go_at_call 124; refine (ce_items_FetchPart w0 _ p bx _ t.parts A0 c0 (by exact hc.out) G0.out OK1.out).mono ?_; rintro e wn ⟨rfl, h2, m2⟩; have hc := Lib.hid h2; have hg := Lib.hid (TMod.blk m2 hg.out (by unfold EncT WrT; decide)); have hm := hm.trans m2; have cx := hc.out.cell; have b0 := blk_cell hg.out 0; have b1 := blk_cell hg.out 1; simp at b0 b1; clear h2 m2)
    | fail)
  all_goals
    go_wp2
    ((try simp only [Exit.inBlock, Exit.then]); first | refine bodyPost_end (results_none rfl _ _ _) rfl ?_ | refine bodyPost_ret (results_none rfl _ _ _) rfl ?_ | fail)
    exact ⟨rfl, hc.out, hm⟩

set_option maxRecDepth 100000 in
set_option maxHeartbeats 6400000 in
theorem ce_items_FetchTopic (w0 w : World) (p bx : Nat) (x : ES) (xs : List FetchTopic) (A : Option Addr) (c : Nat) (h : CeAt w0 w p bx x) (hA : kFetchTopic.C w0 A xs.length xs) (hok : ∀ t ∈ xs, okFetchTopic t) :
    Calls Tryz.prog 122 #[.pointer (some ⟨p, 0, none⟩), .slice A xs.length c, .func (.func 123) #[] #[.pointer (some ⟨bx, 0, none⟩)]] w (CePost w0 p bx (wrItems wrFetchTopic xs x) w) := by
  by_cases hl : 16 < xs.length
  · have hl' : decide (16 < xs.length) = true := by simpa using hl
    have HQ := Lib.hid (wrItems_many (f := wrFetchTopic) (x := x) hl)
    go_enter Tryz.func122, Tryz.ntmps122
    go_wp2_with fail
    refine (enc_fail _ _ p x 9 h.enc).mono ?_
    rintro e w1 ⟨rfl, h2, m2⟩
    go_wp2
    ((try simp only [Exit.inBlock, Exit.then]); first | refine bodyPost_end (results_none rfl _ _ _) rfl ?_ | refine bodyPost_ret (results_none rfl _ _ _) rfl ?_ | fail)
    rw [HQ.out]
    exact ⟨rfl, h.post h2 m2, m2⟩
  · have hl' : decide (16 < xs.length) = false := by simpa using hl
    have HQ := Lib.hid (wrItems_ok (f := wrFetchTopic) (x := x) hl)
    have hle : xs.length ≤ 16 := by omega
    go_enter Tryz.func122, Tryz.ntmps122
    go_wp2_with fail
    refine (enc_i32 _ _ p x _ h.enc).mono ?_
    rintro e w1 ⟨rfl, h2, m2⟩
    have hc := h.post h2 m2
    clear h h2 hl
    go_wp2_with fail
    go_loopg [20] xs.length (fun gk v20 wr => ∃ k : Nat, v20 = .int .i64 k ∧ Hid (k + gk = xs.length) ∧ k ≤ 16 ∧ CeAt w0 wr p bx ((xs.take k).foldl (fun s t => wrFetchTopic t s) (x.i32 xs.length)) ∧ EMod w0.heap.size w wr)
    case atStart => exact ⟨0, rfl, Lib.hid (by omega), by omega, hc, m2⟩
    case round =>
      obtain ⟨k, rfl, hgk, hk16, hcr, hmr⟩ := hrel
      clear hc m2
      by_cases hlt : k < xs.length
      · obtain ⟨j, rfl⟩ : ∃ j, gk = j + 1 := ⟨gk - 1, by have := hgk.out; omega⟩
        obtain ⟨ad, cs, rfl, hcl, hK, hcell⟩ := Kd.C_get hA zFetchTopic (k : Int) (by omega) (by omega)
        obtain ⟨A0, c0, rfl, l0, g0⟩ := kFetchTopic_openK hK
        have hsK := Lib.hid (foldl_step wrFetchTopic xs (x.i32 xs.length) k zFetchTopic hlt)
        have hokk : okFetchTopic (xs.getD k zFetchTopic) := hok _ (by rw [List.getD_eq_getElem?_getD, List.getElem?_eq_getElem hlt]; exact List.getElem_mem hlt)
        have d0 : wr.cell? (ad.add (k * 2)) = some (.string (xs.getD k zFetchTopic).name) := pw_cell_below hcr.base (hcell 0 _ rfl)
        have d1 : wr.cell? ⟨(ad.add (k * 2)).block, (ad.add (k * 2)).off + 1, none⟩ = some (.slice A0 (xs.getD k zFetchTopic).parts.length c0) := by rw [← add_field ad (k * 2) 1 (by omega)]; exact pw_cell_below hcr.base (hcell 1 _ rfl)
        have g0' : kFetchPart.C w0 A0 (xs.getD k zFetchTopic).parts.length (xs.getD k zFetchTopic).parts := g0
        clear hcell hcl hK g0
        generalize hgt : xs.getD k zFetchTopic = t at *
        have q0 : (0 : Int) ≤ (k : Int) := by omega
        have q1 : (k : Int) < (xs.length : Int) := by omega
        go_wp2_with fail
        refine (ce_FetchTopic w0 _ p bx _ t A0 c0 (hcr.grown ((Below.refl _ _).alloc (Nat.le_refl _) _)) g0' hokk).mono ?_
        rintro e w2 ⟨rfl, h3, m3⟩
        have m4 : EMod w0.heap.size w w2 := hmr.trans (EMod.trans (EMod.of_below ((Below.refl _ _).alloc (Nat.le_refl _) _)) m3)
        clear d0 d1 hcr hmr m3
        go_wp2
        go_roundg j
        case measure => omega
        case rel => exact ⟨k + 1, by go_num, Lib.hid (by have := hgk.out; omega), by omega, by rw [hsK.out]; exact h3, m4⟩
      · have hend : k = xs.length := by have := hgk.out; omega
        have hlt' : decide ((k : Int) < (xs.length : Int)) = false := by simp; omega
        go_wp2
        ((try simp only [Exit.inBlock, Exit.then]); first | refine bodyPost_end (results_none rfl _ _ _) rfl ?_ | refine bodyPost_ret (results_none rfl _ _ _) rfl ?_ | fail)
        rw [HQ.out]
        rw [hend, List.take_length] at hcr
        exact ⟨rfl, hcr, hmr⟩

end Go.Proofs.YteckmgmcfngddaaGreat
end
