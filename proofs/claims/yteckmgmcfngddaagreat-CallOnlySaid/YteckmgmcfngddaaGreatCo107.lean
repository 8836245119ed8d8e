/- A part of a proof. Proved: Rows.CallOnlySaid: for every byte slice the law leatlaw16.CallOnly returns true, and the slice reads afterwards as it read before. No condition but the row's own reach. -/
import Derived.Test.YteckmgmcfngddaaGreatCo105
import Derived.Test.YteckmgmcfngddaaGreatCo106
import Derived.Deep.CutBlock
import Derived.Test.YteckmgmcfngddaaGreatCo102
section
/- The layer of calls: Encode. -/
set_option linter.unusedVariables false
set_option linter.unusedSimpArgs false
namespace Go.Proofs.YteckmgmcfngddaaGreat
open Go.RowKit Go.Proofs.YteckmgmcfngddaaGreatW.PrintWords

/-- The state of a call's writing: the struct's block, the writer, all below it as it was. -/
structure EnS (wN wi : World) (gb : Nat) (t : TypeId) (n : Nat) (cs : List Value) (r : Nat) (out : List Int) : Prop where
  blk : Blk wi gb t n cs
  wr : ∃ v, WrAt wN.heap.size wi r v out 131072
  low : Below wN.heap.size wN wi
theorem EnS.put {wN wi w' : World} {gb : Nat} {t : TypeId} {n : Nat} {cs : List Value} {r : Nat} {out : List Int} {p : Int × List Int} {e : Ending} (h : EnS wN wi gb t n cs r out) (ht : ¬ WrT t) (hp : PutPost wN.heap.size r 131072 p wi e w') : e = .returned (.int .i64 p.1) ∧ EnS wN w' gb t n cs r p.2 := by
  obtain ⟨he, v, hw, m⟩ := hp
  exact ⟨he, ⟨TMod.blk m h.blk.heap ht, h.blk.len, h.blk.one⟩, ⟨v, hw⟩, TMod.below m h.low h.low.size⟩
theorem EnS.grown {wN wi w' : World} {gb : Nat} {t : TypeId} {n : Nat} {cs : List Value} {r : Nat} {out : List Int} (h : EnS wN wi gb t n cs r out) (hb : Below wi.heap.size wi w') : EnS wN w' gb t n cs r out :=
  ⟨h.blk.below hb, h.wr.imp fun v hw => hw.below hb, h.low.trans (hb.mono h.low.size)⟩
def callBody (x : Call) : List Int × Int := if x.key = 0 then encProdReq x.ver x.prod else if x.key = 1 then encFetchReq x.ver x.fetch else encListReq x.ver x.list
theorem callBody0 {x : Call} (h : x.key = 0) : callBody x = encProdReq x.ver x.prod := if_pos h
theorem callBody1 {x : Call} (h : x.key = 1) : callBody x = encFetchReq x.ver x.fetch := by unfold callBody; rw [if_neg (by omega), if_pos h]
theorem callBody2 {x : Call} (h : x.key = 2) : callBody x = encListReq x.ver x.list := by unfold callBody; rw [if_neg (by omega), if_neg (by omega)]
def wrB (bs out : List Int) : List Int := (putB out 131072 bs).2
def nameW (n : Name) (out : List Int) : List Int := if n.null = true then wrB (beL (IntKind.u64.wrap (-1)) 2) out else wrB (bytesOf n.s) (wrB (beL (IntKind.u64.wrap n.s.size) 2) out)
def headW (x : Call) : List Int := wrB (beL (IntKind.u64.wrap x.corr) 4) (wrB (beL (IntKind.u64.wrap x.ver) 2) (wrB (beL (IntKind.u64.wrap x.key) 2) []))
def callEncode (x : Call) : List Int × Int :=
  if headF x.key x.ver ≠ 0 then ([], headF x.key x.ver) else if clientF x.client ≠ 0 then ([], clientF x.client) else if othersF x = false then ([], 7)
  else if (callBody x).2 ≠ 0 then ([], (callBody x).2) else (wrB (callBody x).1 (nameW x.client (headW x)), 0)
theorem callEncode1 {x : Call} (h : ¬ headF x.key x.ver = 0) : callEncode x = ([], headF x.key x.ver) := if_pos h
theorem callEncode2 {x : Call} (h : headF x.key x.ver = 0) (h1 : ¬ clientF x.client = 0) : callEncode x = ([], clientF x.client) := by unfold callEncode; rw [if_neg (by simpa using h), if_pos h1]
theorem callEncode3 {x : Call} (h : headF x.key x.ver = 0) (h1 : clientF x.client = 0) (h2 : othersF x = false) : callEncode x = ([], 7) := by unfold callEncode; rw [if_neg (by simpa using h), if_neg (by simpa using h1), if_pos h2]
theorem callEncode4 {x : Call} (h : headF x.key x.ver = 0) (h1 : clientF x.client = 0) (h2 : othersF x = true) (h3 : ¬ (callBody x).2 = 0) : callEncode x = ([], (callBody x).2) := by unfold callEncode; rw [if_neg (by simpa using h), if_neg (by simpa using h1), if_neg (by simp [h2]), if_pos h3]
theorem callEncode5 {x : Call} (h : headF x.key x.ver = 0) (h1 : clientF x.client = 0) (h2 : othersF x = true) (h3 : (callBody x).2 = 0) : callEncode x = (wrB (callBody x).1 (nameW x.client (headW x)), 0) := by unfold callEncode; rw [if_neg (by simpa using h), if_neg (by simpa using h1), if_neg (by simp [h2]), if_neg (by simpa using h3)]
theorem clientF_ok {n : Name} (h : clientF n = 0) : n.s.size ≤ 255 ∧ utfS n.s = true ∧ (n.null = true → n.s.toList.isEmpty = true) := by
  unfold clientF at h
  split at h
  · omega
  · rename_i h1
    split at h
    · omega
    · rename_i h2
      split at h
      · omega
      · refine ⟨by omega, by simpa using h2, fun hn => ?_⟩
        cases hq : n.s.toList.isEmpty
        · exact absurd ⟨hn, hq⟩ h1
        · rfl
/-- The errors' end. -/
theorem encRes_bad {r : List Int × Int} {c : Int} {w w' : World} (h : Hid (r = ([], c))) (hb : Below w.heap.size w w') : EncRes r w (.returned (.tuple #[.slice none 0 0, .int .i64 c])) w' := by
  have := h.out
  subst this
  exact ⟨_, rfl, own_nil _ _ _ _, hb⟩
theorem len_callBody (x : Call) : (callBody x).1.length ≤ 130048 := by
  unfold callBody
  split
  · exact len_ProdReq _ _
  · split
    · exact len_FetchReq _ _
    · exact len_ListReq _ _
def okCall (x : Call) : Prop := x.client.s.size ≤ 140737488355328 ∧ okProdReq x.prod ∧ okFetchReq x.fetch ∧ okListReq x.list
/-- A body written. -/
def BodyR (w wx : World) (gb : Nat) (cs : List Value) (t : TypeId) (n : Nat) (b : List Int × Int) (v6 v7 : Value) : Prop := ∃ A c, v6 = .slice A b.1.length c ∧ v7 = .int .i64 b.2 ∧ wx.ownsRow w.heap.size 5 1 (.slice A b.1.length c) b.1.length (nums .u8 b.1) ∧ Below w.heap.size w wx ∧ Blk wx gb t n cs

theorem BodyR.world {w wx : World} {gb : Nat} {cs : List Value} {t : TypeId} {n : Nat} {b : List Int × Int} {v6 v7 : Value} (_ : BodyR w wx gb cs t n b v6 v7) : ∃ wo : World, wo = wx := ⟨_, rfl⟩

set_option maxRecDepth 100000 in
set_option maxHeartbeats 25600000 in
theorem ca_encode (w : World) (x : Call) (cs : List Value) (A0 A1 A2 : Option Addr) (c0 c1 c2 : Nat) (h : cs = callCells x A0 A1 A2 c0 c1 c2)
    (g0 : kProdTopic.C w A0 x.prod.topics.length x.prod.topics) (g1 : kFetchTopic.C w A1 x.fetch.topics.length x.fetch.topics) (g2 : kListTopic.C w A2 x.list.topics.length x.list.topics) (hok : okCall x) :
    Calls Tryz.prog 34 #[.agg cs.toArray] w (EncRes (callEncode x) w) := by
  have hl : cs.length = 19 := by rw [h]; rfl
  have ho : ∀ v ∈ cs, v.oneCell' = true := by rw [h]; simp [callCells, Value.oneCell']
  have Hcs := Lib.hid h
  have G0 := Lib.hid g0
  have G1 := Lib.hid g1
  have G2 := Lib.hid g2
  have OK := Lib.hid hok
  clear h g0 g1 g2 hok
  go_enter Tryz.func34, Tryz.ntmps34
  go_wp2_with (first
    | ((with_reducible refine gate_dst (N := 1) rfl ?_); refine box_event ?hg (N := 1) ?hd (cs := cs.toArray) (t := 79) ?hr ?_; (case hd => rfl); (case hg => rfl); (case hr => first | (go_simp; done) | (go_simp; rfl)); intro gb hq w1 kq bq; have hgb : Blk w1 gb 79 19 cs := ⟨kq, hl, ho⟩; have HB := Lib.hid bq; have d0 := hgb.cell (i := 0) (v := .int .i16 x.key) (by rw [Hcs.out]; rfl); have d1 := hgb.cell (i := 1) (v := .int .i16 x.ver) (by rw [Hcs.out]; rfl); have d3 := hgb.cell (i := 3) (v := .bool x.client.null) (by rw [Hcs.out]; rfl); have d4 := hgb.cell (i := 4) (v := .string x.client.s) (by rw [Hcs.out]; rfl); clear hq kq bq)
    | fail)
  refine (ca_head _ _ _).mono ?_
  rintro e w' ⟨rfl, rfl⟩
  by_cases h1 : headF x.key x.ver = 0
  case neg =>
    have h1' : (headF x.key x.ver != 0) = true := by simp [h1]
    have HQ := Lib.hid (callEncode1 h1)
    clear h1
    go_wp2
    go_ret2
    exact encRes_bad HQ HB.out
  have h1' : (headF x.key x.ver != 0) = false := by simp [h1]
  obtain ⟨hk, hv0, hv3⟩ := headF_ok h1
  have H1 := Lib.hid h1
  clear h1
  go_wp2_with fail
  refine (ca_client _ x.client OK.out.1).mono ?_
  rintro e w2 ⟨rfl, hb2⟩
  have hgb := hgb.below hb2
  have HB := Lib.hid (HB.out.trans (hb2.mono HB.out.size))
  clear d0 d1 d3 d4 hb2
  by_cases h2 : clientF x.client = 0
  case neg =>
    have h2' : (clientF x.client != 0) = true := by simp [h2]
    have HQ := Lib.hid (callEncode2 H1.out h2)
    clear h2
    go_wp2
    go_ret2
    exact encRes_bad HQ HB.out
  have h2' : (clientF x.client != 0) = false := by simp [h2]
  have H2 := Lib.hid h2
  clear h2
  go_wp2_with (first
    | ((with_reducible refine gate_dst (N := 23) rfl ?_); refine bload_event rfl 79 (.tmp 1) rfl gb 19 cs 79 _ (by rfl) (by exact hgb) Tryz.underlying79 rfl info_Call ?_)
    | fail)
  refine (ca_others w2 x cs A0 A1 A2 c0 c1 c2 Hcs.out).mono ?_
  rintro e w3 ⟨rfl, hb3⟩
  have hgb := hgb.below hb3
  have HB := Lib.hid (HB.out.trans (hb3.mono HB.out.size))
  clear hb3
  cases h3 : othersF x
  · have HQ := Lib.hid (callEncode3 H1.out H2.out h3)
    clear h3
    go_wp2
    go_ret2
    exact encRes_bad HQ HB.out
  have H3 := Lib.hid h3
  clear h3
  have d0 := hgb.cell (i := 0) (v := .int .i16 x.key) (by rw [Hcs.out]; rfl)
  have d1 := hgb.cell (i := 1) (v := .int .i16 x.ver) (by rw [Hcs.out]; rfl)
  go_upto_block 0 with (fail)
  have hgw := Lib.hid hgb
  clear hgb
  go_cut [6, 7] (fun v6 v7 wx => BodyR w wx gb cs 79 19 (callBody x) v6 v7)
  case first =>
    have G0' := Lib.hid (Kd.C_below G0.out HB.out)
    have G1' := Lib.hid (Kd.C_below G1.out HB.out)
    have G2' := Lib.hid (Kd.C_below G2.out HB.out)
    rcases hk with hk | hk | hk
    · have HBd := Lib.hid (callBody0 hk)
      have k0 : (x.key == 0) = true := by simp [hk]
      have p0 := hgw.out.cell (i := 5) (v := .bool x.prod.txn.null) (by rw [Hcs.out]; rfl)
      have p1 := hgw.out.cell (i := 6) (v := .string x.prod.txn.s) (by rw [Hcs.out]; rfl)
      have p2 := hgw.out.cell (i := 7) (v := .int .i16 x.prod.acks) (by rw [Hcs.out]; rfl)
      have p3 := hgw.out.cell (i := 8) (v := .int .i32 x.prod.wait) (by rw [Hcs.out]; rfl)
      have p4 := hgw.out.cell (i := 9) (v := .slice A0 x.prod.topics.length c0) (by rw [Hcs.out]; rfl)
      clear hk
      go_wp2_with fail
      refine (eo_ProdReq w3 x.ver x.prod A0 c0 G0'.out OK.out.2.1).mono ?_
      rintro e w4 ⟨v4, rfl, ho4, hb4⟩
      obtain ⟨A4, c4, rfl⟩ := own_slice ho4
      have HO := Lib.hid ho4
      have HB4 := Lib.hid hb4
      clear ho4 hb4
      go_wp2_with fail
      go_meet
      rw [HBd.out]
      exact ⟨A4, c4, rfl, rfl, own_weaken HO.out HB.out.size, HB.out.trans (HB4.out.mono HB.out.size), hgw.out.below HB4.out⟩
    · have HBd := Lib.hid (callBody1 hk)
      have k0 : (x.key == 0) = false := by simp [hk]
      have k1 : (x.key == 1) = true := by simp [hk]
      have p0 := hgw.out.cell (i := 10) (v := .int .i32 x.fetch.replica) (by rw [Hcs.out]; rfl)
      have p1 := hgw.out.cell (i := 11) (v := .int .i32 x.fetch.wait) (by rw [Hcs.out]; rfl)
      have p2 := hgw.out.cell (i := 12) (v := .int .i32 x.fetch.min) (by rw [Hcs.out]; rfl)
      have p3 := hgw.out.cell (i := 13) (v := .int .i32 x.fetch.max) (by rw [Hcs.out]; rfl)
      have p4 := hgw.out.cell (i := 14) (v := .int .i8 x.fetch.level) (by rw [Hcs.out]; rfl)
      have p5 := hgw.out.cell (i := 15) (v := .slice A1 x.fetch.topics.length c1) (by rw [Hcs.out]; rfl)
      clear hk
      go_wp2_with fail
      refine (eo_FetchReq w3 x.ver x.fetch A1 c1 G1'.out OK.out.2.2.1).mono ?_
      rintro e w4 ⟨v4, rfl, ho4, hb4⟩
      obtain ⟨A4, c4, rfl⟩ := own_slice ho4
      have HO := Lib.hid ho4
      have HB4 := Lib.hid hb4
      clear ho4 hb4
      go_wp2_with fail
      go_meet
      rw [HBd.out]
      exact ⟨A4, c4, rfl, rfl, own_weaken HO.out HB.out.size, HB.out.trans (HB4.out.mono HB.out.size), hgw.out.below HB4.out⟩
    · have HBd := Lib.hid (callBody2 hk)
      have k0 : (x.key == 0) = false := by simp [hk]
      have k1 : (x.key == 1) = false := by simp [hk]
      have k2 : (x.key == 2) = true := by simp [hk]
      have p0 := hgw.out.cell (i := 16) (v := .int .i32 x.list.replica) (by rw [Hcs.out]; rfl)
      have p1 := hgw.out.cell (i := 17) (v := .int .i8 x.list.level) (by rw [Hcs.out]; rfl)
      have p2 := hgw.out.cell (i := 18) (v := .slice A2 x.list.topics.length c2) (by rw [Hcs.out]; rfl)
      clear hk
      go_wp2_with fail
      refine (eo_ListReq w3 x.ver x.list A2 c2 G2'.out OK.out.2.2.2).mono ?_
      rintro e w4 ⟨v4, rfl, ho4, hb4⟩
      obtain ⟨A4, c4, rfl⟩ := own_slice ho4
      have HO := Lib.hid ho4
      have HB4 := Lib.hid hb4
      clear ho4 hb4
      go_wp2_with fail
      go_meet
      rw [HBd.out]
      exact ⟨A4, c4, rfl, rfl, own_weaken HO.out HB.out.size, HB.out.trans (HB4.out.mono HB.out.size), hgw.out.below HB4.out⟩
  case rest =>
    obtain ⟨wn, rfl⟩ := hcut.world
    obtain ⟨A6, c6, rfl, rfl, ho6, hb6, hgb⟩ := hcut
    by_cases h4 : (callBody x).2 = 0
    case neg =>
      have h4' : ((callBody x).2 != 0) = true := by simp [h4]
      have HQ := Lib.hid (callEncode4 H1.out H2.out H3.out h4)
      have HB6 := Lib.hid hb6
      clear h4 hb6 ho6 hgb d0 d1
      go_wp2
      go_ret2
      exact encRes_bad HQ HB6.out
    have h4' : ((callBody x).2 != 0) = false := by simp [h4]
    have HQ := Lib.hid (callEncode5 H1.out H2.out H3.out h4)
    have HR6 := Lib.hid (own_reads' ho6)
    have hbl : (callBody x).1.length ≤ 140737488355328 := by have := len_callBody x; omega
    obtain ⟨hsz, -, -⟩ := clientF_ok H2.out
    have HB6 := Lib.hid hb6
    have hg6 := Lib.hid hgb
    clear h4 hb6 ho6 hgb d0 d1 hk
    go_wp2_with fail
    refine (newWriter wn 131072 (by omega)).mono ?_
    rintro e w5 ⟨rfl, hw5, hb5⟩
    have hE : EnS wn w5 gb 79 19 cs wn.heap.size [] := ⟨hg6.out.below hb5, ⟨_, hw5⟩, hb5⟩
    clear hw5 hb5
    have d0 := hE.blk.cell (i := 0) (v := .int .i16 x.key) (by rw [Hcs.out]; rfl)
    go_wp2_with fail
    obtain ⟨q5, hw⟩ := hE.wr
    refine (wr_i16 _ _ _ q5 _ _ _ hw).mono ?_
    intro e w6 hp
    obtain ⟨rfl, hE⟩ := hE.put (by unfold WrT; decide) hp
    clear d0 hw hp
    have d1 := hE.blk.cell (i := 1) (v := .int .i16 x.ver) (by rw [Hcs.out]; rfl)
    go_wp2_with fail
    obtain ⟨q6, hw⟩ := hE.wr
    refine (wr_i16 _ _ _ q6 _ _ _ hw).mono ?_
    intro e w7 hp
    obtain ⟨rfl, hE⟩ := hE.put (by unfold WrT; decide) hp
    clear d1 hw hp
    have d2 := hE.blk.cell (i := 2) (v := .int .i32 x.corr) (by rw [Hcs.out]; rfl)
    go_wp2_with fail
    obtain ⟨q7, hw⟩ := hE.wr
    refine (wr_i32 _ _ _ q7 _ _ _ hw).mono ?_
    intro e w8 hp
    obtain ⟨rfl, hE⟩ := hE.put (by unfold WrT; decide) hp
    clear d2 hw hp
    have hE : EnS wn w8 gb 79 19 cs wn.heap.size (headW x) := hE
    have d3 := hE.blk.cell (i := 3) (v := .bool x.client.null) (by rw [Hcs.out]; rfl)
    have d4 := hE.blk.cell (i := 4) (v := .string x.client.s) (by rw [Hcs.out]; rfl)
    cases hn : x.client.null
    · have HN := Lib.hid (show nameW x.client (headW x) = wrB (bytesOf x.client.s) (wrB (beL (IntKind.u64.wrap x.client.s.size) 2) (headW x)) by unfold nameW; rw [if_neg (by simp [hn])])
      rw [hn] at d3
      clear hn
      have s2 : IntKind.i16.wrap (x.client.s.size : Int) = x.client.s.size := by simp [IntKind.wrap, IntKind.bits, IntKind.signed]; omega
      have kb := fun W => print_bytes (P := Tryz.prog) 9 22 5 Tryz.underlying9 Tryz.underlying22 Tryz.underlying5 x.client.s W
      go_wp2_with fail
      obtain ⟨q8, hw⟩ := hE.wr
      refine (wr_i16 _ _ _ q8 _ _ x.client.s.size hw).mono ?_
      intro e w9 hp
      obtain ⟨rfl, hE⟩ := hE.put (by unfold WrT; decide) hp
      clear d3 d4 hw hp s2
      have d4 := hE.blk.cell (i := 4) (v := .string x.client.s) (by rw [Hcs.out]; rfl)
      go_wp2_with fail
      have hlen := bytesOf_length x.client.s
      have hb9 : Below w9.heap.size w9 (Lib.bytesWorld w9 5 x.client.s) := bytes_below (Below.refl _ _) (Nat.le_refl _) 5 x.client.s
      have hr9 := Lib.hid (bytes_reads w9 5 x.client.s (by omega))
      have hE := hE.grown hb9
      clear d4 hb9 kb
      generalize Lib.bytesWorld w9 5 x.client.s = w10 at *
      rw [← hlen]
      obtain ⟨q9, hw⟩ := hE.wr
      refine (wr_raw_new _ _ _ q9 _ _ _ _ _ (bytesOf x.client.s) hw (by rw [hlen]; exact hr9.out) (by omega)).mono ?_
      intro e w11 hp
      obtain ⟨rfl, hE⟩ := (hE.grown ((Below.refl _ _).alloc (Nat.le_refl _) _)).put (by unfold WrT; decide) hp
      have hE : EnS wn w11 gb 79 19 cs wn.heap.size (nameW x.client (headW x)) := by rw [HN.out]; exact hE
      clear hw hp hr9 hlen
      go_wp2_with fail
      obtain ⟨q11, hw⟩ := hE.wr
      refine (wr_raw_new _ _ _ q11 _ _ _ _ _ (callBody x).1 hw (HR6.out.below hE.low) hbl).mono ?_
      intro e w12 hp
      obtain ⟨rfl, hE⟩ := (hE.grown ((Below.refl _ _).alloc (Nat.le_refl _) _)).put (by unfold WrT; decide) hp
      clear hw hp
      go_wp2_with fail
      obtain ⟨q12, hw⟩ := hE.wr
      refine (wr_bytes _ _ _ q12 _ _ hw).mono ?_
      rintro e w13 ⟨v13, rfl, ho13, hb13⟩
      obtain ⟨A13, c13, rfl⟩ := own_slice ho13
      have HO := Lib.hid ho13
      have HB13 := Lib.hid (HB6.out.trans ((hE.low.trans (hb13.mono hE.low.size)).mono HB6.out.size))
      have HL := Lib.hid (Nat.le_trans HB6.out.size hE.low.size)
      clear ho13 hb13 hw
      go_wp2
      go_ret2
      rw [HQ.out]
      exact ⟨_, rfl, own_weaken HO.out HL.out, HB13.out⟩
    · have HN := Lib.hid (show nameW x.client (headW x) = wrB (beL (IntKind.u64.wrap (-1)) 2) (headW x) from if_pos hn)
      rw [hn] at d3
      clear hn
      go_wp2_with fail
      obtain ⟨q8, hw⟩ := hE.wr
      refine (wr_i16 _ _ _ q8 _ _ (-1) hw).mono ?_
      intro e w11 hp
      obtain ⟨rfl, hE⟩ := hE.put (by unfold WrT; decide) hp
      have hE : EnS wn w11 gb 79 19 cs wn.heap.size (nameW x.client (headW x)) := by rw [HN.out]; exact hE
      clear d3 d4 hw hp
      go_wp2_with fail
      obtain ⟨q11, hw⟩ := hE.wr
      refine (wr_raw_new _ _ _ q11 _ _ _ _ _ (callBody x).1 hw (HR6.out.below hE.low) hbl).mono ?_
      intro e w12 hp
      obtain ⟨rfl, hE⟩ := (hE.grown ((Below.refl _ _).alloc (Nat.le_refl _) _)).put (by unfold WrT; decide) hp
      clear hw hp
      go_wp2_with fail
      obtain ⟨q12, hw⟩ := hE.wr
      refine (wr_bytes _ _ _ q12 _ _ hw).mono ?_
      rintro e w13 ⟨v13, rfl, ho13, hb13⟩
      obtain ⟨A13, c13, rfl⟩ := own_slice ho13
      have HO := Lib.hid ho13
      have HB13 := Lib.hid (HB6.out.trans ((hE.low.trans (hb13.mono hE.low.size)).mono HB6.out.size))
      have HL := Lib.hid (Nat.le_trans HB6.out.size hE.low.size)
      clear ho13 hb13 hw
      go_wp2
      go_ret2
      rw [HQ.out]
      exact ⟨_, rfl, own_weaken HO.out HL.out, HB13.out⟩
end Go.Proofs.YteckmgmcfngddaaGreat
end

section
/- The layer of calls: Blank, EncodeReply. -/
set_option linter.unusedVariables false
set_option linter.unusedSimpArgs false
namespace Go.Proofs.YteckmgmcfngddaaGreat
open Go.RowKit Go.Proofs.YteckmgmcfngddaaGreatW.PrintWords

theorem info_Reply : (Tryz.prog.info? 86).map (·.size) = some 9 := by kernel_rfl
def replyCells (x : Reply) (A0 A1 A2 : Option Addr) (c0 c1 c2 : Nat) : List Value := [.int .i16 x.key, .int .i16 x.ver, .int .i32 x.corr, .slice A0 x.prod.topics.length c0, .int .i32 x.prod.throttle, .int .i32 x.fetch.throttle, .slice A1 x.fetch.topics.length c1, .int .i32 x.list.throttle, .slice A2 x.list.topics.length c2]
def zProdRep : ProdRep := ⟨[], 0⟩
def zFetchRep : FetchRep := ⟨0, []⟩
def zListRep : ListRep := ⟨0, []⟩
def blankR (x : Call) : Reply := ⟨x.key, x.ver, x.corr, zProdRep, zFetchRep, zListRep⟩
def repF0 (x : Reply) : Bool := x.key == 0 || (x.prod.throttle == 0 && (x.prod.topics.length : Int) == 0)
def repF1 (x : Reply) : Bool := x.key == 1 || (x.fetch.throttle == 0 && (x.fetch.topics.length : Int) == 0)
def repF2 (x : Reply) : Bool := x.key == 2 || (x.list.throttle == 0 && (x.list.topics.length : Int) == 0)
def repOthers (x : Reply) : Bool := repF0 x && (repF1 x && repF2 x)
def repBody (x : Reply) : List Int × Int := if x.key = 0 then encProdRep x.ver x.prod else if x.key = 1 then encFetchRep x.ver x.fetch else encListRep x.ver x.list
theorem repBody0 {x : Reply} (h : x.key = 0) : repBody x = encProdRep x.ver x.prod := if_pos h
theorem repBody1 {x : Reply} (h : x.key = 1) : repBody x = encFetchRep x.ver x.fetch := by unfold repBody; rw [if_neg (by omega), if_pos h]
theorem repBody2 {x : Reply} (h : x.key = 2) : repBody x = encListRep x.ver x.list := by unfold repBody; rw [if_neg (by omega), if_neg (by omega)]
theorem len_repBody (x : Reply) : (repBody x).1.length ≤ 130048 := by
  unfold repBody
  split
  · exact len_ProdRep _ _
  · split
    · exact len_FetchRep _ _
    · exact len_ListRep _ _
def replyEncode (x : Reply) : List Int × Int :=
  if headF x.key x.ver ≠ 0 then ([], headF x.key x.ver) else if repOthers x = false then ([], 7)
  else if (repBody x).2 ≠ 0 then ([], (repBody x).2) else (wrB (repBody x).1 (wrB (beL (IntKind.u64.wrap x.corr) 4) []), 0)
theorem replyEncode1 {x : Reply} (h : ¬ headF x.key x.ver = 0) : replyEncode x = ([], headF x.key x.ver) := if_pos h
theorem replyEncode3 {x : Reply} (h : headF x.key x.ver = 0) (h2 : repOthers x = false) : replyEncode x = ([], 7) := by unfold replyEncode; rw [if_neg (by simpa using h), if_pos h2]
theorem replyEncode4 {x : Reply} (h : headF x.key x.ver = 0) (h2 : repOthers x = true) (h3 : ¬ (repBody x).2 = 0) : replyEncode x = ([], (repBody x).2) := by unfold replyEncode; rw [if_neg (by simpa using h), if_neg (by simp [h2]), if_pos h3]
theorem replyEncode5 {x : Reply} (h : headF x.key x.ver = 0) (h2 : repOthers x = true) (h3 : (repBody x).2 = 0) : replyEncode x = (wrB (repBody x).1 (wrB (beL (IntKind.u64.wrap x.corr) 4) []), 0) := by unfold replyEncode; rw [if_neg (by simpa using h), if_neg (by simp [h2]), if_neg (by simpa using h3)]
def okReply (x : Reply) : Prop := okProdRep x.prod ∧ okFetchRep x.fetch ∧ okListRep x.list

set_option maxRecDepth 100000 in
set_option maxHeartbeats 3200000 in
theorem ca_blank (w : World) (x : Call) (cs : List Value) (A0 A1 A2 : Option Addr) (c0 c1 c2 : Nat) (h : cs = callCells x A0 A1 A2 c0 c1 c2) :
    Calls Tryz.prog 36 #[.agg cs.toArray] w fun e w' => e = .returned (.agg (replyCells (blankR x) none none none 0 0 0).toArray) ∧ Below w.heap.size w w' := by
  have hl : cs.length = 19 := by rw [h]; rfl
  have ho : ∀ v ∈ cs, v.oneCell' = true := by rw [h]; simp [callCells, Value.oneCell']
  have Hcs := Lib.hid h
  clear h
  go_enter Tryz.func36, Tryz.ntmps36
  go_wp2_with (first
    | ((with_reducible refine gate_dst (N := 1) rfl ?_); refine box_event ?hg (N := 1) ?hd (cs := cs.toArray) (t := 79) ?hr ?_; (case hd => rfl); (case hg => rfl); (case hr => first | (go_simp; done) | (go_simp; rfl)); intro gb hq w1 kq bq; have hgb : Blk w1 gb 79 19 cs := ⟨kq, hl, ho⟩; have HB := Lib.hid bq; clear hq kq bq)
    | ((with_reducible refine gate_dst (N := 2) rfl ?_); refine box_event ?hg (N := 2) ?hd (cs := #[.int .i16 0, .int .i16 0, .int .i32 0, .slice none 0 0, .int .i32 0, .int .i32 0, .slice none 0 0, .int .i32 0, .slice none 0 0]) (t := 86) ?hr ?_; (case hd => rfl); (case hg => rfl); (case hr => first | (go_simp; done) | (go_simp; rfl)); intro gc hq w2 kq bq; have hgc : Blk w2 gc 86 9 (replyCells (blankR ⟨0, 0, 0, zName, zProdReq, zFetchReq, zListReq⟩) none none none 0 0 0) := ⟨kq, rfl, by simp [replyCells, Value.oneCell']⟩; have hgb := hgb.below bq; have hsg := Lib.hid (Nat.le_trans HB.out.size (Nat.le_of_eq hq.symm)); have HB := Lib.hid (HB.out.trans (bq.mono HB.out.size)); have d0 := hgb.cell (i := 0) (v := .int .i16 x.key) (by rw [Hcs.out]; rfl); have d1 := hgb.cell (i := 1) (v := .int .i16 x.ver) (by rw [Hcs.out]; rfl); have d2 := hgb.cell (i := 2) (v := .int .i32 x.corr) (by rw [Hcs.out]; rfl); clear hq kq bq)
    | (refine bfull_event rfl 86 (.tmp 2) (.tmp 9) rfl rfl gc 9 _ (replyCells (blankR x) none none none 0 0 0) 86 (by rfl) (by rfl) (by exact hgc) rfl info_Reply (by simp [replyCells, Value.oneCell']) ?_; intro w3 kj mj; have HB := Lib.hid (belowFresh HB.out mj hsg.out); have hgc := kj; clear kj mj)
    | fail)
  refine bodyPost_ret (results_blk1 rfl (by rfl) hgc Tryz.underlying86 rfl info_Reply) rfl ?_
  exact ⟨rfl, HB.out⟩

set_option maxRecDepth 100000 in
set_option maxHeartbeats 25600000 in
theorem ca_encodeReply (w : World) (x : Reply) (cs : List Value) (A0 A1 A2 : Option Addr) (c0 c1 c2 : Nat) (h : cs = replyCells x A0 A1 A2 c0 c1 c2)
    (g0 : kProdGone.C w A0 x.prod.topics.length x.prod.topics) (g1 : kFetchGone.C w A1 x.fetch.topics.length x.fetch.topics) (g2 : kListGone.C w A2 x.list.topics.length x.list.topics) (hok : okReply x) :
    Calls Tryz.prog 41 #[.agg cs.toArray] w (EncRes (replyEncode x) w) := by
  have hl : cs.length = 9 := by rw [h]; rfl
  have ho : ∀ v ∈ cs, v.oneCell' = true := by rw [h]; simp [replyCells, Value.oneCell']
  have hm0 := Kd.C_max g0
  have hm1 := Kd.C_max g1
  have hm2 := Kd.C_max g2
  have Hcs := Lib.hid h
  have G0 := Lib.hid g0
  have G1 := Lib.hid g1
  have G2 := Lib.hid g2
  have OK := Lib.hid hok
  clear h g0 g1 g2 hok
  go_enter Tryz.func41, Tryz.ntmps41
  go_wp2_with (first
    | ((with_reducible refine gate_dst (N := 1) rfl ?_); refine box_event ?hg (N := 1) ?hd (cs := cs.toArray) (t := 86) ?hr ?_; (case hd => rfl); (case hg => rfl); (case hr => first | (go_simp; done) | (go_simp; rfl)); intro gb hq w1 kq bq; have hgb : Blk w1 gb 86 9 cs := ⟨kq, hl, ho⟩; have HB := Lib.hid bq; have d0 := hgb.cell (i := 0) (v := .int .i16 x.key) (by rw [Hcs.out]; rfl); have d1 := hgb.cell (i := 1) (v := .int .i16 x.ver) (by rw [Hcs.out]; rfl); clear hq kq bq)
    | fail)
  refine (ca_head _ _ _).mono ?_
  rintro e wo ⟨rfl, rfl⟩
  by_cases h1 : headF x.key x.ver = 0
  case neg =>
    have h1' : (headF x.key x.ver != 0) = true := by simp [h1]
    have HQ := Lib.hid (replyEncode1 h1)
    clear h1
    go_wp2
    go_ret2
    exact encRes_bad HQ HB.out
  have h1' : (headF x.key x.ver != 0) = false := by simp [h1]
  obtain ⟨hk, hv0, hv3⟩ := headF_ok h1
  have H1 := Lib.hid h1
  clear h1
  clear d0 d1
  have d0 := hgb.cell (i := 0) (v := .int .i16 x.key) (by rw [Hcs.out]; rfl)
  have d1 := hgb.cell (i := 1) (v := .int .i16 x.ver) (by rw [Hcs.out]; rfl)
  have d2 := hgb.cell (i := 2) (v := .int .i32 x.corr) (by rw [Hcs.out]; rfl)
  have d3 := hgb.cell (i := 3) (v := .slice A0 x.prod.topics.length c0) (by rw [Hcs.out]; rfl)
  have d4 := hgb.cell (i := 4) (v := .int .i32 x.prod.throttle) (by rw [Hcs.out]; rfl)
  have d5 := hgb.cell (i := 5) (v := .int .i32 x.fetch.throttle) (by rw [Hcs.out]; rfl)
  have d6 := hgb.cell (i := 6) (v := .slice A1 x.fetch.topics.length c1) (by rw [Hcs.out]; rfl)
  have d7 := hgb.cell (i := 7) (v := .int .i32 x.list.throttle) (by rw [Hcs.out]; rfl)
  have d8 := hgb.cell (i := 8) (v := .slice A2 x.list.topics.length c2) (by rw [Hcs.out]; rfl)
  have hgw := Lib.hid hgb
  have HK := Lib.hid hk
  clear hgb hk
  go_upto_region 4 with (fail)
  go_cut [5] (fun v wx => wo = wx ∧ v = .bool (repF0 x))
  case first =>
    cases e0 : (x.key == 0)
    · skip
      cases e1 : (x.prod.throttle == 0)
      · go_wp2_with fail
        go_meet
        exact ⟨rfl, by simp [repF0, *]⟩
      · skip
        cases e2 : ((x.prod.topics.length : Int) == 0)
        · go_wp2_with fail
          go_meet
          exact ⟨rfl, by simp [repF0, *]⟩
        · skip
          go_wp2_with fail
          go_meet
          exact ⟨rfl, by simp [repF0, *]⟩
    · go_wp2_with fail
      go_meet
      exact ⟨rfl, by simp [repF0, *]⟩
  case rest =>
  obtain ⟨rfl, rfl⟩ := hcut
  go_upto_region 5 with (fail)
  go_cut [6] (fun v wx => wo = wx ∧ v = .bool (repF1 x))
  case first =>
    cases e0 : (x.key == 1)
    · skip
      cases e1 : (x.fetch.throttle == 0)
      · go_wp2_with fail
        go_meet
        exact ⟨rfl, by simp [repF1, *]⟩
      · skip
        cases e2 : ((x.fetch.topics.length : Int) == 0)
        · go_wp2_with fail
          go_meet
          exact ⟨rfl, by simp [repF1, *]⟩
        · skip
          go_wp2_with fail
          go_meet
          exact ⟨rfl, by simp [repF1, *]⟩
    · go_wp2_with fail
      go_meet
      exact ⟨rfl, by simp [repF1, *]⟩
  case rest =>
  obtain ⟨rfl, rfl⟩ := hcut
  go_upto_region 6 with (fail)
  go_cut [7] (fun v wx => wo = wx ∧ v = .bool (repF2 x))
  case first =>
    cases e0 : (x.key == 2)
    · skip
      cases e1 : (x.list.throttle == 0)
      · go_wp2_with fail
        go_meet
        exact ⟨rfl, by simp [repF2, *]⟩
      · skip
        cases e2 : ((x.list.topics.length : Int) == 0)
        · go_wp2_with fail
          go_meet
          exact ⟨rfl, by simp [repF2, *]⟩
        · skip
          go_wp2_with fail
          go_meet
          exact ⟨rfl, by simp [repF2, *]⟩
    · go_wp2_with fail
      go_meet
      exact ⟨rfl, by simp [repF2, *]⟩
  case rest =>
  obtain ⟨rfl, rfl⟩ := hcut
  cases h3 : repOthers x
  · have HQ := Lib.hid (replyEncode3 H1.out h3)
    have h3' : (repF0 x && (repF1 x && repF2 x)) = false := h3
    clear h3
    cases p1 : repF0 x
    · go_wp2
      go_ret2
      exact encRes_bad HQ HB.out
    · cases p2 : repF1 x
      · go_wp2
        go_ret2
        exact encRes_bad HQ HB.out
      · have p3 : repF2 x = false := by simpa [p1, p2] using h3'
        go_wp2
        go_ret2
        exact encRes_bad HQ HB.out
  have H3 := Lib.hid h3
  have hqq : repF0 x = true ∧ repF1 x = true ∧ repF2 x = true := by simpa [repOthers] using h3
  obtain ⟨p1, p2, p3⟩ := hqq
  rw [p1, p2, p3]
  clear h3 p1 p2 p3
  have hk := HK.out
  go_upto_block 0 with (fail)
  go_cut [8, 9] (fun v6 v7 wx => BodyR w wx gb cs 86 9 (repBody x) v6 v7)
  case first =>
    have G0' := Lib.hid (Kd.C_below G0.out HB.out)
    have G1' := Lib.hid (Kd.C_below G1.out HB.out)
    have G2' := Lib.hid (Kd.C_below G2.out HB.out)
    rcases hk with hk | hk | hk
    · have HBd := Lib.hid (repBody0 hk)
      have k0 : (x.key == 0) = true := by simp [hk]
      clear hk
      go_wp2_with fail
      refine (eo_ProdRep wo x.ver x.prod A0 c0 G0'.out OK.out.1).mono ?_
      rintro e w4 ⟨v4, rfl, ho4, hb4⟩
      obtain ⟨A4, c4, rfl⟩ := own_slice ho4
      have HO := Lib.hid ho4
      have HB4 := Lib.hid hb4
      clear ho4 hb4
      go_wp2_with fail
      go_meet
      rw [HBd.out]
      exact ⟨A4, c4, rfl, rfl, own_weaken HO.out HB.out.size, HB.out.trans (HB4.out.mono HB.out.size), hgw.out.below HB4.out⟩
    · have HBd := Lib.hid (repBody1 hk)
      have k0 : (x.key == 0) = false := by simp [hk]
      have k1 : (x.key == 1) = true := by simp [hk]
      clear hk
      go_wp2_with fail
      refine (eo_FetchRep wo x.ver x.fetch A1 c1 G1'.out OK.out.2.1).mono ?_
      rintro e w4 ⟨v4, rfl, ho4, hb4⟩
      obtain ⟨A4, c4, rfl⟩ := own_slice ho4
      have HO := Lib.hid ho4
      have HB4 := Lib.hid hb4
      clear ho4 hb4
      go_wp2_with fail
      go_meet
      rw [HBd.out]
      exact ⟨A4, c4, rfl, rfl, own_weaken HO.out HB.out.size, HB.out.trans (HB4.out.mono HB.out.size), hgw.out.below HB4.out⟩
    · have HBd := Lib.hid (repBody2 hk)
      have k0 : (x.key == 0) = false := by simp [hk]
      have k1 : (x.key == 1) = false := by simp [hk]
      have k2 : (x.key == 2) = true := by simp [hk]
      clear hk
      go_wp2_with fail
      refine (eo_ListRep wo x.ver x.list A2 c2 G2'.out OK.out.2.2).mono ?_
      rintro e w4 ⟨v4, rfl, ho4, hb4⟩
      obtain ⟨A4, c4, rfl⟩ := own_slice ho4
      have HO := Lib.hid ho4
      have HB4 := Lib.hid hb4
      clear ho4 hb4
      go_wp2_with fail
      go_meet
      rw [HBd.out]
      exact ⟨A4, c4, rfl, rfl, own_weaken HO.out HB.out.size, HB.out.trans (HB4.out.mono HB.out.size), hgw.out.below HB4.out⟩
  case rest =>
    obtain ⟨wn, rfl⟩ := hcut.world
    obtain ⟨A6, c6, rfl, rfl, ho6, hb6, hgb⟩ := hcut
    clear d0 d1 d2 d3 d4 d5 d6 d7 d8
    by_cases h4 : (repBody x).2 = 0
    case neg =>
      have h4' : ((repBody x).2 != 0) = true := by simp [h4]
      have HQ := Lib.hid (replyEncode4 H1.out H3.out h4)
      have HB6 := Lib.hid hb6
      clear h4 hb6 ho6 hgb
      go_wp2
      go_ret2
      exact encRes_bad HQ HB6.out
    have h4' : ((repBody x).2 != 0) = false := by simp [h4]
    have HQ := Lib.hid (replyEncode5 H1.out H3.out h4)
    have HR6 := Lib.hid (own_reads' ho6)
    have hbl : (repBody x).1.length ≤ 140737488355328 := by have := len_repBody x; omega
    have HB6 := Lib.hid hb6
    have hg6 := Lib.hid hgb
    clear h4 hb6 ho6 hgb hk
    go_wp2_with fail
    refine (newWriter wn 131072 (by omega)).mono ?_
    rintro e w5 ⟨rfl, hw5, hb5⟩
    have hE : EnS wn w5 gb 86 9 cs wn.heap.size [] := ⟨hg6.out.below hb5, ⟨_, hw5⟩, hb5⟩
    clear hw5 hb5
    have d2 := hE.blk.cell (i := 2) (v := .int .i32 x.corr) (by rw [Hcs.out]; rfl)
    go_wp2_with fail
    obtain ⟨q7, hw⟩ := hE.wr
    refine (wr_i32 _ _ _ q7 _ _ _ hw).mono ?_
    intro e w8 hp
    obtain ⟨rfl, hE⟩ := hE.put (by unfold WrT; decide) hp
    clear d2 hw hp
    go_wp2_with fail
    obtain ⟨q11, hw⟩ := hE.wr
    refine (wr_raw_new _ _ _ q11 _ _ _ _ _ (repBody x).1 hw (HR6.out.below hE.low) hbl).mono ?_
    intro e w12 hp
    obtain ⟨rfl, hE⟩ := (hE.grown ((Below.refl _ _).alloc (Nat.le_refl _) _)).put (by unfold WrT; decide) hp
    clear hw hp
    go_wp2_with fail
    obtain ⟨q12, hw⟩ := hE.wr
    refine (wr_bytes _ _ _ q12 _ _ hw).mono ?_
    rintro e w13 ⟨v13, rfl, ho13, hb13⟩
    obtain ⟨A13, c13, rfl⟩ := own_slice ho13
    have HO := Lib.hid ho13
    have HB13 := Lib.hid (HB6.out.trans ((hE.low.trans (hb13.mono hE.low.size)).mono HB6.out.size))
    have HL := Lib.hid (Nat.le_trans HB6.out.size hE.low.size)
    clear ho13 hb13 hw
    go_wp2
    go_ret2
    rw [HQ.out]
    exact ⟨_, rfl, own_weaken HO.out HL.out, HB13.out⟩

end Go.Proofs.YteckmgmcfngddaaGreat
end

section
/- The reader of a part: ProdDone. -/
set_option linter.unusedVariables false
set_option linter.unusedSimpArgs false
namespace Go.Proofs.YteckmgmcfngddaaGreat
open Go.RowKit Go.Proofs.YteckmgmcfngddaaGreatW.PrintWords

def rdProdDone (d : DS) : ProdDone × DS :=
  let r0 := d.i32
  let r1 := r0.2.i16
  let r2 := r1.2.i64
  let r3 := if r2.2.has 2 3 = true then r2.2.i64 else (0, r2.2)
  let r4 := if r3.2.has 3 3 = true then r3.2.i64 else (0, r3.2)
  (⟨r0.1, r1.1, r2.1, r3.1, r4.1⟩, r4.2)

set_option maxRecDepth 100000 in
set_option maxHeartbeats 6400000 in
theorem cl_ProdDone (w : World) (p g bx : Nat) (rv : Value) (d : DS) (h : Cl w p g bx rv d) :
    Calls Tryz.prog 90 #[.pointer (some ⟨bx, 0, none⟩)] w (ClPostM kProdDone p g bx rv (rdProdDone d).1 (rdProdDone d).2 w) := by
  have hmf : ∀ (fn : Fn) (first cap : Array Value) (w : World), (Instr.makeFunc fn first cap).run Tryz.prog w = .ok (.func fn first cap) w := fun _ _ _ _ => rfl
  go_enter Tryz.func90, Tryz.ntmps90
  go_wp2_with (first | ((with_reducible refine gate_dst (N := 1) rfl ?_); refine box_event ?hg (N := 1) ?hd (cs := #[.int .i32 0, .int .i16 0, .int .i64 0, .int .i64 0, .int .i64 0]) (t := 165) ?hr ?_; (case hd => rfl); (case hg => rfl); (case hr => first | (go_simp; done) | (go_simp; rfl)); intro gb hgb w0 kgb bgb; have hc0 := h.below bgb; have hm0 : Mod (DecS p g) w w0 := Mod.of_below bgb; have hg0 : Hid (w0.heap[gb]? = some (.cells #[.int .i32 0, .int .i16 0, .int .i64 0, .int .i64 0, .int .i64 0] 165 (0, 0))) := kgb; have hc := h.below bgb; have hbx := blk_ne hc.box kgb (by decide); have hngb : Hid (¬ DecS p g gb) := h.new (Nat.le_of_eq hgb.symm); have hsgb : Hid (w.heap.size ≤ gb) := Nat.le_of_eq hgb.symm; have hg : Hid (w0.drew.heap[gb]? = some (.cells #[.int .i32 0, .int .i16 0, .int .i64 0, .int .i64 0, .int .i64 0] 165 (0, 0))) := kgb; have hm : Mod (DecS p g) w w0.drew := (Mod.of_below bgb).drew; have hc := hc.drew; have cx := hc.cell; clear hgb kgb bgb))
  go_simp
  go_cut [2] (fun v2 wx => ∃ gt, v2 = .pointer (some ⟨gt, 0, none⟩) ∧ Cl wx p g bx rv d.i32.2.i16.2.i64.2 ∧ Hid (wx.heap[gb]? = some (.cells #[.int .i32 0, .int .i16 0, .int .i64 0, .int .i64 0, .int .i64 0] 165 (0, 0))) ∧ Hid (wx.heap[gt]? = some (.cells #[.int .i32 (d.i32.1), .int .i16 (d.i32.2.i16.1), .int .i64 (d.i32.2.i16.2.i64.1), .int .i64 0, .int .i64 0] 165 (0, 0))) ∧ Mod (DecS p g) w wx ∧ Hid (w.heap.size ≤ gt) ∧ Hid (gb ≠ gt))
  case first =>
    go_region_held3 (fun w' => w'.cell? ⟨bx, 0, none⟩ = some (.pointer (some ⟨p, 0, none⟩))) (first | with_reducible exact cx | with_reducible exact (hc.alloc _).cell | with_reducible exact (hc0.alloc _).drew.cell | with_reducible exact (cell_far (by assumption)).trans ((cell_far (by assumption)).trans ((cell_far (by assumption)).trans ((cell_far (by assumption)).trans ((cell_far (by assumption)).trans (hc.cell))))) | with_reducible exact (cell_far (by assumption)).trans ((cell_far (by assumption)).trans ((cell_far (by assumption)).trans ((cell_far (by assumption)).trans ((cell_far (by assumption)).trans ((hc.alloc _).cell))))))
      (first
        | (go_at_call 58; (with_reducible refine (cl_i32 _ p g bx rv _ hc).mono ?_); rintro e wn ⟨rfl, hc2, mn⟩; (try (have ht := hid_mod ht mn hnt; have ft := fun i => blk_frozen ht.out i; have t0 := blk_cell ht.out 0; have t1 := blk_cell ht.out 1; have t2 := blk_cell ht.out 2; have t3 := blk_cell ht.out 3; have t4 := blk_cell ht.out 4; simp at t0 t1 t2 t3 t4)); have hg := hid_mod hg mn hngb; have hm := hm.trans mn; have hc := hc2; have cx := hc.cell; clear hc2 mn)
        | (go_at_call 58; (with_reducible refine (cl_i32 _ p g bx rv _ (hc.alloc (Obj.cells #[.int .i32 0, .int .i16 0, .int .i64 0, .int .i64 0, .int .i64 0] 165 (0, 0)))).mono ?_); rintro e wn ⟨rfl, hc2, mn⟩; have hst : Hid (w.heap.size ≤ _) := hm.size; have hnt := Lib.hid (h.new hst.out); have hgt2 := hid_neOf hg; have hbt := Nat.ne_of_lt (blk_lt hc.box); have ht := hid_newOf hm (Obj.cells #[.int .i32 0, .int .i16 0, .int .i64 0, .int .i64 0, .int .i64 0] 165 (0, 0)); have hg := hid_oldOf hg (Obj.cells #[.int .i32 0, .int .i16 0, .int .i64 0, .int .i64 0, .int .i64 0] 165 (0, 0)); have hm := hm.alloc (Obj.cells #[.int .i32 0, .int .i16 0, .int .i64 0, .int .i64 0, .int .i64 0] 165 (0, 0)); (try (have ht := hid_mod ht mn hnt; have ft := fun i => blk_frozen ht.out i; have t0 := blk_cell ht.out 0; have t1 := blk_cell ht.out 1; have t2 := blk_cell ht.out 2; have t3 := blk_cell ht.out 3; have t4 := blk_cell ht.out 4; simp at t0 t1 t2 t3 t4)); have hg := hid_mod hg mn hngb; have hm := hm.trans mn; have hc := hc2; have cx := hc.cell; clear hc2 mn)
        | (go_at_call 58; (with_reducible refine (cl_i32 _ p g bx rv _ ((hc0.alloc (Obj.cells #[.int .i32 0, .int .i16 0, .int .i64 0, .int .i64 0, .int .i64 0] 165 (0, 0))).drew)).mono ?_); rintro e wn ⟨rfl, hc2, mn⟩; have hst : Hid (w.heap.size ≤ _) := hm0.size; have hnt := Lib.hid (h.new hst.out); have hgt2 := hid_neOf hg0; have hbt := Nat.ne_of_lt (blk_lt hc0.box); have ht : Hid ((w0.alloc (Obj.cells #[.int .i32 0, .int .i16 0, .int .i64 0, .int .i64 0, .int .i64 0] 165 (0, 0))).drew.heap[w0.heap.size]? = some (Obj.cells #[.int .i32 0, .int .i16 0, .int .i64 0, .int .i64 0, .int .i64 0] 165 (0, 0))) := hid_newOf hm0 (Obj.cells #[.int .i32 0, .int .i16 0, .int .i64 0, .int .i64 0, .int .i64 0] 165 (0, 0)); have hg : Hid ((w0.alloc (Obj.cells #[.int .i32 0, .int .i16 0, .int .i64 0, .int .i64 0, .int .i64 0] 165 (0, 0))).drew.heap[gb]? = some (Obj.cells #[.int .i32 0, .int .i16 0, .int .i64 0, .int .i64 0, .int .i64 0] 165 (0, 0))) := hid_oldOf hg0 (Obj.cells #[.int .i32 0, .int .i16 0, .int .i64 0, .int .i64 0, .int .i64 0] 165 (0, 0)); have hm : Mod (DecS p g) w (w0.alloc (Obj.cells #[.int .i32 0, .int .i16 0, .int .i64 0, .int .i64 0, .int .i64 0] 165 (0, 0))).drew := (hm0.alloc (Obj.cells #[.int .i32 0, .int .i16 0, .int .i64 0, .int .i64 0, .int .i64 0] 165 (0, 0))).drew; (try (have ht := hid_mod ht mn hnt; have ft := fun i => blk_frozen ht.out i; have t0 := blk_cell ht.out 0; have t1 := blk_cell ht.out 1; have t2 := blk_cell ht.out 2; have t3 := blk_cell ht.out 3; have t4 := blk_cell ht.out 4; simp at t0 t1 t2 t3 t4)); have hg := hid_mod hg mn hngb; have hm := hm.trans mn; have hc := hc2; have cx := hc.cell; clear hc2 mn)
        | (go_at_call 57; (with_reducible refine (cl_i16 _ p g bx rv _ hc).mono ?_); rintro e wn ⟨rfl, hc2, mn⟩; (try (have ht := hid_mod ht mn hnt; have ft := fun i => blk_frozen ht.out i; have t0 := blk_cell ht.out 0; have t1 := blk_cell ht.out 1; have t2 := blk_cell ht.out 2; have t3 := blk_cell ht.out 3; have t4 := blk_cell ht.out 4; simp at t0 t1 t2 t3 t4)); have hg := hid_mod hg mn hngb; have hm := hm.trans mn; have hc := hc2; have cx := hc.cell; clear hc2 mn)
        | (go_at_call 57; (with_reducible refine (cl_i16 _ p g bx rv _ (hc.alloc (Obj.cells #[.int .i32 0, .int .i16 0, .int .i64 0, .int .i64 0, .int .i64 0] 165 (0, 0)))).mono ?_); rintro e wn ⟨rfl, hc2, mn⟩; have hst : Hid (w.heap.size ≤ _) := hm.size; have hnt := Lib.hid (h.new hst.out); have hgt2 := hid_neOf hg; have hbt := Nat.ne_of_lt (blk_lt hc.box); have ht := hid_newOf hm (Obj.cells #[.int .i32 0, .int .i16 0, .int .i64 0, .int .i64 0, .int .i64 0] 165 (0, 0)); have hg := hid_oldOf hg (Obj.cells #[.int .i32 0, .int .i16 0, .int .i64 0, .int .i64 0, .int .i64 0] 165 (0, 0)); have hm := hm.alloc (Obj.cells #[.int .i32 0, .int .i16 0, .int .i64 0, .int .i64 0, .int .i64 0] 165 (0, 0)); (try (have ht := hid_mod ht mn hnt; have ft := fun i => blk_frozen ht.out i; have t0 := blk_cell ht.out 0; have t1 := blk_cell ht.out 1; have t2 := blk_cell ht.out 2; have t3 := blk_cell ht.out 3; have t4 := blk_cell ht.out 4; simp at t0 t1 t2 t3 t4)); have hg := hid_mod hg mn hngb; have hm := hm.trans mn; have hc := hc2; have cx := hc.cell; clear hc2 mn)
        | (go_at_call 57; (with_reducible refine (cl_i16 _ p g bx rv _ ((hc0.alloc (Obj.cells #[.int .i32 0, .int .i16 0, .int .i64 0, .int .i64 0, .int .i64 0] 165 (0, 0))).drew)).mono ?_); rintro e wn ⟨rfl, hc2, mn⟩; have hst : Hid (w.heap.size ≤ _) := hm0.size; have hnt := Lib.hid (h.new hst.out); have hgt2 := hid_neOf hg0; have hbt := Nat.ne_of_lt (blk_lt hc0.box); have ht : Hid ((w0.alloc (Obj.cells #[.int .i32 0, .int .i16 0, .int .i64 0, .int .i64 0, .int .i64 0] 165 (0, 0))).drew.heap[w0.heap.size]? = some (Obj.cells #[.int .i32 0, .int .i16 0, .int .i64 0, .int .i64 0, .int .i64 0] 165 (0, 0))) := hid_newOf hm0 (Obj.cells #[.int .i32 0, .int .i16 0, .int .i64 0, .int .i64 0, .int .i64 0] 165 (0, 0)); have hg : Hid ((w0.alloc (Obj.cells #[.int .i32 0, .int .i16 0, .int .i64 0, .int .i64 0, .int .i64 0] 165 (0, 0))).drew.heap[gb]? = some (Obj.cells #[.int .i32 0, .int .i16 0, .int .i64 0, .int .i64 0, .int .i64 0] 165 (0, 0))) := hid_oldOf hg0 (Obj.cells #[.int .i32 0, .int .i16 0, .int .i64 0, .int .i64 0, .int .i64 0] 165 (0, 0)); have hm : Mod (DecS p g) w (w0.alloc (Obj.cells #[.int .i32 0, .int .i16 0, .int .i64 0, .int .i64 0, .int .i64 0] 165 (0, 0))).drew := (hm0.alloc (Obj.cells #[.int .i32 0, .int .i16 0, .int .i64 0, .int .i64 0, .int .i64 0] 165 (0, 0))).drew; (try (have ht := hid_mod ht mn hnt; have ft := fun i => blk_frozen ht.out i; have t0 := blk_cell ht.out 0; have t1 := blk_cell ht.out 1; have t2 := blk_cell ht.out 2; have t3 := blk_cell ht.out 3; have t4 := blk_cell ht.out 4; simp at t0 t1 t2 t3 t4)); have hg := hid_mod hg mn hngb; have hm := hm.trans mn; have hc := hc2; have cx := hc.cell; clear hc2 mn)
        | (go_at_call 91; (with_reducible refine (cl_i64 _ p g bx rv _ hc).mono ?_); rintro e wn ⟨rfl, hc2, mn⟩; (try (have ht := hid_mod ht mn hnt; have ft := fun i => blk_frozen ht.out i; have t0 := blk_cell ht.out 0; have t1 := blk_cell ht.out 1; have t2 := blk_cell ht.out 2; have t3 := blk_cell ht.out 3; have t4 := blk_cell ht.out 4; simp at t0 t1 t2 t3 t4)); have hg := hid_mod hg mn hngb; have hm := hm.trans mn; have hc := hc2; have cx := hc.cell; clear hc2 mn)
        | (go_at_call 91; (with_reducible refine (cl_i64 _ p g bx rv _ (hc.alloc (Obj.cells #[.int .i32 0, .int .i16 0, .int .i64 0, .int .i64 0, .int .i64 0] 165 (0, 0)))).mono ?_); rintro e wn ⟨rfl, hc2, mn⟩; have hst : Hid (w.heap.size ≤ _) := hm.size; have hnt := Lib.hid (h.new hst.out); have hgt2 := hid_neOf hg; have hbt := Nat.ne_of_lt (blk_lt hc.box); have ht := hid_newOf hm (Obj.cells #[.int .i32 0, .int .i16 0, .int .i64 0, .int .i64 0, .int .i64 0] 165 (0, 0)); have hg := hid_oldOf hg (Obj.cells #[.int .i32 0, .int .i16 0, .int .i64 0, .int .i64 0, .int .i64 0] 165 (0, 0)); have hm := hm.alloc (Obj.cells #[.int .i32 0, .int .i16 0, .int .i64 0, .int .i64 0, .int .i64 0] 165 (0, 0)); (try (have ht := hid_mod ht mn hnt; have ft := fun i => blk_frozen ht.out i; have t0 := blk_cell ht.out 0; have t1 := blk_cell ht.out 1; have t2 := blk_cell ht.out 2; have t3 := blk_cell ht.out 3; have t4 := blk_cell ht.out 4; simp at t0 t1 t2 t3 t4)); have hg := hid_mod hg mn hngb; have hm := hm.trans mn; have hc := hc2; have cx := hc.cell; clear hc2 mn)
        | (go_at_call 91; (with_reducible refine (cl_i64 _ p g bx rv _ ((hc0.alloc (Obj.cells #[.int .i32 0, .int .i16 0, .int .i64 0, .int .i64 0, .int .i64 0] 165 (0, 0))).drew)).mono ?_); rintro e wn ⟨rfl, hc2, mn⟩; have hst : Hid (w.heap.size ≤ _) := hm0.size; have hnt := Lib.hid (h.new hst.out); have hgt2 := hid_neOf hg0; have hbt := Nat.ne_of_lt (blk_lt hc0.box); have ht : Hid ((w0.alloc (Obj.cells #[.int .i32 0, .int .i16 0, .int .i64 0, .int .i64 0, .int .i64 0] 165 (0, 0))).drew.heap[w0.heap.size]? = some (Obj.cells #[.int .i32 0, .int .i16 0, .int .i64 0, .int .i64 0, .int .i64 0] 165 (0, 0))) := hid_newOf hm0 (Obj.cells #[.int .i32 0, .int .i16 0, .int .i64 0, .int .i64 0, .int .i64 0] 165 (0, 0)); have hg : Hid ((w0.alloc (Obj.cells #[.int .i32 0, .int .i16 0, .int .i64 0, .int .i64 0, .int .i64 0] 165 (0, 0))).drew.heap[gb]? = some (Obj.cells #[.int .i32 0, .int .i16 0, .int .i64 0, .int .i64 0, .int .i64 0] 165 (0, 0))) := hid_oldOf hg0 (Obj.cells #[.int .i32 0, .int .i16 0, .int .i64 0, .int .i64 0, .int .i64 0] 165 (0, 0)); have hm : Mod (DecS p g) w (w0.alloc (Obj.cells #[.int .i32 0, .int .i16 0, .int .i64 0, .int .i64 0, .int .i64 0] 165 (0, 0))).drew := (hm0.alloc (Obj.cells #[.int .i32 0, .int .i16 0, .int .i64 0, .int .i64 0, .int .i64 0] 165 (0, 0))).drew; (try (have ht := hid_mod ht mn hnt; have ft := fun i => blk_frozen ht.out i; have t0 := blk_cell ht.out 0; have t1 := blk_cell ht.out 1; have t2 := blk_cell ht.out 2; have t3 := blk_cell ht.out 3; have t4 := blk_cell ht.out 4; simp at t0 t1 t2 t3 t4)); have hg := hid_mod hg mn hngb; have hm := hm.trans mn; have hc := hc2; have cx := hc.cell; clear hc2 mn)
        | fail)
    all_goals (go_wp2_with fail; go_meet; first | (with_reducible exact ⟨_, rfl, hc.alloc _, hid_oldOf hg _, hid_newOf hm _, hm.alloc _, Lib.hid hm.size, hid_neOf hg⟩) | exact ⟨_, rfl, (((((hc.far ht.out (by decide) (by decide) (by decide) (by decide) 0 _).far (hid_set ht 0 _).out (by decide) (by decide) (by decide) (by decide) 1 _).far (hid_set (hid_set ht 0 _) 1 _).out (by decide) (by decide) (by decide) (by decide) 2 _).far (hid_set (hid_set (hid_set ht 0 _) 1 _) 2 _).out (by decide) (by decide) (by decide) (by decide) 3 _).far (hid_set (hid_set (hid_set (hid_set ht 0 _) 1 _) 2 _) 3 _).out (by decide) (by decide) (by decide) (by decide) 4 _), (hid_far (hid_far (hid_far (hid_far (hid_far hg hgt2) hgt2) hgt2) hgt2) hgt2), hid_cast (hid_set (hid_set (hid_set (hid_set (hid_set ht 0 _) 1 _) 2 _) 3 _) 4 _) rfl, (modFar (modFar (modFar (modFar (modFar hm hst 0 _) hst 1 _) hst 2 _) hst 3 _) hst 4 _), hst, hgt2⟩)
  case rest =>
    obtain ⟨gt, rfl, hc, hg, ht, hm, hst, hgt2⟩ := hcut
    have cx := hc.cell
    have hnt : Hid (¬ DecS p g gt) := h.new hst.out
    have hbt := blk_ne hc.box ht.out (by decide)
    go_wp2_with fail
    refine (cl_has wc p g bx rv d.i32.2.i16.2.i64.2 2 3 hc).mono ?_
    rintro e wh0 ⟨rfl, hc2, mn⟩
    replace hg := hid_mod hg mn hngb
    replace ht := hid_mod ht mn hnt
    replace hm := hm.trans mn
    replace hc := hc2
    have cx := hc.cell
    clear hc2 mn
    cases hh0 : d.i32.2.i16.2.i64.2.has 2 3
    · -- no
      go_wp2_with fail
      refine (cl_has wh0 p g bx rv d.i32.2.i16.2.i64.2 3 3 hc).mono ?_
      rintro e wh1 ⟨rfl, hc2, mn⟩
      replace hg := hid_mod hg mn hngb
      replace ht := hid_mod ht mn hnt
      replace hm := hm.trans mn
      replace hc := hc2
      have cx := hc.cell
      clear hc2 mn
      cases hh1 : d.i32.2.i16.2.i64.2.has 3 3
      · -- no
        have fg := fun i => blk_frozen hg.out i
        have t0 : wh1.cell? ⟨gt, 0, none⟩ = _ := blk_cell ht.out 0
        have z0 : wh1.cell? ⟨gb, 0, none⟩ = _ := blk_cell hg.out 0
        have t1 : wh1.cell? ⟨gt, 1, none⟩ = _ := blk_cell ht.out 1
        have z1 : wh1.cell? ⟨gb, 1, none⟩ = _ := blk_cell hg.out 1
        have t2 : wh1.cell? ⟨gt, 2, none⟩ = _ := blk_cell ht.out 2
        have z2 : wh1.cell? ⟨gb, 2, none⟩ = _ := blk_cell hg.out 2
        have t3 : wh1.cell? ⟨gt, 3, none⟩ = _ := blk_cell ht.out 3
        have z3 : wh1.cell? ⟨gb, 3, none⟩ = _ := blk_cell hg.out 3
        have t4 : wh1.cell? ⟨gt, 4, none⟩ = _ := blk_cell ht.out 4
        have z4 : wh1.cell? ⟨gb, 4, none⟩ = _ := blk_cell hg.out 4
        simp at t0 z0 t1 z1 t2 z2 t3 z3 t4 z4
        go_wp2
        have erd : rdProdDone d = (⟨d.i32.1, d.i32.2.i16.1, d.i32.2.i16.2.i64.1, 0, 0⟩, d.i32.2.i16.2.i64.2) := by simp only [rdProdDone, hh0, hh1, Bool.false_eq_true, if_true, if_false]
        rw [erd]
        refine bodyPost_ret (v := .agg #[.int .i32 (d.i32.1), .int .i16 (d.i32.2.i16.1), .int .i64 (d.i32.2.i16.2.i64.1), .int .i64 0, .int .i64 0]) (by simp [results, Tryz.results90, go_sem, z0, z1, z2, z3, z4]) rfl ⟨[.int .i32 (d.i32.1), .int .i16 (d.i32.2.i16.1), .int .i64 (d.i32.2.i16.2.i64.1), .int .i64 0, .int .i64 0], rfl, ?_, ?_, ?_⟩
        · exact kProdDone_mkM _ _ _ (⟨d.i32.1, d.i32.2.i16.1, d.i32.2.i16.2.i64.1, 0, 0⟩ : ProdDone)
        · exact (((((hc.far hg.out (by decide) (by decide) (by decide) (by decide) 0 _).far (hid_set hg 0 _).out (by decide) (by decide) (by decide) (by decide) 1 _).far (hid_set (hid_set hg 0 _) 1 _).out (by decide) (by decide) (by decide) (by decide) 2 _).far (hid_set (hid_set (hid_set hg 0 _) 1 _) 2 _).out (by decide) (by decide) (by decide) (by decide) 3 _).far (hid_set (hid_set (hid_set (hid_set hg 0 _) 1 _) 2 _) 3 _).out (by decide) (by decide) (by decide) (by decide) 4 _)
        · exact (modFar (modFar (modFar (modFar (modFar hm hsgb 0 _) hsgb 1 _) hsgb 2 _) hsgb 3 _) hsgb 4 _)
      · -- yes
        go_wp2_with fail
        refine (cl_i64 wh1 p g bx rv d.i32.2.i16.2.i64.2 hc).mono ?_
        rintro e wstart_1 ⟨rfl, hc2, mn⟩
        replace hg := hid_mod hg mn hngb
        replace ht := hid_mod ht mn hnt
        replace hm := hm.trans mn
        replace hc := hc2
        have cx := hc.cell
        clear hc2 mn
        have ft := fun i => blk_frozen ht.out i
        have t4 : wstart_1.cell? ⟨gt, 4, none⟩ = _ := blk_cell ht.out 4
        simp at t4
        have cx1 : (wstart_1.setCell ⟨gt, 4, none⟩ (.int .i64 (d.i32.2.i16.2.i64.2.i64.1))).cell? ⟨bx, 0, none⟩ = some (.pointer (some ⟨p, 0, none⟩)) := (cell_far hbt).trans (hc.cell)
        have hc1 : Cl (wstart_1.setCell ⟨gt, 4, none⟩ (.int .i64 (d.i32.2.i16.2.i64.2.i64.1))) p g bx rv d.i32.2.i16.2.i64.2.i64.2 := (hc.far ht.out (by decide) (by decide) (by decide) (by decide) 4 _)
        have hg1 : Hid ((wstart_1.setCell ⟨gt, 4, none⟩ (.int .i64 (d.i32.2.i16.2.i64.2.i64.1))).heap[gb]? = some (.cells #[.int .i32 0, .int .i16 0, .int .i64 0, .int .i64 0, .int .i64 0] 165 (0, 0))) := (hid_far hg hgt2)
        have ht1 : Hid ((wstart_1.setCell ⟨gt, 4, none⟩ (.int .i64 (d.i32.2.i16.2.i64.2.i64.1))).heap[gt]? = some (.cells #[.int .i32 (d.i32.1), .int .i16 (d.i32.2.i16.1), .int .i64 (d.i32.2.i16.2.i64.1), .int .i64 0, .int .i64 (d.i32.2.i16.2.i64.2.i64.1)] 165 (0, 0))) := hid_cast (hid_set ht 4 (.int .i64 (d.i32.2.i16.2.i64.2.i64.1))) rfl
        have hm1 : Mod (DecS p g) w (wstart_1.setCell ⟨gt, 4, none⟩ (.int .i64 (d.i32.2.i16.2.i64.2.i64.1))) := (modFar hm hst 4 _)
        replace hc := hc1
        replace hg := hg1
        replace ht := ht1
        replace hm := hm1
        clear hc1 hg1 ht1 hm1
        have fg := fun i => blk_frozen hg.out i
        have t0 : (wstart_1.setCell ⟨gt, 4, none⟩ (.int .i64 (d.i32.2.i16.2.i64.2.i64.1))).cell? ⟨gt, 0, none⟩ = _ := blk_cell ht.out 0
        have z0 : (wstart_1.setCell ⟨gt, 4, none⟩ (.int .i64 (d.i32.2.i16.2.i64.2.i64.1))).cell? ⟨gb, 0, none⟩ = _ := blk_cell hg.out 0
        have t1 : (wstart_1.setCell ⟨gt, 4, none⟩ (.int .i64 (d.i32.2.i16.2.i64.2.i64.1))).cell? ⟨gt, 1, none⟩ = _ := blk_cell ht.out 1
        have z1 : (wstart_1.setCell ⟨gt, 4, none⟩ (.int .i64 (d.i32.2.i16.2.i64.2.i64.1))).cell? ⟨gb, 1, none⟩ = _ := blk_cell hg.out 1
        have t2 : (wstart_1.setCell ⟨gt, 4, none⟩ (.int .i64 (d.i32.2.i16.2.i64.2.i64.1))).cell? ⟨gt, 2, none⟩ = _ := blk_cell ht.out 2
        have z2 : (wstart_1.setCell ⟨gt, 4, none⟩ (.int .i64 (d.i32.2.i16.2.i64.2.i64.1))).cell? ⟨gb, 2, none⟩ = _ := blk_cell hg.out 2
        have t3 : (wstart_1.setCell ⟨gt, 4, none⟩ (.int .i64 (d.i32.2.i16.2.i64.2.i64.1))).cell? ⟨gt, 3, none⟩ = _ := blk_cell ht.out 3
        have z3 : (wstart_1.setCell ⟨gt, 4, none⟩ (.int .i64 (d.i32.2.i16.2.i64.2.i64.1))).cell? ⟨gb, 3, none⟩ = _ := blk_cell hg.out 3
        have t4 : (wstart_1.setCell ⟨gt, 4, none⟩ (.int .i64 (d.i32.2.i16.2.i64.2.i64.1))).cell? ⟨gt, 4, none⟩ = _ := blk_cell ht.out 4
        have z4 : (wstart_1.setCell ⟨gt, 4, none⟩ (.int .i64 (d.i32.2.i16.2.i64.2.i64.1))).cell? ⟨gb, 4, none⟩ = _ := blk_cell hg.out 4
        simp at t0 z0 t1 z1 t2 z2 t3 z3 t4 z4
        go_wp2
        have erd : rdProdDone d = (⟨d.i32.1, d.i32.2.i16.1, d.i32.2.i16.2.i64.1, 0, d.i32.2.i16.2.i64.2.i64.1⟩, d.i32.2.i16.2.i64.2.i64.2) := by simp only [rdProdDone, hh0, hh1, Bool.false_eq_true, if_true, if_false]
        rw [erd]
        refine bodyPost_ret (v := .agg #[.int .i32 (d.i32.1), .int .i16 (d.i32.2.i16.1), .int .i64 (d.i32.2.i16.2.i64.1), .int .i64 0, .int .i64 (d.i32.2.i16.2.i64.2.i64.1)]) (by simp [results, Tryz.results90, go_sem, z0, z1, z2, z3, z4]) rfl ⟨[.int .i32 (d.i32.1), .int .i16 (d.i32.2.i16.1), .int .i64 (d.i32.2.i16.2.i64.1), .int .i64 0, .int .i64 (d.i32.2.i16.2.i64.2.i64.1)], rfl, ?_, ?_, ?_⟩
        · exact kProdDone_mkM _ _ _ (⟨d.i32.1, d.i32.2.i16.1, d.i32.2.i16.2.i64.1, 0, d.i32.2.i16.2.i64.2.i64.1⟩ : ProdDone)
        · exact (((((hc.far hg.out (by decide) (by decide) (by decide) (by decide) 0 _).far (hid_set hg 0 _).out (by decide) (by decide) (by decide) (by decide) 1 _).far (hid_set (hid_set hg 0 _) 1 _).out (by decide) (by decide) (by decide) (by decide) 2 _).far (hid_set (hid_set (hid_set hg 0 _) 1 _) 2 _).out (by decide) (by decide) (by decide) (by decide) 3 _).far (hid_set (hid_set (hid_set (hid_set hg 0 _) 1 _) 2 _) 3 _).out (by decide) (by decide) (by decide) (by decide) 4 _)
        · exact (modFar (modFar (modFar (modFar (modFar hm hsgb 0 _) hsgb 1 _) hsgb 2 _) hsgb 3 _) hsgb 4 _)
    · -- yes
      go_wp2_with fail
      refine (cl_i64 wh0 p g bx rv d.i32.2.i16.2.i64.2 hc).mono ?_
      rintro e wtime_0 ⟨rfl, hc2, mn⟩
      replace hg := hid_mod hg mn hngb
      replace ht := hid_mod ht mn hnt
      replace hm := hm.trans mn
      replace hc := hc2
      have cx := hc.cell
      clear hc2 mn
      have ft := fun i => blk_frozen ht.out i
      have t3 : wtime_0.cell? ⟨gt, 3, none⟩ = _ := blk_cell ht.out 3
      simp at t3
      have cx1 : (wtime_0.setCell ⟨gt, 3, none⟩ (.int .i64 (d.i32.2.i16.2.i64.2.i64.1))).cell? ⟨bx, 0, none⟩ = some (.pointer (some ⟨p, 0, none⟩)) := (cell_far hbt).trans (hc.cell)
      have hc1 : Cl (wtime_0.setCell ⟨gt, 3, none⟩ (.int .i64 (d.i32.2.i16.2.i64.2.i64.1))) p g bx rv d.i32.2.i16.2.i64.2.i64.2 := (hc.far ht.out (by decide) (by decide) (by decide) (by decide) 3 _)
      have hg1 : Hid ((wtime_0.setCell ⟨gt, 3, none⟩ (.int .i64 (d.i32.2.i16.2.i64.2.i64.1))).heap[gb]? = some (.cells #[.int .i32 0, .int .i16 0, .int .i64 0, .int .i64 0, .int .i64 0] 165 (0, 0))) := (hid_far hg hgt2)
      have ht1 : Hid ((wtime_0.setCell ⟨gt, 3, none⟩ (.int .i64 (d.i32.2.i16.2.i64.2.i64.1))).heap[gt]? = some (.cells #[.int .i32 (d.i32.1), .int .i16 (d.i32.2.i16.1), .int .i64 (d.i32.2.i16.2.i64.1), .int .i64 (d.i32.2.i16.2.i64.2.i64.1), .int .i64 0] 165 (0, 0))) := hid_cast (hid_set ht 3 (.int .i64 (d.i32.2.i16.2.i64.2.i64.1))) rfl
      have hm1 : Mod (DecS p g) w (wtime_0.setCell ⟨gt, 3, none⟩ (.int .i64 (d.i32.2.i16.2.i64.2.i64.1))) := (modFar hm hst 3 _)
      replace hc := hc1
      replace hg := hg1
      replace ht := ht1
      replace hm := hm1
      clear hc1 hg1 ht1 hm1
      go_wp2_with fail
      refine (cl_has (wtime_0.setCell ⟨gt, 3, none⟩ (.int .i64 (d.i32.2.i16.2.i64.2.i64.1))) p g bx rv d.i32.2.i16.2.i64.2.i64.2 3 3 hc).mono ?_
      rintro e wh1 ⟨rfl, hc2, mn⟩
      replace hg := hid_mod hg mn hngb
      replace ht := hid_mod ht mn hnt
      replace hm := hm.trans mn
      replace hc := hc2
      have cx := hc.cell
      clear hc2 mn
      cases hh1 : d.i32.2.i16.2.i64.2.i64.2.has 3 3
      · -- no
        have fg := fun i => blk_frozen hg.out i
        have t0 : wh1.cell? ⟨gt, 0, none⟩ = _ := blk_cell ht.out 0
        have z0 : wh1.cell? ⟨gb, 0, none⟩ = _ := blk_cell hg.out 0
        have t1 : wh1.cell? ⟨gt, 1, none⟩ = _ := blk_cell ht.out 1
        have z1 : wh1.cell? ⟨gb, 1, none⟩ = _ := blk_cell hg.out 1
        have t2 : wh1.cell? ⟨gt, 2, none⟩ = _ := blk_cell ht.out 2
        have z2 : wh1.cell? ⟨gb, 2, none⟩ = _ := blk_cell hg.out 2
        have t3 : wh1.cell? ⟨gt, 3, none⟩ = _ := blk_cell ht.out 3
        have z3 : wh1.cell? ⟨gb, 3, none⟩ = _ := blk_cell hg.out 3
        have t4 : wh1.cell? ⟨gt, 4, none⟩ = _ := blk_cell ht.out 4
        have z4 : wh1.cell? ⟨gb, 4, none⟩ = _ := blk_cell hg.out 4
        simp at t0 z0 t1 z1 t2 z2 t3 z3 t4 z4
        go_wp2
        have erd : rdProdDone d = (⟨d.i32.1, d.i32.2.i16.1, d.i32.2.i16.2.i64.1, d.i32.2.i16.2.i64.2.i64.1, 0⟩, d.i32.2.i16.2.i64.2.i64.2) := by simp only [rdProdDone, hh0, hh1, Bool.false_eq_true, if_true, if_false]
        rw [erd]
        refine bodyPost_ret (v := .agg #[.int .i32 (d.i32.1), .int .i16 (d.i32.2.i16.1), .int .i64 (d.i32.2.i16.2.i64.1), .int .i64 (d.i32.2.i16.2.i64.2.i64.1), .int .i64 0]) (by simp [results, Tryz.results90, go_sem, z0, z1, z2, z3, z4]) rfl ⟨[.int .i32 (d.i32.1), .int .i16 (d.i32.2.i16.1), .int .i64 (d.i32.2.i16.2.i64.1), .int .i64 (d.i32.2.i16.2.i64.2.i64.1), .int .i64 0], rfl, ?_, ?_, ?_⟩
        · exact kProdDone_mkM _ _ _ (⟨d.i32.1, d.i32.2.i16.1, d.i32.2.i16.2.i64.1, d.i32.2.i16.2.i64.2.i64.1, 0⟩ : ProdDone)
        · exact (((((hc.far hg.out (by decide) (by decide) (by decide) (by decide) 0 _).far (hid_set hg 0 _).out (by decide) (by decide) (by decide) (by decide) 1 _).far (hid_set (hid_set hg 0 _) 1 _).out (by decide) (by decide) (by decide) (by decide) 2 _).far (hid_set (hid_set (hid_set hg 0 _) 1 _) 2 _).out (by decide) (by decide) (by decide) (by decide) 3 _).far (hid_set (hid_set (hid_set (hid_set hg 0 _) 1 _) 2 _) 3 _).out (by decide) (by decide) (by decide) (by decide) 4 _)
        · exact (modFar (modFar (modFar (modFar (modFar hm hsgb 0 _) hsgb 1 _) hsgb 2 _) hsgb 3 _) hsgb 4 _)
      · -- yes
        go_wp2_with fail
        refine (cl_i64 wh1 p g bx rv d.i32.2.i16.2.i64.2.i64.2 hc).mono ?_
        rintro e wstart_1 ⟨rfl, hc2, mn⟩
        replace hg := hid_mod hg mn hngb
        replace ht := hid_mod ht mn hnt
        replace hm := hm.trans mn
        replace hc := hc2
        have cx := hc.cell
        clear hc2 mn
        have ft := fun i => blk_frozen ht.out i
        have t4 : wstart_1.cell? ⟨gt, 4, none⟩ = _ := blk_cell ht.out 4
        simp at t4
        have cx1 : (wstart_1.setCell ⟨gt, 4, none⟩ (.int .i64 (d.i32.2.i16.2.i64.2.i64.2.i64.1))).cell? ⟨bx, 0, none⟩ = some (.pointer (some ⟨p, 0, none⟩)) := (cell_far hbt).trans (hc.cell)
        have hc1 : Cl (wstart_1.setCell ⟨gt, 4, none⟩ (.int .i64 (d.i32.2.i16.2.i64.2.i64.2.i64.1))) p g bx rv d.i32.2.i16.2.i64.2.i64.2.i64.2 := (hc.far ht.out (by decide) (by decide) (by decide) (by decide) 4 _)
        have hg1 : Hid ((wstart_1.setCell ⟨gt, 4, none⟩ (.int .i64 (d.i32.2.i16.2.i64.2.i64.2.i64.1))).heap[gb]? = some (.cells #[.int .i32 0, .int .i16 0, .int .i64 0, .int .i64 0, .int .i64 0] 165 (0, 0))) := (hid_far hg hgt2)
        have ht1 : Hid ((wstart_1.setCell ⟨gt, 4, none⟩ (.int .i64 (d.i32.2.i16.2.i64.2.i64.2.i64.1))).heap[gt]? = some (.cells #[.int .i32 (d.i32.1), .int .i16 (d.i32.2.i16.1), .int .i64 (d.i32.2.i16.2.i64.1), .int .i64 (d.i32.2.i16.2.i64.2.i64.1), .int .i64 (d.i32.2.i16.2.i64.2.i64.2.i64.1)] 165 (0, 0))) := hid_cast (hid_set ht 4 (.int .i64 (d.i32.2.i16.2.i64.2.i64.2.i64.1))) rfl
        have hm1 : Mod (DecS p g) w (wstart_1.setCell ⟨gt, 4, none⟩ (.int .i64 (d.i32.2.i16.2.i64.2.i64.2.i64.1))) := (modFar hm hst 4 _)
        replace hc := hc1
        replace hg := hg1
        replace ht := ht1
        replace hm := hm1
        clear hc1 hg1 ht1 hm1
        have fg := fun i => blk_frozen hg.out i
        have t0 : (wstart_1.setCell ⟨gt, 4, none⟩ (.int .i64 (d.i32.2.i16.2.i64.2.i64.2.i64.1))).cell? ⟨gt, 0, none⟩ = _ := blk_cell ht.out 0
        have z0 : (wstart_1.setCell ⟨gt, 4, none⟩ (.int .i64 (d.i32.2.i16.2.i64.2.i64.2.i64.1))).cell? ⟨gb, 0, none⟩ = _ := blk_cell hg.out 0
        have t1 : (wstart_1.setCell ⟨gt, 4, none⟩ (.int .i64 (d.i32.2.i16.2.i64.2.i64.2.i64.1))).cell? ⟨gt, 1, none⟩ = _ := blk_cell ht.out 1
        have z1 : (wstart_1.setCell ⟨gt, 4, none⟩ (.int .i64 (d.i32.2.i16.2.i64.2.i64.2.i64.1))).cell? ⟨gb, 1, none⟩ = _ := blk_cell hg.out 1
        have t2 : (wstart_1.setCell ⟨gt, 4, none⟩ (.int .i64 (d.i32.2.i16.2.i64.2.i64.2.i64.1))).cell? ⟨gt, 2, none⟩ = _ := blk_cell ht.out 2
        have z2 : (wstart_1.setCell ⟨gt, 4, none⟩ (.int .i64 (d.i32.2.i16.2.i64.2.i64.2.i64.1))).cell? ⟨gb, 2, none⟩ = _ := blk_cell hg.out 2
        have t3 : (wstart_1.setCell ⟨gt, 4, none⟩ (.int .i64 (d.i32.2.i16.2.i64.2.i64.2.i64.1))).cell? ⟨gt, 3, none⟩ = _ := blk_cell ht.out 3
        have z3 : (wstart_1.setCell ⟨gt, 4, none⟩ (.int .i64 (d.i32.2.i16.2.i64.2.i64.2.i64.1))).cell? ⟨gb, 3, none⟩ = _ := blk_cell hg.out 3
        have t4 : (wstart_1.setCell ⟨gt, 4, none⟩ (.int .i64 (d.i32.2.i16.2.i64.2.i64.2.i64.1))).cell? ⟨gt, 4, none⟩ = _ := blk_cell ht.out 4
        have z4 : (wstart_1.setCell ⟨gt, 4, none⟩ (.int .i64 (d.i32.2.i16.2.i64.2.i64.2.i64.1))).cell? ⟨gb, 4, none⟩ = _ := blk_cell hg.out 4
        simp at t0 z0 t1 z1 t2 z2 t3 z3 t4 z4
        go_wp2
        have erd : rdProdDone d = (⟨d.i32.1, d.i32.2.i16.1, d.i32.2.i16.2.i64.1, d.i32.2.i16.2.i64.2.i64.1, d.i32.2.i16.2.i64.2.i64.2.i64.1⟩, d.i32.2.i16.2.i64.2.i64.2.i64.2) := by simp only [rdProdDone, hh0, hh1, Bool.false_eq_true, if_true, if_false]
        rw [erd]
        refine bodyPost_ret (v := .agg #[.int .i32 (d.i32.1), .int .i16 (d.i32.2.i16.1), .int .i64 (d.i32.2.i16.2.i64.1), .int .i64 (d.i32.2.i16.2.i64.2.i64.1), .int .i64 (d.i32.2.i16.2.i64.2.i64.2.i64.1)]) (by simp [results, Tryz.results90, go_sem, z0, z1, z2, z3, z4]) rfl ⟨[.int .i32 (d.i32.1), .int .i16 (d.i32.2.i16.1), .int .i64 (d.i32.2.i16.2.i64.1), .int .i64 (d.i32.2.i16.2.i64.2.i64.1), .int .i64 (d.i32.2.i16.2.i64.2.i64.2.i64.1)], rfl, ?_, ?_, ?_⟩
        · exact kProdDone_mkM _ _ _ (⟨d.i32.1, d.i32.2.i16.1, d.i32.2.i16.2.i64.1, d.i32.2.i16.2.i64.2.i64.1, d.i32.2.i16.2.i64.2.i64.2.i64.1⟩ : ProdDone)
        · exact (((((hc.far hg.out (by decide) (by decide) (by decide) (by decide) 0 _).far (hid_set hg 0 _).out (by decide) (by decide) (by decide) (by decide) 1 _).far (hid_set (hid_set hg 0 _) 1 _).out (by decide) (by decide) (by decide) (by decide) 2 _).far (hid_set (hid_set (hid_set hg 0 _) 1 _) 2 _).out (by decide) (by decide) (by decide) (by decide) 3 _).far (hid_set (hid_set (hid_set (hid_set hg 0 _) 1 _) 2 _) 3 _).out (by decide) (by decide) (by decide) (by decide) 4 _)
        · exact (modFar (modFar (modFar (modFar (modFar hm hsgb 0 _) hsgb 1 _) hsgb 2 _) hsgb 3 _) hsgb 4 _)

end Go.Proofs.YteckmgmcfngddaaGreat
end

section
/- A list of parts: ProdDone. -/
set_option linter.unusedVariables false
set_option linter.unusedSimpArgs false
namespace Go.Proofs.YteckmgmcfngddaaGreat
open Go.RowKit Go.Proofs.YteckmgmcfngddaaGreatW.PrintWords

theorem info_ProdDone : (Tryz.prog.info? 165).map (fun i => (i.zero, i.size, i.bytes)) = some (some (.agg #[.int .i32 0, .int .i16 0, .int .i64 0, .int .i64 0, .int .i64 0]), 5, 32) := by kernel_rfl
set_option maxRecDepth 100000 in
set_option maxHeartbeats 6400000 in
theorem cl_list_ProdDone (w : World) (p g bx : Nat) (rv : Value) (d : DS) (h : Cl w p g bx rv d) :
    Calls Tryz.prog 89 #[.pointer (some ⟨p, 0, none⟩), .func (.func 90) #[] #[.pointer (some ⟨bx, 0, none⟩)]] w (ClPostR kProdDone 165 p g bx rv (rdList rdProdDone d).1 (rdList rdProdDone d).2 w) := by
  obtain ⟨r0, r1⟩ := d.i32_range
  go_enter Tryz.func89, Tryz.ntmps89
  go_wp2_with fail
  refine (cl_i32 w p g bx rv d h).mono ?_
  rintro e w1 ⟨rfl, h1, m1⟩
  obtain ⟨q, hbk⟩ := h1.dec.blk
  have c2 : w1.cell? ⟨p, 2, none⟩ = _ := blk_cell hbk 2
  have f2 := blk_frozen hbk 2
  simp at c2
  clear hbk
  go_upto_block 0 with fail
  go_cut [10] (fun v10 wx => Cl wx p g bx rv (rdHead d) ∧ Mod (DecS p g) w wx)
  case first =>
    by_cases he : d.i32.2.e = 0
    · have he' : (d.i32.2.e != 0) = false := by simp [he]
      by_cases h0 : d.i32.1 < 0
      · have h0' : decide (d.i32.1 < 0) = true := by simpa using h0
        have hh := Lib.hid (rdHead_neg he h0)
        clear he
        go_wp2
        go_meet
        rw [hh.out]
        exact ⟨h1.failed 5 (by decide), m1.trans (mod_dec' p g 0 _)⟩
      · have h0' : decide (d.i32.1 < 0) = false := by simpa using h0
        by_cases h2 : d.i32.1 > 16
        · have h2' : decide (d.i32.1 > 16) = true := by simpa using h2
          have hh := Lib.hid (rdHead_big he h0 h2)
          clear he
          go_wp2
          go_meet
          rw [hh.out]
          exact ⟨h1.failed 9 (by decide), m1.trans (mod_dec' p g 0 _)⟩
        · have h2' : decide (d.i32.1 > 16) = false := by simpa using h2
          have hh := Lib.hid (rdHead_ok he h0 h2)
          clear he
          go_wp2
          go_meet
          rw [hh.out]
          exact ⟨h1, m1⟩
    · have he' : (d.i32.2.e != 0) = true := by simp [he]
      have hh := Lib.hid (rdHead_err he)
      clear he
      go_wp2
      go_meet
      rw [hh.out]
      exact ⟨h1, m1⟩
  case rest =>
    obtain ⟨hc, hm⟩ := hcut
    clear c2 f2 h1 m1
    go_wp2_with fail
    go_loopg [6, 7] (d.i32.1.toNat) (fun gk v6 v7 wr => ∃ (k : Nat) (out : List ProdDone) (dk : DS) (A : Option Addr) (c : Nat), v7 = .int .i32 k ∧ v6 = .slice A out.length c ∧ Hid (out.length = k) ∧ k + gk ≤ 2147483647 ∧ Hid (gk + k = d.i32.1.toNat) ∧ kProdDone.R 165 wr w.heap.size (fun _ => True) (.slice A out.length c) out ∧ Cl wr p g bx rv dk ∧ Mod (DecS p g) w wr ∧ Hid (rdGo rdProdDone gk out dk = rdList rdProdDone d) ∧ Hid (dk.e = 0 → d.i32.1 ≤ 16))
    case atStart => exact ⟨0, [], rdHead d, none, 0, rfl, rfl, rfl, by omega, by simp [Hid], Kd.R_nil _ _ _ _ _, hc, hm, rfl, rdHead_le d⟩
    case round =>
      obtain ⟨k, out, dk, A, c, rfl, rfl, hok, hk2, hgk, ho, hcr, hmr, heq, hle⟩ := hrel
      clear hc hm
      obtain ⟨q, hbk⟩ := hcr.dec.blk
      have c2 : wr.cell? ⟨p, 2, none⟩ = _ := blk_cell hbk 2
      simp at c2
      clear hbk
      by_cases hlt : (k : Int) < d.i32.1
      · have hlt' : decide ((k : Int) < d.i32.1) = true := by simpa using hlt
        by_cases he : dk.e = 0
        · have he' : (dk.e == 0) = true := by simp [he]
          have hn16 := hle.out he
          obtain ⟨j, rfl⟩ : ∃ j, gk = j + 1 := ⟨gk - 1, by have := hgk.out; omega⟩
          have hstep : Hid (rdGo rdProdDone j (out ++ [(rdProdDone dk).1]) (rdProdDone dk).2 = rdList rdProdDone d) := Lib.hid (by rw [← heq.out]; exact (rdGo_step rdProdDone j out dk he).symm)
          clear he heq
          go_wp2_with fail
          refine (cl_ProdDone wr p g bx rv dk hcr).mono ?_
          rintro e w2 ⟨cs, rfl, kv, hc2, mn⟩
          obtain rfl := kProdDone_openM kv
          have ho2 := R_mod ho mn (fun q hq => h.new hq)
          have hlen : (out.length + 1) * 32 ≤ 140737488355328 := by have := hok.out; omega
          have HLEN := Lib.hid hlen
          clear hlen
          go_wp2_with (at_builtin; refine Kd.R_append kProdDone (w0 := w2) w.heap.size rfl (.tmp 40) (.tmp 43) 160 165 (.agg #[.int .i32 0, .int .i16 0, .int .i64 0, .int .i64 0, .int .i64 0]) 32 rfl Tryz.underlying160 info_ProdDone rfl (by decide) (by decide) _ out (rdProdDone dk).1 [.int .i32 (rdProdDone dk).1.index, .int .i16 (rdProdDone dk).1.code, .int .i64 (rdProdDone dk).1.base, .int .i64 (rdProdDone dk).1.time, .int .i64 (rdProdDone dk).1.start] (fun _ => True) (fun q => some q ≠ (Value.slice A out.length c).ownBlock) rfl rfl (M_fresh kv ho (Nat.le_refl _) hmr.size) (fun q hq => ⟨trivial, hq⟩) (fun _ _ => trivial) ho2 (Below.refl _ _) (Nat.le_trans hmr.size mn.size) HLEN.out ?_; intro v1 w3 ho3 hb3 hg3 hat3)
          obtain ⟨A', c', rfl⟩ := Kd.R_slice ho3
          have hc3 : Cl w3 p g bx rv (rdProdDone dk).2 := hc2.grown hg3 (fun q hq => by obtain ⟨cs, hcs⟩ := R_owntyped ho2 q hq; exact ⟨cs, _, hcs, by decide, by decide, by decide, by decide⟩)
          have hm3 : Mod (DecS p g) w w3 := (hmr.trans mn).grown hg3 (fun q hq => R_ownge ho2 q hq)
          clear hat3 hb3 hg3
          go_wp2
          go_roundg j
          case measure => omega
          case rel => exact ⟨k + 1, out ++ [(rdProdDone dk).1], (rdProdDone dk).2, A', c', by go_num, by simp, Lib.hid (by have := hok.out; simp [this]), by omega, Lib.hid (by have := hgk.out; omega), ho3, hc3, hm3, hstep, fun _ => hn16⟩
        · have he' : (dk.e == 0) = false := by simp [he]
          have hend : Hid (rdList rdProdDone d = (out, dk)) := Lib.hid (by rw [← heq.out]; exact rdGo_stop rdProdDone gk out dk he)
          clear he heq
          go_wp2
          go_ret
          rw [hend.out]
          exact ⟨A, c, rfl, ho, hcr, hmr⟩
      · have hlt' : decide ((k : Int) < d.i32.1) = false := by simpa using hlt
        have hend : Hid (rdList rdProdDone d = (out, dk)) := Lib.hid (by
          rw [← heq.out]
          have := hgk.out
          rw [show gk = 0 from by omega]
          rfl)
        clear heq
        go_wp2
        go_ret
        rw [hend.out]
        exact ⟨A, c, rfl, ho, hcr, hmr⟩

end Go.Proofs.YteckmgmcfngddaaGreat
end

section
/- The reader of a part: ProdGone. -/
set_option linter.unusedVariables false
set_option linter.unusedSimpArgs false
namespace Go.Proofs.YteckmgmcfngddaaGreat
open Go.RowKit Go.Proofs.YteckmgmcfngddaaGreatW.PrintWords

def rdProdGone (d : DS) : ProdGone × DS :=
  let r0 := d.str
  let r1 := (rdList rdProdDone r0.2)
  (⟨r0.1, r1.1⟩, r1.2)

set_option maxRecDepth 100000 in
set_option maxHeartbeats 6400000 in
theorem cl_ProdGone (w : World) (p g bx : Nat) (rv : Value) (d : DS) (h : Cl w p g bx rv d) :
    Calls Tryz.prog 88 #[.pointer (some ⟨bx, 0, none⟩)] w (ClPostM kProdGone p g bx rv (rdProdGone d).1 (rdProdGone d).2 w) := by
  have hmf : ∀ (fn : Fn) (first cap : Array Value) (w : World), (Instr.makeFunc fn first cap).run Tryz.prog w = .ok (.func fn first cap) w := fun _ _ _ _ => rfl
  go_enter Tryz.func88, Tryz.ntmps88
  go_wp2_with (first | ((with_reducible refine gate_dst (N := 1) rfl ?_); refine box_event ?hg (N := 1) ?hd (cs := #[.string ⟨#[]⟩, .slice none 0 0]) (t := 162) ?hr ?_; (case hd => rfl); (case hg => rfl); (case hr => first | (go_simp; done) | (go_simp; rfl)); intro gb hgb w0 kgb bgb; have hc0 := h.below bgb; have hm0 : Mod (DecS p g) w w0 := Mod.of_below bgb; have hg0 : Hid (w0.heap[gb]? = some (.cells #[.string ⟨#[]⟩, .slice none 0 0] 162 (0, 0))) := kgb; have hc := h.below bgb; have hbx := blk_ne hc.box kgb (by decide); have hngb : Hid (¬ DecS p g gb) := h.new (Nat.le_of_eq hgb.symm); have hsgb : Hid (w.heap.size ≤ gb) := Nat.le_of_eq hgb.symm; have hg : Hid (w0.heap[gb]? = some (.cells #[.string ⟨#[]⟩, .slice none 0 0] 162 (0, 0))) := kgb; have hm : Mod (DecS p g) w w0 := (Mod.of_below bgb); have cx := hc.cell; clear hgb kgb bgb))
  refine (cl_str w0 p g bx rv d hc).mono ?_
  rintro e w1 ⟨rfl, hc2, mn⟩
  have hg := hid_mod hg mn hngb
  have hm := hm.trans mn
  have hc := hc2
  have cx := hc.cell
  clear hc2 mn
  go_wp2_with (first | ((with_reducible refine gate_dst (N := 2) rfl ?_); refine box_event ?hg (N := 2) ?hd (cs := #[.string ⟨#[]⟩, .slice none 0 0]) (t := 162) ?hr ?_; (case hd => rfl); (case hg => rfl); (case hr => first | (go_simp; done) | (go_simp; rfl)); intro gt hgt wt kgt bgt; have hc := hc.below bgt; have hbt := blk_ne hc.box kgt (by decide); have hst : Hid (w.heap.size ≤ gt) := Nat.le_trans hm.size (Nat.le_of_eq hgt.symm); have hgt2 : Hid (gb ≠ gt) := Nat.ne_of_lt (Nat.lt_of_lt_of_le (blk_lt hg.out) (Nat.le_of_eq hgt.symm)); have hnt : Hid (¬ DecS p g gt) := h.new hst.out; have hg := hid_mod hg (Mod.of_below (S := fun _ => False) bgt) (Lib.hid id); have hm := hm.trans (Mod.of_below bgt); have ht : Hid (wt.heap[gt]? = some (.cells #[.string ⟨#[]⟩, .slice none 0 0] 162 (0, 0))) := kgt; clear kgt hgt bgt; have ft := fun i => blk_frozen ht.out i; have t0 : wt.cell? ⟨gt, 0, none⟩ = _ := blk_cell ht.out 0; have t1 : wt.cell? ⟨gt, 1, none⟩ = _ := blk_cell ht.out 1; simp at t0 t1; have cx : ((wt.setCell ⟨gt, 0, none⟩ (.string (d.str.1))).setCell ⟨gt, 1, none⟩ (.slice none 0 0)).cell? ⟨bx, 0, none⟩ = some (.pointer (some ⟨p, 0, none⟩)) := (cell_far hbt).trans ((cell_far hbt).trans (hc.cell))))
  have hc1 : Cl (((wt.setCell ⟨gt, 0, none⟩ (.string (d.str.1))).setCell ⟨gt, 1, none⟩ (.slice none 0 0))) p g bx rv d.str.2 := ((hc.far ht.out (by decide) (by decide) (by decide) (by decide) 0 _).far (hid_set ht 0 _).out (by decide) (by decide) (by decide) (by decide) 1 _)
  have hg1 : Hid ((((wt.setCell ⟨gt, 0, none⟩ (.string (d.str.1))).setCell ⟨gt, 1, none⟩ (.slice none 0 0))).heap[gb]? = some (.cells #[.string ⟨#[]⟩, .slice none 0 0] 162 (0, 0))) := (hid_far (hid_far hg hgt2) hgt2)
  have ht1 : Hid ((((wt.setCell ⟨gt, 0, none⟩ (.string (d.str.1))).setCell ⟨gt, 1, none⟩ (.slice none 0 0))).heap[gt]? = some (.cells #[.string (d.str.1), .slice none 0 0] 162 (0, 0))) := hid_cast (hid_set (hid_set ht 0 _) 1 _) rfl
  have hm1 : Mod (DecS p g) w (((wt.setCell ⟨gt, 0, none⟩ (.string (d.str.1))).setCell ⟨gt, 1, none⟩ (.slice none 0 0))) := (modFar (modFar hm hst 0 _) hst 1 _)
  generalize ((wt.setCell ⟨gt, 0, none⟩ (.string (d.str.1))).setCell ⟨gt, 1, none⟩ (.slice none 0 0)) = wc at *
  replace hc := hc1
  replace hg := hg1
  replace ht := ht1
  replace hm := hm1
  clear hc1 hg1 ht1 hm1
  go_wp2_with fail
  have hbparts : Hid (w.heap.size ≤ wc.heap.size) := hm.size
  refine (cl_list_ProdDone wc p g bx rv d.str.2 hc).mono ?_
  rintro e wparts_0 ⟨Aparts, cparts, rfl, rparts, hc2, mn⟩
  replace hg := hid_mod hg mn hngb
  replace ht := hid_mod ht mn hnt
  replace hm := hm.trans mn
  replace hc := hc2
  have cx := hc.cell
  clear hc2 mn
  have ft := fun i => blk_frozen ht.out i
  have t1 : wparts_0.cell? ⟨gt, 1, none⟩ = _ := blk_cell ht.out 1
  simp at t1
  have cx1 : (wparts_0.setCell ⟨gt, 1, none⟩ (.slice Aparts (rdList rdProdDone d.str.2).1.length cparts)).cell? ⟨bx, 0, none⟩ = some (.pointer (some ⟨p, 0, none⟩)) := (cell_far hbt).trans (hc.cell)
  have hc1 : Cl (wparts_0.setCell ⟨gt, 1, none⟩ (.slice Aparts (rdList rdProdDone d.str.2).1.length cparts)) p g bx rv ((rdList rdProdDone d.str.2).2) := (hc.far ht.out (by decide) (by decide) (by decide) (by decide) 1 _)
  have hg1 : Hid ((wparts_0.setCell ⟨gt, 1, none⟩ (.slice Aparts (rdList rdProdDone d.str.2).1.length cparts)).heap[gb]? = some (.cells #[.string ⟨#[]⟩, .slice none 0 0] 162 (0, 0))) := (hid_far hg hgt2)
  have ht1 : Hid ((wparts_0.setCell ⟨gt, 1, none⟩ (.slice Aparts (rdList rdProdDone d.str.2).1.length cparts)).heap[gt]? = some (.cells #[.string (d.str.1), .slice Aparts (rdList rdProdDone d.str.2).1.length cparts] 162 (0, 0))) := hid_cast (hid_set ht 1 (.slice Aparts (rdList rdProdDone d.str.2).1.length cparts)) rfl
  have hm1 : Mod (DecS p g) w (wparts_0.setCell ⟨gt, 1, none⟩ (.slice Aparts (rdList rdProdDone d.str.2).1.length cparts)) := (modFar hm hst 1 _)
  have rparts1 := (Kd.R_set rparts ht.out (by decide) 1 (.slice Aparts (rdList rdProdDone d.str.2).1.length cparts))
  replace hc := hc1
  replace hg := hg1
  replace ht := ht1
  replace hm := hm1
  replace rparts := rparts1
  clear hc1 hg1 ht1 hm1 rparts1
  have fg := fun i => blk_frozen hg.out i
  have t0 : (wparts_0.setCell ⟨gt, 1, none⟩ (.slice Aparts (rdList rdProdDone d.str.2).1.length cparts)).cell? ⟨gt, 0, none⟩ = _ := blk_cell ht.out 0
  have z0 : (wparts_0.setCell ⟨gt, 1, none⟩ (.slice Aparts (rdList rdProdDone d.str.2).1.length cparts)).cell? ⟨gb, 0, none⟩ = _ := blk_cell hg.out 0
  have t1 : (wparts_0.setCell ⟨gt, 1, none⟩ (.slice Aparts (rdList rdProdDone d.str.2).1.length cparts)).cell? ⟨gt, 1, none⟩ = _ := blk_cell ht.out 1
  have z1 : (wparts_0.setCell ⟨gt, 1, none⟩ (.slice Aparts (rdList rdProdDone d.str.2).1.length cparts)).cell? ⟨gb, 1, none⟩ = _ := blk_cell hg.out 1
  simp at t0 z0 t1 z1
  go_wp2
  have erd : rdProdGone d = (⟨d.str.1, (rdList rdProdDone d.str.2).1⟩, (rdList rdProdDone d.str.2).2) := by simp only [rdProdGone, Bool.false_eq_true, if_true, if_false]
  rw [erd]
  refine bodyPost_ret (v := .agg #[.string (d.str.1), .slice Aparts (rdList rdProdDone d.str.2).1.length cparts]) (by simp [results, Tryz.results88, go_sem, z0, z1]) rfl ⟨[.string (d.str.1), .slice Aparts (rdList rdProdDone d.str.2).1.length cparts], rfl, ?_, ?_, ?_⟩
  · exact kProdGone_mkM _ _ _ (⟨d.str.1, (rdList rdProdDone d.str.2).1⟩ : ProdGone) (Kd.R_lower (Kd.R_set (Kd.R_set rparts hg.out (by decide) 0 _) (hid_set hg 0 _).out (by decide) 1 _) hbparts.out)
  · exact ((hc.far hg.out (by decide) (by decide) (by decide) (by decide) 0 _).far (hid_set hg 0 _).out (by decide) (by decide) (by decide) (by decide) 1 _)
  · exact (modFar (modFar hm hsgb 0 _) hsgb 1 _)

end Go.Proofs.YteckmgmcfngddaaGreat
end

section
/- A list of parts: ProdGone. -/
set_option linter.unusedVariables false
set_option linter.unusedSimpArgs false
namespace Go.Proofs.YteckmgmcfngddaaGreat
open Go.RowKit Go.Proofs.YteckmgmcfngddaaGreatW.PrintWords

theorem info_ProdGone : (Tryz.prog.info? 162).map (fun i => (i.zero, i.size, i.bytes)) = some (some (.agg #[.string ⟨#[]⟩, .slice none 0 0]), 2, 40) := by kernel_rfl
set_option maxRecDepth 100000 in
set_option maxHeartbeats 6400000 in
theorem cl_list_ProdGone (w : World) (p g bx : Nat) (rv : Value) (d : DS) (h : Cl w p g bx rv d) :
    Calls Tryz.prog 87 #[.pointer (some ⟨p, 0, none⟩), .func (.func 88) #[] #[.pointer (some ⟨bx, 0, none⟩)]] w (ClPostR kProdGone 162 p g bx rv (rdList rdProdGone d).1 (rdList rdProdGone d).2 w) := by
  obtain ⟨r0, r1⟩ := d.i32_range
  go_enter Tryz.func87, Tryz.ntmps87
  go_wp2_with fail
  refine (cl_i32 w p g bx rv d h).mono ?_
  rintro e w1 ⟨rfl, h1, m1⟩
  obtain ⟨q, hbk⟩ := h1.dec.blk
  have c2 : w1.cell? ⟨p, 2, none⟩ = _ := blk_cell hbk 2
  have f2 := blk_frozen hbk 2
  simp at c2
  clear hbk
  go_upto_block 0 with fail
  go_cut [10] (fun v10 wx => Cl wx p g bx rv (rdHead d) ∧ Mod (DecS p g) w wx)
  case first =>
    by_cases he : d.i32.2.e = 0
    · have he' : (d.i32.2.e != 0) = false := by simp [he]
      by_cases h0 : d.i32.1 < 0
      · have h0' : decide (d.i32.1 < 0) = true := by simpa using h0
        have hh := Lib.hid (rdHead_neg he h0)
        clear he
        go_wp2
        go_meet
        rw [hh.out]
        exact ⟨h1.failed 5 (by decide), m1.trans (mod_dec' p g 0 _)⟩
      · have h0' : decide (d.i32.1 < 0) = false := by simpa using h0
        by_cases h2 : d.i32.1 > 16
        · have h2' : decide (d.i32.1 > 16) = true := by simpa using h2
          have hh := Lib.hid (rdHead_big he h0 h2)
          clear he
          go_wp2
          go_meet
          rw [hh.out]
          exact ⟨h1.failed 9 (by decide), m1.trans (mod_dec' p g 0 _)⟩
        · have h2' : decide (d.i32.1 > 16) = false := by simpa using h2
          have hh := Lib.hid (rdHead_ok he h0 h2)
          clear he
          go_wp2
          go_meet
          rw [hh.out]
          exact ⟨h1, m1⟩
    · have he' : (d.i32.2.e != 0) = true := by simp [he]
      have hh := Lib.hid (rdHead_err he)
      clear he
      go_wp2
      go_meet
      rw [hh.out]
      exact ⟨h1, m1⟩
  case rest =>
    obtain ⟨hc, hm⟩ := hcut
    clear c2 f2 h1 m1
    go_wp2_with fail
    go_loopg [6, 7] (d.i32.1.toNat) (fun gk v6 v7 wr => ∃ (k : Nat) (out : List ProdGone) (dk : DS) (A : Option Addr) (c : Nat), v7 = .int .i32 k ∧ v6 = .slice A out.length c ∧ Hid (out.length = k) ∧ k + gk ≤ 2147483647 ∧ Hid (gk + k = d.i32.1.toNat) ∧ kProdGone.R 162 wr w.heap.size (fun _ => True) (.slice A out.length c) out ∧ Cl wr p g bx rv dk ∧ Mod (DecS p g) w wr ∧ Hid (rdGo rdProdGone gk out dk = rdList rdProdGone d) ∧ Hid (dk.e = 0 → d.i32.1 ≤ 16))
    case atStart => exact ⟨0, [], rdHead d, none, 0, rfl, rfl, rfl, by omega, by simp [Hid], Kd.R_nil _ _ _ _ _, hc, hm, rfl, rdHead_le d⟩
    case round =>
      obtain ⟨k, out, dk, A, c, rfl, rfl, hok, hk2, hgk, ho, hcr, hmr, heq, hle⟩ := hrel
      clear hc hm
      obtain ⟨q, hbk⟩ := hcr.dec.blk
      have c2 : wr.cell? ⟨p, 2, none⟩ = _ := blk_cell hbk 2
      simp at c2
      clear hbk
      by_cases hlt : (k : Int) < d.i32.1
      · have hlt' : decide ((k : Int) < d.i32.1) = true := by simpa using hlt
        by_cases he : dk.e = 0
        · have he' : (dk.e == 0) = true := by simp [he]
          have hn16 := hle.out he
          obtain ⟨j, rfl⟩ : ∃ j, gk = j + 1 := ⟨gk - 1, by have := hgk.out; omega⟩
          have hstep : Hid (rdGo rdProdGone j (out ++ [(rdProdGone dk).1]) (rdProdGone dk).2 = rdList rdProdGone d) := Lib.hid (by rw [← heq.out]; exact (rdGo_step rdProdGone j out dk he).symm)
          clear he heq
          go_wp2_with fail
          refine (cl_ProdGone wr p g bx rv dk hcr).mono ?_
          rintro e w2 ⟨cs, rfl, kv, hc2, mn⟩
          obtain ⟨A0, c0, rfl, g0⟩ := kProdGone_openM kv
          have ho2 := R_mod ho mn (fun q hq => h.new hq)
          have hlen : (out.length + 1) * 40 ≤ 140737488355328 := by have := hok.out; omega
          have HLEN := Lib.hid hlen
          clear hlen
          go_wp2_with (at_builtin; refine Kd.R_append kProdGone (w0 := w2) w.heap.size rfl (.tmp 40) (.tmp 43) 46 162 (.agg #[.string ⟨#[]⟩, .slice none 0 0]) 40 rfl Tryz.underlying46 info_ProdGone rfl (by decide) (by decide) _ out (rdProdGone dk).1 [.string (rdProdGone dk).1.name, .slice A0 (rdProdGone dk).1.parts.length c0] (fun _ => True) (fun q => some q ≠ (Value.slice A out.length c).ownBlock) rfl rfl (M_fresh kv ho (Nat.le_refl _) hmr.size) (fun q hq => ⟨trivial, hq⟩) (fun _ _ => trivial) ho2 (Below.refl _ _) (Nat.le_trans hmr.size mn.size) HLEN.out ?_; intro v1 w3 ho3 hb3 hg3 hat3)
          obtain ⟨A', c', rfl⟩ := Kd.R_slice ho3
          have hc3 : Cl w3 p g bx rv (rdProdGone dk).2 := hc2.grown hg3 (fun q hq => by obtain ⟨cs, hcs⟩ := R_owntyped ho2 q hq; exact ⟨cs, _, hcs, by decide, by decide, by decide, by decide⟩)
          have hm3 : Mod (DecS p g) w w3 := (hmr.trans mn).grown hg3 (fun q hq => R_ownge ho2 q hq)
          clear hat3 hb3 hg3
          go_wp2
          go_roundg j
          case measure => omega
          case rel => exact ⟨k + 1, out ++ [(rdProdGone dk).1], (rdProdGone dk).2, A', c', by go_num, by simp, Lib.hid (by have := hok.out; simp [this]), by omega, Lib.hid (by have := hgk.out; omega), ho3, hc3, hm3, hstep, fun _ => hn16⟩
        · have he' : (dk.e == 0) = false := by simp [he]
          have hend : Hid (rdList rdProdGone d = (out, dk)) := Lib.hid (by rw [← heq.out]; exact rdGo_stop rdProdGone gk out dk he)
          clear he heq
          go_wp2
          go_ret
          rw [hend.out]
          exact ⟨A, c, rfl, ho, hcr, hmr⟩
      · have hlt' : decide ((k : Int) < d.i32.1) = false := by simpa using hlt
        have hend : Hid (rdList rdProdGone d = (out, dk)) := Lib.hid (by
          rw [← heq.out]
          have := hgk.out
          rw [show gk = 0 from by omega]
          rfl)
        clear heq
        go_wp2
        go_ret
        rw [hend.out]
        exact ⟨A, c, rfl, ho, hcr, hmr⟩

end Go.Proofs.YteckmgmcfngddaaGreat
end

section
/- The message ProdRep read. -/
set_option linter.unusedVariables false
set_option linter.unusedSimpArgs false
namespace Go.Proofs.YteckmgmcfngddaaGreat
open Go.RowKit Go.Proofs.YteckmgmcfngddaaGreatW.PrintWords

def rdProdRep (d : DS) : ProdRep × DS :=
  let r0 := (rdList rdProdGone d)
  let r1 := if r0.2.has 1 3 = true then r0.2.i32 else (0, r0.2)
  (⟨r0.1, r1.1⟩, r1.2)

set_option maxRecDepth 100000 in
set_option maxHeartbeats 6400000 in
theorem dec_ProdRep (w : World) (v : Int) (A : Option Addr) (c : Nat) (xs : List Int) (hr : ReadsInt w .u8 A xs.length xs) (hl : xs.length ≤ 140737488355328) :
    Calls Tryz.prog 19 #[.int .i64 v, .slice A xs.length c] w (DecPost kProdRep (decFin (⟨[], 0⟩ : ProdRep) (rdProdRep (DS.new v xs))) w) := by
  have hmf : ∀ (fn : Fn) (first cap : Array Value) (w : World), (Instr.makeFunc fn first cap).run Tryz.prog w = .ok (.func fn first cap) w := fun _ _ _ _ => rfl
  have HR := Lib.hid hr
  clear hr
  go_enter Tryz.func19, Tryz.ntmps19
  go_wp2_with (first | ((with_reducible refine gate_dst (N := 4) rfl ?_); refine box_event ?hg (N := 4) ?hd (cs := #[.slice none 0 0, .int .i32 0]) (t := 48) ?hr ?_; (case hd => rfl); (case hg => rfl); (case hr => first | (go_simp; done) | (go_simp; rfl)); intro gb hgb wg kgb bgb; have hgg : Hid (wg.heap[gb]? = some (.cells #[.slice none 0 0, .int .i32 0] 48 (0, 0))) := kgb; have hsgb : Hid (w.heap.size ≤ gb) := Nat.le_of_eq hgb.symm; clear kgb hgb))
  refine (newDec wg v A c xs (HR.out.below bgb) hl).mono ?_
  rintro e wn ⟨p, g, rv, rfl, hd0, hpw, hgw, bn⟩
  have hlb : (DS.new v xs).b.length ≤ 140737488355328 := hl
  generalize DS.new v xs = d at *
  have hgn := hid_mod hgg (Mod.of_below (S := fun _ => False) bn) (Lib.hid id)
  have hgbw := blk_lt hgg.out
  have hngb : Hid (¬ DecS p g gb) := fun hs => by rcases hs with rfl | rfl <;> omega
  have hbn : Below w.heap.size w wn := bgb.trans (bn.mono bgb.size)
  go_wp2_with (first
    | ((with_reducible refine gate_dst (N := 6) rfl ?_); refine box_event ?hg (N := 6) ?hd (cs := #[.pointer none]) (t := 113) ?hr ?_; (case hd => rfl); (case hg => rfl); (case hr => first | (go_simp; done) | (go_simp; rfl)); intro bx hbx wx kbx bbx; have hd1 := hd0.below bbx; have hnx : ¬ DecS p g bx := hd0.new (Nat.le_of_eq hbx.symm); have hgx := hid_mod hgn (Mod.of_below (S := fun _ => False) bbx) (Lib.hid id); have hgbx : Hid (gb ≠ bx) := Nat.ne_of_lt (Nat.lt_of_lt_of_le (blk_lt hgn.out) (Nat.le_of_eq hbx.symm)); have hcb : Cl (wx.setCell ⟨bx, 0, none⟩ (.pointer (some ⟨p, 0, none⟩))) p g bx rv d := ⟨hd1.far kbx (by decide) (by decide) (by decide) 0 _, by simpa using blk_set kbx 0 (.pointer (some ⟨p, 0, none⟩)), fun e => hnx (.inl e), fun e => hnx (.inr e), hlb⟩; have hgB : Hid ((wx.setCell ⟨bx, 0, none⟩ (.pointer (some ⟨p, 0, none⟩))).heap[gb]? = some (.cells #[.slice none 0 0, .int .i32 0] 48 (0, 0))) := hid_far hgx hgbx; have hbw : Below w.heap.size w (wx.setCell ⟨bx, 0, none⟩ (.pointer (some ⟨p, 0, none⟩))) := (hbn.trans (bbx.mono hbn.size)).setCell (p := ⟨bx, 0, none⟩) (Nat.le_trans hbn.size (Nat.le_of_eq hbx.symm)) _; have hbxgb : bx ≠ gb := fun e => hgbx.out e.symm; have fx := fun i => blk_frozen kbx i; have x0 : wx.cell? ⟨bx, 0, none⟩ = _ := blk_cell kbx 0; simp at x0; have cx : (wx.setCell ⟨bx, 0, none⟩ (.pointer (some ⟨p, 0, none⟩))).cell? ⟨bx, 0, none⟩ = some (.pointer (some ⟨p, 0, none⟩)) := hcb.cell; clear kbx hbx)
    | ((with_reducible refine gate_dst (N := 7) rfl ?_); refine box_event ?hg (N := 7) ?hd (cs := #[.slice none 0 0, .int .i32 0]) (t := 48) ?hr ?_; (case hd => rfl); (case hg => rfl); (case hr => first | (go_simp; done) | (go_simp; rfl)); intro gt hgt wt kgt bgt; have hc := hcb.below bgt; have hbt := blk_ne hc.box kgt (by decide); have hst : Hid ((wx.setCell ⟨bx, 0, none⟩ (.pointer (some ⟨p, 0, none⟩))).heap.size ≤ gt) := Nat.le_of_eq hgt.symm; have hgt2 : Hid (gb ≠ gt) := Nat.ne_of_lt (Nat.lt_of_lt_of_le (blk_lt hgB.out) (Nat.le_of_eq hgt.symm)); have hnt : Hid (¬ DecS p g gt) := hcb.new hst.out; have hg := hid_mod hgB (Mod.of_below (S := fun _ => False) bgt) (Lib.hid id); have hm : Mod (DecS p g) (wx.setCell ⟨bx, 0, none⟩ (.pointer (some ⟨p, 0, none⟩))) wt := Mod.of_below bgt; have ht : Hid (wt.heap[gt]? = some (.cells #[.slice none 0 0, .int .i32 0] 48 (0, 0))) := kgt; have cx := hc.cell; clear kgt hgt bgt))
  generalize (wx.setCell ⟨bx, 0, none⟩ (.pointer (some ⟨p, 0, none⟩))) = wb at *
  have h := hcb
  go_wp2_with fail
  have hbtopics : Hid (wb.heap.size ≤ wt.heap.size) := hm.size
  refine (cl_list_ProdGone wt p g bx rv d hc).mono ?_
  rintro e wtopics_0 ⟨Atopics, ctopics, rfl, rtopics, hc2, mn⟩
  replace hg := hid_mod hg mn hngb
  replace ht := hid_mod ht mn hnt
  replace hm := hm.trans mn
  replace hc := hc2
  have cx := hc.cell
  clear hc2 mn
  have ft := fun i => blk_frozen ht.out i
  have t0 : wtopics_0.cell? ⟨gt, 0, none⟩ = _ := blk_cell ht.out 0
  simp at t0
  have cx1 : (wtopics_0.setCell ⟨gt, 0, none⟩ (.slice Atopics (rdList rdProdGone d).1.length ctopics)).cell? ⟨bx, 0, none⟩ = some (.pointer (some ⟨p, 0, none⟩)) := (cell_far hbt).trans (hc.cell)
  have hc1 : Cl (wtopics_0.setCell ⟨gt, 0, none⟩ (.slice Atopics (rdList rdProdGone d).1.length ctopics)) p g bx rv ((rdList rdProdGone d).2) := (hc.far ht.out (by decide) (by decide) (by decide) (by decide) 0 _)
  have hg1 : Hid ((wtopics_0.setCell ⟨gt, 0, none⟩ (.slice Atopics (rdList rdProdGone d).1.length ctopics)).heap[gb]? = some (.cells #[.slice none 0 0, .int .i32 0] 48 (0, 0))) := (hid_far hg hgt2)
  have ht1 : Hid ((wtopics_0.setCell ⟨gt, 0, none⟩ (.slice Atopics (rdList rdProdGone d).1.length ctopics)).heap[gt]? = some (.cells #[.slice Atopics (rdList rdProdGone d).1.length ctopics, .int .i32 0] 48 (0, 0))) := hid_cast (hid_set ht 0 (.slice Atopics (rdList rdProdGone d).1.length ctopics)) rfl
  have hm1 : Mod (DecS p g) wb (wtopics_0.setCell ⟨gt, 0, none⟩ (.slice Atopics (rdList rdProdGone d).1.length ctopics)) := (modFar hm hst 0 _)
  have rtopics1 := (Kd.R_set rtopics ht.out (by decide) 0 (.slice Atopics (rdList rdProdGone d).1.length ctopics))
  replace hc := hc1
  replace hg := hg1
  replace ht := ht1
  replace hm := hm1
  replace rtopics := rtopics1
  clear hc1 hg1 ht1 hm1 rtopics1
  go_wp2_with fail
  refine (cl_has (wtopics_0.setCell ⟨gt, 0, none⟩ (.slice Atopics (rdList rdProdGone d).1.length ctopics)) p g bx rv ((rdList rdProdGone d).2) 1 3 hc).mono ?_
  rintro e wh1 ⟨rfl, hc2, mn⟩
  replace hg := hid_mod hg mn hngb
  replace ht := hid_mod ht mn hnt
  replace hm := hm.trans mn
  replace rtopics := R_mod rtopics mn (fun k hk => h.new (Nat.le_trans hbtopics.out hk))
  replace hc := hc2
  have cx := hc.cell
  clear hc2 mn
  cases hh1 : ((rdList rdProdGone d).2).has 1 3
  · -- no
    go_wp2_with fail
    refine (cl_end wh1 p g bx rv ((rdList rdProdGone d).2) hc).mono ?_
    rintro e we ⟨rfl, mn⟩
    replace hg := hid_mod hg mn hngb
    replace ht := hid_mod ht mn hnt
    replace hm := hm.trans mn
    replace rtopics := R_mod rtopics mn (fun k hk => h.new (Nat.le_trans hbtopics.out hk))
    have fg := fun i => blk_frozen hg.out i
    have t0 : we.cell? ⟨gt, 0, none⟩ = _ := blk_cell ht.out 0
    have z0 : we.cell? ⟨gb, 0, none⟩ = _ := blk_cell hg.out 0
    have t1 : we.cell? ⟨gt, 1, none⟩ = _ := blk_cell ht.out 1
    have z1 : we.cell? ⟨gb, 1, none⟩ = _ := blk_cell hg.out 1
    simp at t0 z0 t1 z1
    have erd : rdProdRep d = (⟨(rdList rdProdGone d).1, 0⟩, (rdList rdProdGone d).2) := by simp only [rdProdRep, hh1, Bool.false_eq_true, if_true, if_false]
    have hbe : Below w.heap.size w we := Below.mod hbw hbw.size hm (fun i hi hs => by have := bgb.size; rcases hs with rfl | rfl <;> omega)
    by_cases hfin : ((rdList rdProdGone d).2).fin = 0
    · have hf1 : (((rdList rdProdGone d).2).fin != 0) = false := by simp [hfin]
      have edc : Hid (decFin (⟨[], 0⟩ : ProdRep) (rdProdRep d) = (⟨(rdList rdProdGone d).1, 0⟩, 0)) := Lib.hid (by rw [erd]; exact decFin_ok hfin)
      clear hfin erd
      go_wp2
      refine bodyPost_ret (v := .tuple #[.agg #[.slice Atopics (rdList rdProdGone d).1.length ctopics, .int .i32 0], .int .i64 (0)]) (by simp [results, Tryz.results19, go_sem, z0, z1]) rfl ?_
      rw [edc.out]
      exact ⟨[.slice Atopics (rdList rdProdGone d).1.length ctopics, .int .i32 0], rfl, kProdRep_mkM _ _ _ (⟨(rdList rdProdGone d).1, 0⟩ : ProdRep) (Kd.R_lower (Kd.R_set (Kd.R_set rtopics hg.out (by decide) 0 _) (hid_set hg 0 _).out (by decide) 1 _) (Nat.le_trans hbw.size hbtopics.out)), (Below.setCell (Below.setCell hbe (p := ⟨gb, 0, none⟩) hsgb.out _) (p := ⟨gb, 1, none⟩) hsgb.out _)⟩
    · have hf1 : (((rdList rdProdGone d).2).fin != 0) = true := by simp [hfin]
      have edc : Hid (decFin (⟨[], 0⟩ : ProdRep) (rdProdRep d) = (⟨[], 0⟩, ((rdList rdProdGone d).2).fin)) := Lib.hid (by rw [erd]; exact decFin_bad hfin)
      clear hfin erd
      go_wp2
      refine bodyPost_ret (v := .tuple #[.agg #[.slice none 0 0, .int .i32 0], .int .i64 (((rdList rdProdGone d).2).fin)]) (by simp [results, Tryz.results19, go_sem, z0, z1]) rfl ?_
      rw [edc.out]
      exact ⟨[.slice none 0 0, .int .i32 0], rfl, kProdRep_mkM _ _ _ (⟨[], 0⟩ : ProdRep) (Kd.R_nil _ _ _ _ _), (Below.setCell (Below.setCell hbe (p := ⟨gb, 0, none⟩) hsgb.out _) (p := ⟨gb, 1, none⟩) hsgb.out _)⟩
  · -- yes
    go_wp2_with fail
    refine (cl_i32 wh1 p g bx rv ((rdList rdProdGone d).2) hc).mono ?_
    rintro e wthrottle_1 ⟨rfl, hc2, mn⟩
    replace hg := hid_mod hg mn hngb
    replace ht := hid_mod ht mn hnt
    replace hm := hm.trans mn
    replace rtopics := R_mod rtopics mn (fun k hk => h.new (Nat.le_trans hbtopics.out hk))
    replace hc := hc2
    have cx := hc.cell
    clear hc2 mn
    have ft := fun i => blk_frozen ht.out i
    have t1 : wthrottle_1.cell? ⟨gt, 1, none⟩ = _ := blk_cell ht.out 1
    simp at t1
    have cx1 : (wthrottle_1.setCell ⟨gt, 1, none⟩ (.int .i32 ((rdList rdProdGone d).2.i32.1))).cell? ⟨bx, 0, none⟩ = some (.pointer (some ⟨p, 0, none⟩)) := (cell_far hbt).trans (hc.cell)
    have hc1 : Cl (wthrottle_1.setCell ⟨gt, 1, none⟩ (.int .i32 ((rdList rdProdGone d).2.i32.1))) p g bx rv ((rdList rdProdGone d).2.i32.2) := (hc.far ht.out (by decide) (by decide) (by decide) (by decide) 1 _)
    have hg1 : Hid ((wthrottle_1.setCell ⟨gt, 1, none⟩ (.int .i32 ((rdList rdProdGone d).2.i32.1))).heap[gb]? = some (.cells #[.slice none 0 0, .int .i32 0] 48 (0, 0))) := (hid_far hg hgt2)
    have ht1 : Hid ((wthrottle_1.setCell ⟨gt, 1, none⟩ (.int .i32 ((rdList rdProdGone d).2.i32.1))).heap[gt]? = some (.cells #[.slice Atopics (rdList rdProdGone d).1.length ctopics, .int .i32 ((rdList rdProdGone d).2.i32.1)] 48 (0, 0))) := hid_cast (hid_set ht 1 (.int .i32 ((rdList rdProdGone d).2.i32.1))) rfl
    have hm1 : Mod (DecS p g) wb (wthrottle_1.setCell ⟨gt, 1, none⟩ (.int .i32 ((rdList rdProdGone d).2.i32.1))) := (modFar hm hst 1 _)
    have rtopics1 := (Kd.R_set rtopics ht.out (by decide) 1 (.int .i32 ((rdList rdProdGone d).2.i32.1)))
    replace hc := hc1
    replace hg := hg1
    replace ht := ht1
    replace hm := hm1
    replace rtopics := rtopics1
    clear hc1 hg1 ht1 hm1 rtopics1
    go_wp2_with fail
    refine (cl_end (wthrottle_1.setCell ⟨gt, 1, none⟩ (.int .i32 ((rdList rdProdGone d).2.i32.1))) p g bx rv ((rdList rdProdGone d).2.i32.2) hc).mono ?_
    rintro e we ⟨rfl, mn⟩
    replace hg := hid_mod hg mn hngb
    replace ht := hid_mod ht mn hnt
    replace hm := hm.trans mn
    replace rtopics := R_mod rtopics mn (fun k hk => h.new (Nat.le_trans hbtopics.out hk))
    have fg := fun i => blk_frozen hg.out i
    have t0 : we.cell? ⟨gt, 0, none⟩ = _ := blk_cell ht.out 0
    have z0 : we.cell? ⟨gb, 0, none⟩ = _ := blk_cell hg.out 0
    have t1 : we.cell? ⟨gt, 1, none⟩ = _ := blk_cell ht.out 1
    have z1 : we.cell? ⟨gb, 1, none⟩ = _ := blk_cell hg.out 1
    simp at t0 z0 t1 z1
    have erd : rdProdRep d = (⟨(rdList rdProdGone d).1, (rdList rdProdGone d).2.i32.1⟩, (rdList rdProdGone d).2.i32.2) := by simp only [rdProdRep, hh1, Bool.false_eq_true, if_true, if_false]
    have hbe : Below w.heap.size w we := Below.mod hbw hbw.size hm (fun i hi hs => by have := bgb.size; rcases hs with rfl | rfl <;> omega)
    by_cases hfin : ((rdList rdProdGone d).2.i32.2).fin = 0
    · have hf1 : (((rdList rdProdGone d).2.i32.2).fin != 0) = false := by simp [hfin]
      have edc : Hid (decFin (⟨[], 0⟩ : ProdRep) (rdProdRep d) = (⟨(rdList rdProdGone d).1, (rdList rdProdGone d).2.i32.1⟩, 0)) := Lib.hid (by rw [erd]; exact decFin_ok hfin)
      clear hfin erd
      go_wp2
      refine bodyPost_ret (v := .tuple #[.agg #[.slice Atopics (rdList rdProdGone d).1.length ctopics, .int .i32 ((rdList rdProdGone d).2.i32.1)], .int .i64 (0)]) (by simp [results, Tryz.results19, go_sem, z0, z1]) rfl ?_
      rw [edc.out]
      exact ⟨[.slice Atopics (rdList rdProdGone d).1.length ctopics, .int .i32 ((rdList rdProdGone d).2.i32.1)], rfl, kProdRep_mkM _ _ _ (⟨(rdList rdProdGone d).1, (rdList rdProdGone d).2.i32.1⟩ : ProdRep) (Kd.R_lower (Kd.R_set (Kd.R_set rtopics hg.out (by decide) 0 _) (hid_set hg 0 _).out (by decide) 1 _) (Nat.le_trans hbw.size hbtopics.out)), (Below.setCell (Below.setCell hbe (p := ⟨gb, 0, none⟩) hsgb.out _) (p := ⟨gb, 1, none⟩) hsgb.out _)⟩
    · have hf1 : (((rdList rdProdGone d).2.i32.2).fin != 0) = true := by simp [hfin]
      have edc : Hid (decFin (⟨[], 0⟩ : ProdRep) (rdProdRep d) = (⟨[], 0⟩, ((rdList rdProdGone d).2.i32.2).fin)) := Lib.hid (by rw [erd]; exact decFin_bad hfin)
      clear hfin erd
      go_wp2
      refine bodyPost_ret (v := .tuple #[.agg #[.slice none 0 0, .int .i32 0], .int .i64 (((rdList rdProdGone d).2.i32.2).fin)]) (by simp [results, Tryz.results19, go_sem, z0, z1]) rfl ?_
      rw [edc.out]
      exact ⟨[.slice none 0 0, .int .i32 0], rfl, kProdRep_mkM _ _ _ (⟨[], 0⟩ : ProdRep) (Kd.R_nil _ _ _ _ _), (Below.setCell (Below.setCell hbe (p := ⟨gb, 0, none⟩) hsgb.out _) (p := ⟨gb, 1, none⟩) hsgb.out _)⟩

end Go.Proofs.YteckmgmcfngddaaGreat
end
