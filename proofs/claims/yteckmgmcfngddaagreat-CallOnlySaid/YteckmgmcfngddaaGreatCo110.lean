/- A part of a proof. Proved: Rows.CallOnlySaid: for every byte slice the law leatlaw16.CallOnly returns true, and the slice reads afterwards as it read before. No condition but the row's own reach. -/
import Derived.Test.YteckmgmcfngddaaGreatCo101
import Derived.Deep.LoopGhost
import Derived.BigQuiet
import Derived.Test.YteckmgmcfngddaaGreatCo102
import Derived.Test.YteckmgmcfngddaaGreatCo103
import Derived.Test.YteckmgmcfngddaaGreatCo105
import Derived.StillTailTactics
import Derived.Deep.DeepCutAuto
import Derived.Test.YteckmgmcfngddaaGreatCo109
import Derived.Test.YteckmgmcfngddaaGreatCo107
import Derived.KernelRfl
import Derived.Test.YteckmgmcfngddaaGreatCo106
import Derived.Lib.EndianBits
section
/- The references' small helpers: Copy, Same, Piece. -/
set_option linter.unusedVariables false
set_option linter.unusedSimpArgs false
namespace Go.Proofs.YteckmgmcfngddaaGreat
open Go.RowKit Go.Proofs.YteckmgmcfngddaaGreatW.PrintWords

/-- The byte at a place. -/
def byA (xs : List Int) (k : Nat) : Int := xs.getD k 0
theorem rd_at {w : World} {A : Option Addr} {n : Nat} {xs : List Int} (h : ReadsInt w .u8 A n xs) {k : Nat} (hk : k < xs.length) : ∃ ad : Addr, A = some ad ∧ w.cell? (ad.add k) = some (.int .u8 (byA xs k)) := by
  obtain ⟨ad, e, hc⟩ := h.at_ (k : Int) (by omega) (by have := h.1; omega)
  exact ⟨ad, e, by simpa [rd, byA] using hc⟩
theorem take_getD (xs : List Int) (k : Nat) (h : k < xs.length) : xs.take k ++ [byA xs k] = xs.take (k + 1) := by
  unfold byA
  rw [List.take_succ_eq_append_getElem h, List.getD_eq_getElem?_getD, List.getElem?_eq_getElem h]
  rfl
def pieceF (xs : List Int) (lo hi : Nat) : List Int := (xs.take hi).drop lo
theorem piece_step (xs : List Int) (lo hi k : Nat) (h1 : lo ≤ k) (h2 : k < xs.length) (h3 : k < hi) : pieceF xs lo k ++ [byA xs k] = pieceF xs lo (k + 1) := by
  unfold pieceF
  rw [← take_getD xs k h2, List.drop_append_of_le_length (by simp; omega)]
theorem piece_len (xs : List Int) (lo hi : Nat) : (pieceF xs lo hi).length ≤ hi := by unfold pieceF; simp; omega
theorem piece_whole (xs : List Int) : pieceF xs 0 xs.length = xs := by unfold pieceF; simp
/-- A list of bytes made by a call. -/
def BytesPost (xs : List Int) (w : World) (e : Ending) (w' : World) : Prop := ∃ A c, e = .returned (.slice A xs.length c) ∧ w'.ownsRow w.heap.size 5 1 (.slice A xs.length c) xs.length (nums .u8 xs) ∧ Below w.heap.size w w'

set_option maxRecDepth 100000 in
set_option maxHeartbeats 1600000 in
theorem copy_any (w : World) (A : Option Addr) (c : Nat) (xs : List Int) (hr : ReadsInt w .u8 A xs.length xs) (hl : xs.length ≤ 140737488355328) :
    Calls Tryz.prog 14 #[.slice A xs.length c] w (BytesPost xs w) := by
  have HR := Lib.hid hr
  clear hr
  have hA := (Below.refl w.heap.size w).alloc (Nat.le_refl _) (.cells #[] 5)
  have hown : Hid ((w.alloc (.cells #[] 5)).ownsRow w.heap.size 5 1 (.slice (some ⟨w.heap.size, 0, none⟩) 0 0) ([] : List Int).length (nums .u8 [])) := Lib.hid (own_lit w w.heap.size 5 .u8 [] (Nat.le_refl _) (by simp))
  have HA := Lib.hid hA
  clear hA
  go_enter Tryz.func14, Tryz.ntmps14
  go_wp2
  go_loopw [3, 4] (fun v i wr => ∃ (k : Nat) (B : Option Addr) (q : Nat), k ≤ xs.length ∧ i = .int .i64 k ∧ v = .slice B (pieceF xs 0 k).length q ∧ Hid (wr.ownsRow w.heap.size 5 1 (.slice B (pieceF xs 0 k).length q) (pieceF xs 0 k).length (nums .u8 (pieceF xs 0 k))) ∧ Hid (Below w.heap.size w wr)) (fun _ i _ => xs.length - (intOf i).toNat)
  case atStart => exact ⟨0, _, 0, Nat.zero_le _, rfl, rfl, hown, HA⟩
  case round =>
    obtain ⟨k, B, q, hk, rfl, rfl, ho, hb⟩ := hrel
    clear hown HA
    by_cases hlt : k < xs.length
    · obtain ⟨ad, e, hc⟩ := rd_at (HR.out.below hb.out) hlt
      cases e
      have hpl := piece_len xs 0 k
      have HT := Lib.hid (piece_step xs 0 (k + 1) k (Nat.zero_le _) hlt (Nat.lt_succ_self _))
      go_wp2_with (at_builtin; refine print_append_cells (w0 := w) (W := wr) w.heap.size rfl (.tmp 12) (.tmp 17) 22 5 (.int .u8 0) 1 1 rfl Tryz.underlying22 info5 rfl (by decide) (by decide) (.slice B (pieceF xs 0 k).length q) (pieceF xs 0 k).length (nums .u8 (pieceF xs 0 k)) [.int .u8 (byA xs k)] rfl rfl rfl (by simp [Value.oneCell']) ho.out hb.out hb.out.size (by simp; omega) ?_; intro v1 w1 ho1 hb1 hg hat; obtain ⟨B1, q1, rfl⟩ := own_slice ho1; have HO1 := Lib.hid ho1; have HB1 := Lib.hid hb1; clear ho1 hb1 hg hat)
      go_roundw
      case rel => exact ⟨k + 1, B1, q1, by omega, by go_num, by rw [← HT.out]; simp, Lib.hid (by have := HO1.out; rw [← HT.out]; simpa [nums] using this), HB1⟩
      case measure => simp [intOf]; omega
    · obtain rfl : k = xs.length := by omega
      have HT := Lib.hid (piece_whole xs)
      go_wp2
      go_ret
      exact ⟨B, q, by rw [HT.out]; rfl, by have := ho.out; rwa [HT.out] at this, hb.out⟩

set_option maxRecDepth 100000 in
set_option maxHeartbeats 1600000 in
theorem piece_any (w : World) (A : Option Addr) (c : Nat) (xs : List Int) (lo hi : Nat) (hr : ReadsInt w .u8 A xs.length xs) (hl : xs.length ≤ 140737488355328) (hlo : lo ≤ 140737488355328) (hhi : hi ≤ 140737488355328) (hlh : lo ≤ hi) :
    Calls Tryz.prog 50 #[.slice A xs.length c, .int .i64 lo, .int .i64 hi] w (BytesPost (pieceF xs lo hi) w) := by
  have HR := Lib.hid hr
  clear hr
  have hA := (Below.refl w.heap.size w).alloc (Nat.le_refl _) (.cells #[] 5)
  have hown : Hid ((w.alloc (.cells #[] 5)).ownsRow w.heap.size 5 1 (.slice (some ⟨w.heap.size, 0, none⟩) 0 0) ([] : List Int).length (nums .u8 [])) := Lib.hid (own_lit w w.heap.size 5 .u8 [] (Nat.le_refl _) (by simp))
  have HA := Lib.hid hA
  clear hA
  have l0 : decide ((lo : Int) < 0) = false := by simp
  go_enter Tryz.func50, Tryz.ntmps50
  go_wp2
  go_loopw [7, 8] (fun v i wr => ∃ (k : Nat) (B : Option Addr) (q : Nat), lo ≤ k ∧ k ≤ 140737488355329 ∧ i = .int .i64 k ∧ v = .slice B (pieceF xs lo k).length q ∧ Hid (k ≤ hi ∧ (lo < k → k ≤ xs.length)) ∧ Hid (wr.ownsRow w.heap.size 5 1 (.slice B (pieceF xs lo k).length q) (pieceF xs lo k).length (nums .u8 (pieceF xs lo k))) ∧ Hid (Below w.heap.size w wr)) (fun _ i _ => xs.length - (intOf i).toNat)
  case atStart =>
    have e : pieceF xs lo lo = [] := by unfold pieceF; apply List.drop_of_length_le; simp; omega
    exact ⟨lo, some ⟨w.heap.size, 0, none⟩, 0, Nat.le_refl _, by omega, rfl, by rw [e]; rfl, Lib.hid ⟨hlh, by omega⟩, by rw [e]; exact hown, HA⟩
  case round =>
    obtain ⟨k, B, q, hk, hkm, rfl, rfl, hkl, ho, hb⟩ := hrel
    clear hown HA
    by_cases hlt : k < xs.length
    · have hlt' : decide ((k : Int) < xs.length) = true := by simpa using hlt
      by_cases hlt2 : k < hi
      · have hlt2' : decide ((k : Int) < hi) = true := by simpa using hlt2
        obtain ⟨ad, e, hc⟩ := rd_at (HR.out.below hb.out) hlt
        cases e
        have HT := Lib.hid (piece_step xs lo hi k hk hlt hlt2)
        have hpl := piece_len xs lo k
        go_wp2_with (at_builtin; refine print_append_cells (w0 := w) (W := wr) w.heap.size rfl (.tmp 24) (.tmp 29) 22 5 (.int .u8 0) 1 1 rfl Tryz.underlying22 info5 rfl (by decide) (by decide) (.slice B (pieceF xs lo k).length q) (pieceF xs lo k).length (nums .u8 (pieceF xs lo k)) [.int .u8 (byA xs k)] rfl rfl rfl (by simp [Value.oneCell']) ho.out hb.out hb.out.size (by simp; omega) ?_; intro v1 w1 ho1 hb1 hg hat; obtain ⟨B1, q1, rfl⟩ := own_slice ho1; have HO1 := Lib.hid ho1; have HB1 := Lib.hid hb1; clear ho1 hb1 hg hat)
        go_roundw
        case rel => exact ⟨k + 1, B1, q1, by omega, by omega, by go_num, by rw [← HT.out]; simp, Lib.hid ⟨by omega, fun _ => by omega⟩, Lib.hid (by have := HO1.out; rw [← HT.out]; simpa [nums] using this), HB1⟩
        case measure => simp [intOf]; omega
      · have hlt2' : decide ((k : Int) < hi) = false := by simpa using hlt2
        have e : k = hi := by have := hkl.out.1; omega
        subst e
        go_wp2
        go_ret
        exact ⟨B, q, rfl, ho.out, hb.out⟩
    · have hlt' : decide ((k : Int) < xs.length) = false := by simpa using hlt
      have HT : Hid (pieceF xs lo k = pieceF xs lo hi) := Lib.hid (by unfold pieceF; rw [List.take_of_length_le (by omega), List.take_of_length_le (by have := hkl.out.1; omega)])
      go_wp2
      go_ret
      exact ⟨B, q, by rw [← HT.out]; rfl, by have := ho.out; rwa [HT.out] at this, hb.out⟩

theorem drewN_two (w : World) (n m : Nat) : ∃ k, (w.drewN n).drewN m = w.drewN k := ⟨n + m, by simp [World.drewN, Nat.add_assoc]⟩
/-- Have two lists the same bytes? -/
def sameF (xs ys : List Int) : Bool := xs == ys
theorem same_len {xs ys : List Int} (h : ¬ xs.length = ys.length) : sameF xs ys = false := by
  unfold sameF
  rw [Bool.eq_false_iff]
  intro e
  exact h (by rw [eq_of_beq e])
theorem same_at {xs ys : List Int} {k : Nat} (h : ¬ byA xs k = byA ys k) : sameF xs ys = false := by
  unfold sameF
  rw [Bool.eq_false_iff]
  intro e
  exact h (by rw [eq_of_beq e])
theorem same_all {xs ys : List Int} (h : xs.length = ys.length) (h1 : ∀ k, k < xs.length → byA xs k = byA ys k) : sameF xs ys = true := by
  unfold sameF
  rw [beq_iff_eq]
  refine List.ext_getElem h fun k h2 h3 => ?_
  have := h1 k h2
  simpa [byA, List.getD_eq_getElem?_getD, List.getElem?_eq_getElem h2, List.getElem?_eq_getElem h3] using this
set_option maxRecDepth 100000 in
set_option maxHeartbeats 1600000 in
theorem same_any (w : World) (A B : Option Addr) (c q : Nat) (xs ys : List Int) (hx : ReadsInt w .u8 A xs.length xs) (hy : ReadsInt w .u8 B ys.length ys) :
    Calls Tryz.prog 18 #[.slice A xs.length c, .slice B ys.length q] w fun e w' => e = .returned (.bool (sameF xs ys)) ∧ ∃ n, w' = w.drewN n := by
  have hl := hx.2.1
  have hl2 := hy.2.1
  by_cases hlen : xs.length = ys.length
  · have hne : ((xs.length : Int) != ys.length) = false := by simp [hlen]
    have HL := Lib.hid hlen
    have HX := Lib.hid hx
    have HY := Lib.hid hy
    clear hlen hx hy
    go_enter Tryz.func18, Tryz.ntmps18
    go_wp2
    go_loopw [5] (fun i wr => ∃ (k n : Nat), k ≤ xs.length ∧ i = .int .i64 k ∧ wr = w.drewN n ∧ Hid (∀ j, j < k → byA xs j = byA ys j)) (fun i _ => xs.length - (intOf i).toNat)
    case atStart => exact ⟨0, 0, Nat.zero_le _, rfl, rfl, Lib.hid (fun j h => absurd h (Nat.not_lt_zero _))⟩
    case round =>
      obtain ⟨k, n, hk, rfl, rfl, heq⟩ := hrel
      by_cases hlt : k < xs.length
      · obtain ⟨ad, e, hc⟩ := rd_at HX.out hlt
        cases e
        obtain ⟨bd, e, hd⟩ := rd_at HY.out (k := k) (by have := HL.out; omega)
        cases e
        have p0 : (0 : Int) ≤ k := by omega
        have p1 : (k : Int) < xs.length := by omega
        have p2 : (k : Int) < ys.length := by have := HL.out; omega
        by_cases hv : byA xs k = byA ys k
        · have hv' : (byA xs k != byA ys k) = false := by simp only [hv, bne_self_eq_false]
          have HV := Lib.hid hv
          clear hv
          go_wp2
          go_quiet (fail)
          go_wp2
          go_roundw
          case rel => exact ⟨k + 1, _, by omega, by go_num, rfl, Lib.hid (fun j hj => by rcases Nat.lt_or_ge j k with h | h; exact heq.out j h; (obtain rfl : j = k := by omega); exact HV.out)⟩
          case measure => simp [intOf]; omega
        · have hv' : (byA xs k != byA ys k) = true := by simpa using hv
          have HV := Lib.hid (same_at hv)
          clear hv
          go_wp2
          go_quiet (fail)
          go_wp2
          go_ret
          exact ⟨by rw [HV.out]; rfl, drewN_two _ _ _⟩
      · obtain rfl : k = xs.length := by omega
        have HV := Lib.hid (same_all HL.out heq.out)
        go_wp2
        go_ret
        exact ⟨by rw [HV.out]; rfl, _, rfl⟩
  · have hne : ((xs.length : Int) != ys.length) = true := by simp; omega
    have HV := Lib.hid (same_len hlen)
    clear hlen
    go_enter Tryz.func18, Tryz.ntmps18
    go_wp2
    go_ret
    exact ⟨by rw [HV.out]; rfl, 0, rfl⟩

end Go.Proofs.YteckmgmcfngddaaGreat
end

section
/- Trees of nodes: their kind; the references' small makers of nodes. -/
set_option linter.unusedVariables false
set_option linter.unusedSimpArgs false
namespace Go.Proofs.YteckmgmcfngddaaGreat
open Go.RowKit Go.Proofs.YteckmgmcfngddaaGreatW.PrintWords

structure Node where
  kind : Int
  int : Int
  null : Bool
  data : List Int
  list : List Node
def zNode : Node := ⟨0, 0, false, [], []⟩
def fNode (d : Kd Node) : Kd Node := Kd.iso (Kd.pair (Kd.int .i64) (Kd.pair (Kd.int .i64) (Kd.pair Kd.bool (Kd.pair (Kd.slice 5 (Kd.int .u8)) (Kd.slice 39 d))))) (fun x : Node => (x.kind, x.int, x.null, x.data, x.list))
theorem monoNode : Kd.Mono fNode := Kd.mono_iso _ (Kd.mono_pair (Kd.mono_const _) (Kd.mono_pair (Kd.mono_const _) (Kd.mono_pair (Kd.mono_const _) (Kd.mono_pair (Kd.mono_const _) (Kd.mono_slice 39 Kd.mono_id)))))
theorem subNode : Kd.Sub fNode [5, 39] := Kd.sub_iso _ (Kd.sub_pair (Kd.sub_const _ (by decide)) (Kd.sub_pair (Kd.sub_const _ (by decide)) (Kd.sub_pair (Kd.sub_const _ (by decide)) (Kd.sub_pair (Kd.sub_const _ (by decide)) (Kd.sub_slice 39 (by decide) Kd.sub_id)))))
theorem szNode : ∀ n, (Kd.upto fNode 5 [5, 39] n).sz = 5 := Kd.upto_sz (fun _ => rfl)
def kNode : Kd Node := Kd.fix fNode 5 [5, 39] szNode (Kd.upto_E subNode)
theorem kNode_openK {w : World} {x : Node} {cs : List Value} (h : kNode.K w x cs) : ∃ A3 c3 A4 c4, cs = [.int .i64 x.kind, .int .i64 x.int, .bool x.null, .slice A3 x.data.length c3, .slice A4 x.list.length c4] ∧ x.data.length ≤ c3 ∧ (Kd.int .u8).C w A3 x.data.length x.data ∧ x.list.length ≤ c4 ∧ kNode.C w A4 x.list.length x.list := by
  obtain ⟨n, h⟩ := h
  cases n with
  | zero => exact h.elim
  | succ n =>
    obtain ⟨_, _, rfl, rfl, ⟨_, _, rfl, rfl, ⟨_, _, rfl, rfl, ⟨_, _, rfl, ⟨A3, c3, rfl, l3, g3⟩, ⟨A4, c4, rfl, l4, g4⟩⟩⟩⟩⟩ := h
    exact ⟨A3, c3, A4, c4, rfl, l3, g3, l4, Kd.fix_C g4⟩
theorem kNode_mkK (w : World) (x : Node) {A3 : Option Addr} {c3 : Nat} (l3 : x.data.length ≤ c3) (g3 : (Kd.int .u8).C w A3 x.data.length x.data) {A4 : Option Addr} {c4 : Nat} (l4 : x.list.length ≤ c4) (g4 : kNode.C w A4 x.list.length x.list) : kNode.K w x [.int .i64 x.kind, .int .i64 x.int, .bool x.null, .slice A3 x.data.length c3, .slice A4 x.list.length c4] := by
  obtain ⟨n4, q4⟩ := Kd.fix_C_back monoNode g4
  have r4 := Kd.upto_C_le monoNode szNode (show n4 ≤ n4 by omega) q4
  exact ⟨n4 + 1, ⟨[.int .i64 x.kind], [.int .i64 x.int, .bool x.null, .slice A3 x.data.length c3, .slice A4 x.list.length c4], rfl, rfl, ⟨[.int .i64 x.int], [.bool x.null, .slice A3 x.data.length c3, .slice A4 x.list.length c4], rfl, rfl, ⟨[.bool x.null], [.slice A3 x.data.length c3, .slice A4 x.list.length c4], rfl, rfl, ⟨[.slice A3 x.data.length c3], [.slice A4 x.list.length c4], rfl, ⟨A3, c3, rfl, l3, g3⟩, ⟨A4, c4, rfl, l4, r4⟩⟩⟩⟩⟩⟩
def ndA (xs : List Node) (k : Nat) : Node := xs.getD k zNode
theorem nd_at {w : World} {A : Option Addr} {n : Nat} {xs : List Node} (h : kNode.C w A n xs) {k : Nat} (hk : k < xs.length) : ∃ ad A3 c3 A4 c4, A = some ad ∧ w.cell? (ad.add (k * 5)) = some (.int .i64 (ndA xs k).kind) ∧ w.cell? ⟨(ad.add (k * 5)).block, (ad.add (k * 5)).off + 1, none⟩ = some (.int .i64 (ndA xs k).int) ∧ w.cell? ⟨(ad.add (k * 5)).block, (ad.add (k * 5)).off + 2, none⟩ = some (.bool (ndA xs k).null) ∧ w.cell? ⟨(ad.add (k * 5)).block, (ad.add (k * 5)).off + 3, none⟩ = some (.slice A3 (ndA xs k).data.length c3) ∧ w.cell? ⟨(ad.add (k * 5)).block, (ad.add (k * 5)).off + 4, none⟩ = some (.slice A4 (ndA xs k).list.length c4) ∧ kNode.K w (ndA xs k) [.int .i64 (ndA xs k).kind, .int .i64 (ndA xs k).int, .bool (ndA xs k).null, .slice A3 (ndA xs k).data.length c3, .slice A4 (ndA xs k).list.length c4] := by
  obtain ⟨ad, c, e, _, hK, hc0⟩ := Kd.C_get h zNode (k : Int) (by omega) (by have := h.1; omega)
  have hc : ∀ j u, c[j]? = some u → w.cell? (ad.add (k * 5 + j)) = some u := fun j u h => by have := hc0 j u h; rw [Int.toNat_natCast] at this; exact this
  have hK' : kNode.K w (ndA xs k) c := by simpa [ndA] using hK
  have hK2 := hK'
  obtain ⟨A3, c3, A4, c4, rfl, l3, g3, l4, g4⟩ := kNode_openK hK2
  exact ⟨ad, A3, c3, A4, c4, e, hc 0 _ rfl, by rw [← add_field _ _ 1 (by omega)]; exact hc 1 _ rfl, by rw [← add_field _ _ 2 (by omega)]; exact hc 2 _ rfl, by rw [← add_field _ _ 3 (by omega)]; exact hc 3 _ rfl, by rw [← add_field _ _ 4 (by omega)]; exact hc 4 _ rfl, hK'⟩

theorem cell_of_heap {w w1 : World} {a : Addr} (h : w1.heap[a.block]? = w.heap[a.block]?) : w1.cell? a = w.cell? a := by unfold World.cell?; rw [h]
theorem reads_move {w w1 : World} {k : IntKind} {A : Option Addr} {n : Nat} {xs : List Int} (h : ReadsInt w k A n xs) (hm : ∀ ad, A = some ad → w1.heap[ad.block]? = w.heap[ad.block]?) : ReadsInt w1 k A n xs := by
  refine ⟨h.1, h.2.1, fun h0 => ?_⟩
  obtain ⟨ad, e, hc⟩ := h.2.2 h0
  exact ⟨ad, e, fun j hj => (cell_of_heap (by rw [show (ad.add j).block = ad.block from by unfold Addr.add; split <;> rfl]; exact hm ad e)).trans (hc j hj)⟩

theorem bytesWorld_lt (w : World) (s : ByteArray) : w.heap.size < (Lib.bytesWorld w 5 s).heap.size := by
  unfold Lib.bytesWorld World.freeze
  simp

/-! ### The makers of nodes -/
abbrev nodeV (k n : Int) (b : Bool) (d l : Value) : Value := .agg #[.int .i64 k, .int .i64 n, .bool b, d, l]
theorem nd_num (w : World) (k v : Int) : Calls Tryz.prog 223 #[.int .i64 k, .int .i64 v] w fun e w' => e = .returned (nodeV k v false (.slice none 0 0) (.slice none 0 0)) ∧ Below w.heap.size w w' := by
  go_enter Tryz.func223, Tryz.ntmps223
  go_wp2
  exact bodyPost_ret (v := nodeV k v false (.slice none 0 0) (.slice none 0 0)) (by simp [results, Tryz.results223, nodeV, go_sem]) rfl ⟨rfl, (Below.refl _ _).alloc (Nat.le_refl _) _⟩
theorem nd_row (w : World) (A : Option Addr) (n c : Nat) : Calls Tryz.prog 222 #[.slice A n c] w fun e w' => e = .returned (nodeV 10 0 false (.slice none 0 0) (.slice A n c)) ∧ Below w.heap.size w w' := by
  go_enter Tryz.func222, Tryz.ntmps222
  go_wp2
  exact bodyPost_ret (v := nodeV 10 0 false (.slice none 0 0) (.slice A n c)) (by simp [results, Tryz.results222, nodeV, go_sem]) rfl ⟨rfl, (Below.refl _ _).alloc (Nat.le_refl _) _⟩
theorem nd_rows (w : World) (A : Option Addr) (n c : Nat) : Calls Tryz.prog 226 #[.slice A n c] w fun e w' => e = .returned (nodeV 9 0 false (.slice none 0 0) (.slice A n c)) ∧ Below w.heap.size w w' := by
  go_enter Tryz.func226, Tryz.ntmps226
  go_wp2
  exact bodyPost_ret (v := nodeV 9 0 false (.slice none 0 0) (.slice A n c)) (by simp [results, Tryz.results226, nodeV, go_sem]) rfl ⟨rfl, (Below.refl _ _).alloc (Nat.le_refl _) _⟩
theorem nd_nbytes (w : World) (b : Bool) (A : Option Addr) (n c : Nat) : Calls Tryz.prog 224 #[.agg #[.bool b, .slice A n c]] w fun e w' => e = .returned (nodeV 8 0 b (.slice A n c) (.slice none 0 0)) ∧ Below w.heap.size w w' := by
  go_enter Tryz.func224, Tryz.ntmps224
  go_wp2
  exact bodyPost_ret (v := nodeV 8 0 b (.slice A n c) (.slice none 0 0)) (by simp [results, Tryz.results224, nodeV, go_sem]) rfl ⟨rfl, ((Below.refl _ _).alloc (Nat.le_refl _) _).alloc (by simp) _⟩
/-- A node that holds a text's bytes. -/
def NdTextPost (k : Int) (b : Bool) (s : ByteArray) (w : World) (e : Ending) (w' : World) : Prop := ∃ A c, e = .returned (nodeV k 0 b (.slice A s.size c) (.slice none 0 0)) ∧ s.size ≤ c ∧ ReadsInt w' .u8 A s.size (bytesOf s) ∧ Below w.heap.size w w'
theorem bytes_made (w : World) (s : ByteArray) (h : s.size ≤ 140737488355328) : ∃ A c, s.size ≤ c ∧ ReadsInt (Lib.bytesWorld w 5 s) .u8 A s.size (bytesOf s) := by
  have h1 := bytes_reads w 5 s (by omega)
  have h2 := bytesOf_length s
  exact ⟨_, s.size, Nat.le_refl _, h1⟩
theorem info_Node : (Tryz.prog.info? 39).map (·.size) = some 5 := by kernel_rfl
def zNodeL : List Value := [.int .i64 0, .int .i64 0, .bool false, .slice none 0 0, .slice none 0 0]
set_option maxHeartbeats 800000 in
theorem nd_text (w : World) (s : ByteArray) (h : s.size ≤ 140737488355328) : Calls Tryz.prog 225 #[.string s] w (NdTextPost 5 false s w) := by
  have kb := fun W => print_bytes (P := Tryz.prog) 9 22 5 Tryz.underlying9 Tryz.underlying22 Tryz.underlying5 s W
  have HR := Lib.hid (fun W => bytes_reads W 5 s (by omega))
  have HB : Hid (∀ W, Below W.heap.size W (Lib.bytesWorld W 5 s)) := Lib.hid (fun W => bytes_below (Below.refl _ _) (Nat.le_refl _) 5 s)
  go_enter Tryz.func225, Tryz.ntmps225
  go_wp2_with (first
    | ((with_reducible refine gate_dst (N := 2) rfl ?_); refine box_event ?hg (N := 2) ?hd (cs := #[.int .i64 0, .int .i64 0, .bool false, .slice none 0 0, .slice none 0 0]) (t := 39) ?hr ?_; (case hd => rfl); (case hg => rfl); (case hr => first | (go_simp; done) | (go_simp; rfl)); intro gb hq w1 kq bq; have hgb : Blk w1 gb 39 5 zNodeL := ⟨kq, rfl, by simp [zNodeL, Value.oneCell']⟩; have HB1 := Lib.hid bq; have hsg := Lib.hid (Nat.le_of_eq hq.symm); clear hq kq bq)
    | (refine bfull_event rfl 39 (.tmp 2) (.tmp 5) rfl rfl gb 5 zNodeL [.int .i64 5, .int .i64 0, .bool false, .slice (some ⟨w1.heap.size, 0, none⟩) s.size (grownCap w1 s.size 0 5), .slice none 0 0] 39 (by rfl) (by rfl) (by exact hgb.below (HB.out w1)) rfl info_Node (by simp [Value.oneCell']) ?_; intro w3 kj mj; have HB3 := Lib.hid (belowFresh (HB1.out.trans ((HB.out w1).mono HB1.out.size)) mj hsg.out); have hR := Lib.hid ((HR.out w1)); have hm := Lib.hid mj; have hgl := Lib.hid hgb.lt; have hgb := kj; clear kj mj)
    | fail)
  refine bodyPost_ret (results_blk1 rfl (by rfl) hgb Tryz.underlying39 rfl info_Node) rfl ?_
  refine ⟨_, _, rfl, ?_, ?_, HB3.out⟩
  · exact grownCap_ge _ _ _ _
  · exact reads_move hR.out (fun ad e => by
      injection e with e
      subst e
      exact hm.out.block _ (bytesWorld_lt _ _) (fun e => by have := hgl.out; simp only at e; omega))
set_option maxHeartbeats 800000 in
theorem nd_ntext (w : World) (n : Name) (h : n.s.size ≤ 140737488355328) : Calls Tryz.prog 227 #[.agg #[.bool n.null, .string n.s]] w (NdTextPost 6 n.null n.s w) := by
  have kb := fun W => print_bytes (P := Tryz.prog) 9 22 5 Tryz.underlying9 Tryz.underlying22 Tryz.underlying5 n.s W
  have HR := Lib.hid (fun W => bytes_reads W 5 n.s (by omega))
  have HB : Hid (∀ W, Below W.heap.size W (Lib.bytesWorld W 5 n.s)) := Lib.hid (fun W => bytes_below (Below.refl _ _) (Nat.le_refl _) 5 n.s)
  go_enter Tryz.func227, Tryz.ntmps227
  go_wp2_with (first
    | ((with_reducible refine gate_dst (N := 1) rfl ?_); refine box_event ?hg (N := 1) ?hd (cs := #[.bool n.null, .string n.s]) (t := 30) ?hr ?_; (case hd => rfl); (case hg => rfl); (case hr => first | (go_simp; done) | (go_simp; rfl)); intro ga hqa w0 ka ba; have Ka := Lib.hid ka; have B0 := Lib.hid ba; clear hqa ka ba)
    | ((with_reducible refine gate_dst (N := 2) rfl ?_); refine box_event ?hg (N := 2) ?hd (cs := #[.int .i64 0, .int .i64 0, .bool false, .slice none 0 0, .slice none 0 0]) (t := 39) ?hr ?_; (case hd => rfl); (case hg => rfl); (case hr => first | (go_simp; done) | (go_simp; rfl)); intro gb hq w1 kq bq; have hgb : Blk w1 gb 39 5 zNodeL := ⟨kq, rfl, by simp [zNodeL, Value.oneCell']⟩; have HB1 := Lib.hid (B0.out.trans (bq.mono B0.out.size)); have hsg := Lib.hid (Nat.le_trans B0.out.size (Nat.le_of_eq hq.symm)); have a0 : w1.cell? ⟨ga, 0, none⟩ = _ := pw_cell_below bq (blk_cell Ka.out 0); have a1 : w1.cell? ⟨ga, 1, none⟩ = _ := pw_cell_below bq (blk_cell Ka.out 1); simp at a0 a1; clear hq kq bq)
    | (refine bfull_event rfl 39 (.tmp 2) (.tmp 8) rfl rfl gb 5 zNodeL [.int .i64 6, .int .i64 0, .bool n.null, .slice (some ⟨w1.heap.size, 0, none⟩) n.s.size (grownCap w1 n.s.size 0 5), .slice none 0 0] 39 (by rfl) (by rfl) (by exact hgb.below (HB.out w1)) rfl info_Node (by simp [Value.oneCell']) ?_; intro w3 kj mj; have HB3 := Lib.hid (belowFresh (HB1.out.trans ((HB.out w1).mono HB1.out.size)) mj hsg.out); have hR := Lib.hid ((HR.out w1)); have hm := Lib.hid mj; have hgl := Lib.hid hgb.lt; have hgb := kj; clear kj mj)
    | fail)
  refine bodyPost_ret (results_blk1 rfl (by rfl) hgb Tryz.underlying39 rfl info_Node) rfl ?_
  refine ⟨_, _, rfl, ?_, ?_, HB3.out⟩
  · exact grownCap_ge _ _ _ _
  · exact reads_move hR.out (fun ad e => by
      injection e with e
      subst e
      exact hm.out.block _ (bytesWorld_lt _ _) (fun e => by have := hgl.out; simp only at e; omega))

end Go.Proofs.YteckmgmcfngddaaGreat
end

section
/- The references' comparison of trees. -/
set_option linter.unusedVariables false
set_option linter.unusedSimpArgs false
namespace Go.Proofs.YteckmgmcfngddaaGreat
open Go.RowKit Go.Proofs.YteckmgmcfngddaaGreatW.PrintWords

/-- An answer: are they the same? -/
def SamePost (x y : Node) (w : World) (e : Ending) (w' : World) : Prop := ∃ b : Bool, e = .returned (.bool b) ∧ (b = true ↔ x = y) ∧ Below w.heap.size w w'
theorem node_ne {x y : Node} (h : ¬ x = y) : (false = true ↔ x = y) := ⟨fun h => (Bool.false_ne_true h).elim, fun h1 => absurd h1 h⟩
theorem node_eq {x y : Node} (h1 : x.kind = y.kind) (h2 : x.int = y.int) (h3 : x.null = y.null) (h4 : sameF x.data y.data = true) (h5 : x.list.length = y.list.length) (h6 : ∀ j, j < x.list.length → ndA x.list j = ndA y.list j) : x = y := by
  cases x
  cases y
  simp only at h1 h2 h3 h4 h5 h6
  subst h1 h2 h3
  obtain rfl := eq_of_beq h4
  congr 1
  refine List.ext_getElem h5 fun k h7 h8 => ?_
  have := h6 k h7
  simpa [ndA, List.getD_eq_getElem?_getD, List.getElem?_eq_getElem h7, List.getElem?_eq_getElem h8] using this
theorem ndA_mem {xs : List Node} {k : Nat} (h : k < xs.length) : ndA xs k ∈ xs := by
  unfold ndA
  rw [List.getD_eq_getElem?_getD, List.getElem?_eq_getElem h]
  exact List.getElem_mem h
theorem below_drewN' (w : World) (n : Nat) : Below w.heap.size w (w.drewN n) := ⟨rfl, rfl, rfl, Nat.le_refl _, fun _ _ => rfl⟩
theorem size_list (x : Node) : SizeOf.sizeOf x.list < SizeOf.sizeOf x := by
  cases x
  simp
  omega

set_option maxRecDepth 100000 in
set_option maxHeartbeats 6400000 in
theorem nd_alike : ∀ (N : Nat) (x y : Node) (c d : List Value) (w : World), SizeOf.sizeOf x ≤ N → kNode.K w x c → kNode.K w y d →
    Calls Tryz.prog 150 #[.agg c.toArray, .agg d.toArray] w (SamePost x y w)
  | 0, x, y, c, d, w, hs, hx, hy => by
    cases x
    simp at hs
  | N + 1, x, y, c, d, w, hs, hx, hy => by
    have hsl := size_list x
    have IH := Lib.hid (nd_alike N)
    obtain ⟨A3, c3, A4, c4, rfl, l3, g3, l4, g4⟩ := kNode_openK hx
    obtain ⟨B3, d3, B4, d4, rfl, m3, k3, m4, k4⟩ := kNode_openK hy
    have L3 := Lib.hid l3
    have hm4 := Kd.C_max g4
    have hn4 := Kd.C_max k4
    have G3 := Lib.hid (ints_of_C g3)
    have K3 := Lib.hid (ints_of_C k3)
    have G4 := Lib.hid g4
    have K4 := Lib.hid k4
    clear hx hy g3 k3 g4 k4 l3 m3 l4 m4
    go_enter Tryz.func150, Tryz.ntmps150
    go_upto_region 1 with (first
      | ((with_reducible refine gate_dst (N := 2) rfl ?_); refine box_event ?hg (N := 2) ?hd (cs := #[.int .i64 x.kind, .int .i64 x.int, .bool x.null, .slice A3 x.data.length c3, .slice A4 x.list.length c4]) (t := 39) ?hr ?_; (case hd => rfl); (case hg => rfl); (case hr => first | (go_simp; done) | (go_simp; rfl)); intro ga hqa w0 ka ba; have Ka := Lib.hid ka; have B0 := Lib.hid ba; clear hqa ka ba)
      | ((with_reducible refine gate_dst (N := 3) rfl ?_); refine box_event ?hg (N := 3) ?hd (cs := #[.int .i64 y.kind, .int .i64 y.int, .bool y.null, .slice B3 y.data.length d3, .slice B4 y.list.length d4]) (t := 39) ?hr ?_; (case hd => rfl); (case hg => rfl); (case hr => first | (go_simp; done) | (go_simp; rfl)); intro gb hqb w1 kb bb; have Kb := Lib.hid kb; have Ka := Lib.hid (blk_mod (S := fun _ => False) Ka.out (Mod.of_below bb) id); have HB := Lib.hid (B0.out.trans (bb.mono B0.out.size)); clear hqb kb bb; have a0 := blk_cell Ka.out 0; have a1 := blk_cell Ka.out 1; have a2 := blk_cell Ka.out 2; have a3 := blk_cell Ka.out 3; have a4 := blk_cell Ka.out 4; have b0 := blk_cell Kb.out 0; have b1 := blk_cell Kb.out 1; have b2 := blk_cell Kb.out 2; have b3 := blk_cell Kb.out 3; have b4 := blk_cell Kb.out 4; simp at a0 a1 a2 a3 a4 b0 b1 b2 b3 b4)
      | fail)
    by_cases e1 : x.kind = y.kind
    case neg =>
      have e1' : (x.kind != y.kind) = true := by simpa using e1
      have HN := Lib.hid (fun h : x = y => e1 (by rw [h]))
      clear e1
      go_wp2
      go_ret
      exact ⟨false, rfl, node_ne HN.out, HB.out⟩
    have e1' : (x.kind != y.kind) = false := by simp [e1]
    have E1 := Lib.hid e1
    clear e1
    by_cases e2 : x.int = y.int
    case neg =>
      have e2' : (x.int != y.int) = true := by simpa using e2
      have HN := Lib.hid (fun h : x = y => e2 (by rw [h]))
      clear e2
      go_wp2
      go_ret
      exact ⟨false, rfl, node_ne HN.out, HB.out⟩
    have e2' : (x.int != y.int) = false := by simp [e2]
    have E2 := Lib.hid e2
    clear e2
    by_cases e3 : x.null = y.null
    case neg =>
      have HN := Lib.hid (fun h : x = y => e3 (by rw [h]))
      have hq : (x.null = true ∧ y.null = false) ∨ (x.null = false ∧ y.null = true) := by cases hx : x.null <;> cases hy : y.null <;> simp_all
      clear e3
      rcases hq with ⟨q1, q2⟩ | ⟨q1, q2⟩
      all_goals
        rw [q1] at a2
        rw [q2] at b2
        clear q1 q2
        go_wp2
        go_ret
        exact ⟨false, rfl, node_ne HN.out, HB.out⟩
    rw [e3] at a2
    have E3 := Lib.hid e3
    clear e3
    go_wp2_with fail
    refine (same_any w1 A3 B3 c3 d3 x.data y.data (G3.out.below HB.out) (K3.out.below HB.out)).mono ?_
    rintro e w2 ⟨rfl, n2, rfl⟩
    cases e4 : sameF x.data y.data
    · have HN : Hid (¬ x = y) := Lib.hid (fun h => by rw [h] at e4; simp [sameF] at e4)
      clear e4
      go_wp2
      go_ret
      exact ⟨false, rfl, node_ne HN.out, HB.out.trans ((below_drewN' _ _).mono HB.out.size)⟩
    have E4 := Lib.hid e4
    clear e4
    by_cases e5 : x.list.length = y.list.length
    case neg =>
      have e5' : ((x.list.length : Int) != y.list.length) = true := by simp; omega
      have HN := Lib.hid (fun h : x = y => e5 (by rw [h]))
      clear e5
      go_wp2
      go_ret
      exact ⟨false, rfl, node_ne HN.out, HB.out.trans ((below_drewN' _ _).mono HB.out.size)⟩
    have e5' : ((x.list.length : Int) != y.list.length) = false := by simp [e5]
    have E5 := Lib.hid e5
    clear e5
    go_wp2
    go_loopw [5] (fun i wr => ∃ k : Nat, k ≤ x.list.length ∧ i = .int .i64 k ∧ Hid (Below w1.heap.size w1 wr) ∧ Hid (∀ j, j < k → ndA x.list j = ndA y.list j)) (fun i _ => x.list.length - (intOf i).toNat)
    case atStart => exact ⟨0, Nat.zero_le _, rfl, Lib.hid (below_drewN' _ _), Lib.hid (fun j h => absurd h (Nat.not_lt_zero _))⟩
    case round =>
      clear a0 a1 a2 a3 a4 b0 b1 b2 b3 b4 e1' e2' e5'
      obtain ⟨k, hk, rfl, hb, heq⟩ := hrel
      have a4 : wr.cell? ⟨ga, 4, none⟩ = _ := pw_cell_below hb.out (blk_cell Ka.out 4)
      have b4 : wr.cell? ⟨gb, 4, none⟩ = _ := pw_cell_below hb.out (blk_cell Kb.out 4)
      simp at a4 b4
      by_cases hlt : k < x.list.length
      · have hby : k < y.list.length := by have := E5.out; omega
        obtain ⟨ad, P3, p3, P4, p4, ea, x0, x1, x2, x3, x4, hkx⟩ := nd_at (Kd.C_below G4.out (HB.out.trans (hb.out.mono HB.out.size))) hlt
        obtain ⟨bd, Q3, q3, Q4, q4, eb, y0, y1, y2, y3, y4, hky⟩ := nd_at (Kd.C_below K4.out (HB.out.trans (hb.out.mono HB.out.size))) hby
        cases ea
        cases eb
        have i0 : (0 : Int) ≤ k := by omega
        have i1 : (k : Int) < x.list.length := by omega
        have i2 : (k : Int) < y.list.length := by omega
        have HX := Lib.hid hkx
        have HY := Lib.hid hky
        have hsz : SizeOf.sizeOf (ndA x.list k) < SizeOf.sizeOf x.list := List.sizeOf_lt_of_mem (ndA_mem hlt)
        have HS := Lib.hid (show SizeOf.sizeOf (ndA x.list k) ≤ N by omega)
        clear hkx hky hsz hs hsl
        go_wp2_with fail
        go_still_tail 10, (by kernel_rfl)
        change wpList _ _ _ _ _ wr.drew
        go_wp2_with fail
        refine (IH.out (ndA x.list k) (ndA y.list k) _ _ wr.drew HS.out (kNode.K_below (Below.refl _ _).drew HX.out) (kNode.K_below (Below.refl _ _).drew HY.out)).mono ?_
        rintro e w3 ⟨b, rfl, hbi, hb3⟩
        have HI := Lib.hid hbi
        have hb3' := Lib.hid (hb.out.trans ((below_undrew hb3).mono hb.out.size))
        clear hbi hb3
        cases b
        · have HN : Hid (¬ x = y) := Lib.hid (fun h => by have hq := HI.out; rw [h] at hq; simp at hq)
          go_wp2
          go_ret
          exact ⟨false, rfl, node_ne HN.out, HB.out.trans (hb3'.out.mono HB.out.size)⟩
        · go_wp2
          go_roundw
          case rel => exact ⟨k + 1, by omega, by go_num, hb3', Lib.hid (fun j hj => by rcases Nat.lt_or_ge j k with h | h; exact heq.out j h; (obtain rfl : j = k := by omega); simpa using HI.out)⟩
          case measure => simp [intOf]; omega
      · obtain rfl : k = x.list.length := by omega
        have HE := Lib.hid (node_eq E1.out E2.out E3.out E4.out E5.out heq.out)
        go_wp2
        go_ret
        exact ⟨true, rfl, ⟨fun _ => HE.out, fun _ => rfl⟩, HB.out.trans (hb.out.mono HB.out.size)⟩

end Go.Proofs.YteckmgmcfngddaaGreat
end

section
/- leatlaw16.alive answers true. -/
set_option linter.unusedVariables false
set_option linter.unusedSimpArgs false
namespace Go.Proofs.YteckmgmcfngddaaGreat
open Go.RowKit Go.Proofs.YteckmgmcfngddaaGreatW.PrintWords

def liveB : List Int := [0, 2, 0, 1, 0, 0, 0, 7, 0, 1, 99, 255, 255, 255, 255, 0, 0, 0, 0]
def liveR : List Int := [0, 0, 0, 7, 0, 0, 0, 0]
def liveC : Call := ⟨2, 1, 7, ⟨false, ⟨#[99]⟩⟩, zProdReq, zFetchReq, ⟨-1, 0, []⟩⟩
set_option maxRecDepth 100000
theorem live_enc : callEncode liveC = (liveB, 0) := by kernel_rfl
theorem live_dec : callDecode liveB = (liveC, 0) := by kernel_rfl
theorem live_blank : replyEncode (blankR liveC) = (liveR, 0) := by kernel_rfl
theorem live_rep : (replyDecode 2 1 liveR).2 = 0 ∧ (replyDecode 2 1 liveR).1.corr = 7 := ⟨by kernel_rfl, by kernel_rfl⟩
theorem live_ok : okCall liveC := by
  exact ⟨by decide, And.intro (by decide) (fun y h => (List.not_mem_nil h).elim), (fun y h => (List.not_mem_nil h).elim), (fun y h => (List.not_mem_nil h).elim)⟩
theorem nil_C {α : Type} {k : Kd α} {w : World} {A : Option Addr} : k.C w A 0 [] := ⟨rfl, Nat.zero_le _, fun h => absurd h (Nat.lt_irrefl _)⟩
def zCallL : List Value := [.int .i16 0, .int .i16 0, .int .i32 0, .bool false, .string ⟨#[]⟩, .bool false, .string ⟨#[]⟩, .int .i16 0, .int .i32 0, .slice none 0 0, .int .i32 0, .int .i32 0, .int .i32 0, .int .i32 0, .int .i8 0, .slice none 0 0, .int .i32 0, .int .i8 0, .slice none 0 0]
def zReplyL : List Value := [.int .i16 0, .int .i16 0, .int .i32 0, .slice none 0 0, .int .i32 0, .int .i32 0, .slice none 0 0, .int .i32 0, .slice none 0 0]
theorem own_modB {W W' : World} {base g m size n : Nat} {e t : TypeId} {v : Value} {xs cs : List Value} (h : W.ownsRow base e size v n xs) (hb : Blk W g t m cs) (hm : Mod (· = g) W W') (ht : e ≠ t) : W'.ownsRow base e size v n xs := by
  have hne := own_ne h hb.heap ht
  refine ⟨h.1, ?_⟩
  rcases h.2 with hn | ⟨g', cap, cur, hv, hb, hh, rest⟩
  · exact .inl hn
  · exact .inr ⟨g', cap, cur, hv, hb, blk_mod hh hm (fun e => hne (by subst hv; subst e; rfl)), rest⟩
theorem own_readsS {w : World} {base n c : Nat} {e : TypeId} {k : IntKind} {A : Option Addr} {xs : List Int} (h : w.ownsRow base e 1 (.slice A n c) n (nums k xs)) : ReadsInt w k A n xs := by
  obtain ⟨A', c', e, h⟩ := own_reads h
  cases e
  exact h

set_option maxHeartbeats 3200000 in
theorem ca_alive (w : World) : Calls Tryz.prog 31 #[] w fun e w' => e = .returned (.bool true) ∧ Below w.heap.size w w' := by
  go_enter Tryz.func31, Tryz.ntmps31
  go_wp2_with fail
  have h1 := Lib.hid (own_lit w w.heap.size 5 .u8 liveB (Nat.le_refl _) (by decide))
  have hB := Lib.hid ((Below.refl w.heap.size w).alloc (Nat.le_refl _) (.cells (nums .u8 liveB).toArray 5))
  have hE := ca_encode (w.alloc (.cells (nums .u8 liveB).toArray 5)) liveC (callCells liveC none none none 0 0 0) none none none 0 0 0 rfl nil_C nil_C nil_C live_ok
  rw [live_enc] at hE
  refine hE.mono ?_
  clear hE
  rintro e w2 ⟨v, rfl, hv, hb2⟩
  obtain ⟨Ae, ce, rfl⟩ := own_slice hv
  have HE := Lib.hid hv
  have HL := Lib.hid (pw_own_below h1.out hb2)
  have HB := Lib.hid (hB.out.trans (hb2.mono hB.out.size))
  clear hv hb2 hB h1
  go_wp2_with fail
  have hD := ca_decode w2 _ 19 liveB (own_readsS HL.out) (by decide)
  rw [live_dec] at hD
  refine hD.mono ?_
  clear hD
  rintro e w3 ⟨cs, rfl, hM, hb3⟩
  obtain ⟨A0, c0, A1, c1, A2, c2, hcs, -⟩ := kCall_openM hM
  have Hcs : Hid (cs = callCells liveC A0 A1 A2 c0 c1 c2) := Lib.hid hcs
  have hl : cs.length = 19 := by rw [hcs]; rfl
  have ho : ∀ v ∈ cs, v.oneCell' = true := by rw [hcs]; simp [Value.oneCell']
  have HE := Lib.hid (pw_own_below HE.out hb3)
  have HL := Lib.hid (pw_own_below HL.out hb3)
  have HB := Lib.hid (HB.out.trans (hb3.mono HB.out.size))
  clear hM hb3 hcs
  go_wp2_with (first
    | ((with_reducible refine gate_dst (N := 4) rfl ?_); refine box_event ?hg (N := 4) ?hd (cs := #[.int .i16 0, .int .i16 0, .int .i32 0, .bool false, .string ⟨#[]⟩, .bool false, .string ⟨#[]⟩, .int .i16 0, .int .i32 0, .slice none 0 0, .int .i32 0, .int .i32 0, .int .i32 0, .int .i32 0, .int .i8 0, .slice none 0 0, .int .i32 0, .int .i8 0, .slice none 0 0]) (t := 79) ?hr ?_; (case hd => rfl); (case hg => rfl); (case hr => first | (go_simp; done) | (go_simp; rfl)); intro gc hq w4 kq bq; have hG : Blk w4 gc 79 19 zCallL := ⟨kq, rfl, by simp [zCallL, Value.oneCell']⟩; have hG := Lib.hid hG; have HE := Lib.hid (pw_own_below HE.out bq); have HL := Lib.hid (pw_own_below HL.out bq); have hsg := Lib.hid (Nat.le_trans HB.out.size (Nat.le_of_eq hq.symm)); have HB := Lib.hid (HB.out.trans (bq.mono HB.out.size)); clear hq kq bq)
    | ((with_reducible refine gate_dst (N := 24) rfl ?_); refine bload_event rfl 79 (.tmp 4) rfl gc 19 cs 79 _ (by rfl) hG.out Tryz.underlying79 rfl info_Call ?_)
    | (refine bfull_event rfl 79 (.tmp 4) (.tmp 21) rfl rfl gc 19 zCallL cs 79 (by rfl) (by rfl) hG.out hl info_Call ho ?_; intro w5 hG' m; have HE := Lib.hid (own_modB HE.out hG.out m (by decide)); have HL := Lib.hid (own_modB HL.out hG.out m (by decide)); have hG := Lib.hid hG'; have HB := Lib.hid (belowFresh HB.out m hsg.out); clear hG' m)
    | fail)
  refine (ca_blank w5 liveC cs A0 A1 A2 c0 c1 c2 Hcs.out).mono ?_
  rintro e w6 ⟨rfl, hb6⟩
  have hG := Lib.hid (hG.out.below hb6)
  have HE := Lib.hid (pw_own_below HE.out hb6)
  have HL := Lib.hid (pw_own_below HL.out hb6)
  have HB := Lib.hid (HB.out.trans (hb6.mono HB.out.size))
  clear hb6
  generalize hrc : replyCells (blankR liveC) none none none 0 0 0 = rc
  go_wp2_with fail
  have hR := ca_encodeReply w6 (blankR liveC) rc none none none 0 0 0 hrc.symm nil_C nil_C nil_C ⟨(fun y h => (List.not_mem_nil h).elim), (fun y h => (List.not_mem_nil h).elim), (fun y h => (List.not_mem_nil h).elim)⟩
  rw [live_blank] at hR
  refine hR.mono ?_
  clear hR
  rintro e w7 ⟨v, rfl, hv, hb7⟩
  obtain ⟨Ar, cr, rfl⟩ := own_slice hv
  have HR := Lib.hid hv
  have hG := Lib.hid (hG.out.below hb7)
  have HE := Lib.hid (pw_own_below HE.out hb7)
  have HL := Lib.hid (pw_own_below HL.out hb7)
  have HB := Lib.hid (HB.out.trans (hb7.mono HB.out.size))
  clear hv hb7 hrc
  go_wp2_with fail
  have h8 := Lib.hid (own_lit w7 w7.heap.size 5 .u8 liveR (Nat.le_refl _) (by decide))
  have hB8 : Below w7.heap.size w7 (w7.alloc (.cells (nums .u8 liveR).toArray 5)) := (Below.refl _ _).alloc (Nat.le_refl _) _
  have hG := Lib.hid (hG.out.below hB8)
  have HE := Lib.hid (pw_own_below HE.out hB8)
  have HL := Lib.hid (pw_own_below HL.out hB8)
  have HR := Lib.hid (pw_own_below HR.out hB8)
  have HB := Lib.hid (HB.out.trans (hB8.mono HB.out.size))
  clear hB8
  have hD := ca_decodeReply (w7.alloc (.cells (nums .u8 liveR).toArray 5)) 2 1 _ 8 liveR (own_readsS h8.out) (by decide)
  refine hD.mono ?_
  clear hD h8
  rintro e w8 ⟨rs, he, hM, hb8⟩
  obtain ⟨A0', c0', A1', c1', A2', c2', hrs, -⟩ := kReply_openM hM
  rw [live_rep.1] at he
  rw [live_rep.2] at hrs
  subst he
  have hl' : rs.length = 9 := by rw [hrs]; rfl
  have ho' : ∀ v ∈ rs, v.oneCell' = true := by rw [hrs]; simp [Value.oneCell']
  have hr2 := Lib.hid (show rs[2]? = some (.int .i32 7) by rw [hrs]; rfl)
  have hG := Lib.hid (hG.out.below hb8)
  have HE := Lib.hid (pw_own_below HE.out hb8)
  have HL := Lib.hid (pw_own_below HL.out hb8)
  have HR := Lib.hid (pw_own_below HR.out hb8)
  have HB := Lib.hid (HB.out.trans (hb8.mono HB.out.size))
  clear hM hb8 hrs
  have hc2 := Lib.hid (show cs[2]? = some (.int .i32 7) by rw [Hcs.out]; rfl)
  clear Hcs
  go_wp2_with (first
    | ((with_reducible refine gate_dst (N := 8) rfl ?_); refine box_event ?hg (N := 8) ?hd (cs := #[.int .i16 0, .int .i16 0, .int .i32 0, .slice none 0 0, .int .i32 0, .int .i32 0, .slice none 0 0, .int .i32 0, .slice none 0 0]) (t := 86) ?hr ?_; (case hd => rfl); (case hg => rfl); (case hr => first | (go_simp; done) | (go_simp; rfl)); intro gr hq w9 kq bq; have hH : Blk w9 gr 86 9 zReplyL := ⟨kq, rfl, by simp [zReplyL, Value.oneCell']⟩; have hH := Lib.hid hH; have hG := Lib.hid (hG.out.below bq); have HE := Lib.hid (pw_own_below HE.out bq); have HL := Lib.hid (pw_own_below HL.out bq); have HR := Lib.hid (pw_own_below HR.out bq); have hsh := Lib.hid (Nat.le_trans HB.out.size (Nat.le_of_eq hq.symm)); have HB := Lib.hid (HB.out.trans (bq.mono HB.out.size)); clear hq kq bq)
    | (refine bfull_event rfl 86 (.tmp 8) (.tmp 32) rfl rfl gr 9 zReplyL rs 86 (by rfl) (by rfl) hH.out hl' info_Reply ho' ?_; intro w10 hH' m; have HE := Lib.hid (own_modB HE.out hH.out m (by decide)); have HL := Lib.hid (own_modB HL.out hH.out m (by decide)); have HR := Lib.hid (own_modB HR.out hH.out m (by decide)); have hG := hG.out.mod m (blk_ne hG.out.heap hH.out.heap (by decide)); have HB := Lib.hid (belowFresh HB.out m hsh.out); have d2 := hG.cell hc2.out; have e2 := hH'.cell hr2.out; clear hG hH' m)
    | fail)
  clear d2 e2
  refine (same_any w10 Ae (some ⟨w.heap.size, 0, none⟩) ce 19 liveB liveB (own_readsS HE.out) (own_readsS HL.out)).mono ?_
  rintro e w11 ⟨rfl, n, rfl⟩
  rw [show sameF liveB liveB = true from by kernel_rfl]
  have HR := Lib.hid (pw_own_below HR.out (below_drewN' w10 n))
  have HB := Lib.hid (HB.out.trans ((below_drewN' w10 n).mono HB.out.size))
  generalize w10.drewN n = w11 at *
  go_wp2_with fail
  have h8 := Lib.hid (own_lit w11 w11.heap.size 5 .u8 liveR (Nat.le_refl _) (by decide))
  have hB8 : Below w11.heap.size w11 (w11.alloc (.cells (nums .u8 liveR).toArray 5)) := (Below.refl _ _).alloc (Nat.le_refl _) _
  have HR := Lib.hid (pw_own_below HR.out hB8)
  have HB := Lib.hid (HB.out.trans (hB8.mono HB.out.size))
  clear hB8
  refine (same_any (w11.alloc (.cells (nums .u8 liveR).toArray 5)) Ar (some ⟨w11.heap.size, 0, none⟩) cr 8 liveR liveR (own_readsS HR.out) (own_readsS h8.out)).mono ?_
  rintro e w12 ⟨rfl, k, rfl⟩
  rw [show sameF liveR liveR = true from by kernel_rfl]
  go_wp2_with fail
  go_ret
  exact ⟨rfl, HB.out.trans ((below_drewN' _ _).mono HB.out.size)⟩

end Go.Proofs.YteckmgmcfngddaaGreat
end

section
/- The references' trees of zero messages. -/
set_option linter.unusedVariables false
set_option linter.unusedSimpArgs false
namespace Go.Proofs.YteckmgmcfngddaaGreat
open Go.RowKit Go.Proofs.YteckmgmcfngddaaGreatW.PrintWords

def AllK (x : Node) (c : List Value) : Prop := ∀ w, kNode.K w x c
theorem allK_mk (k n : Int) (b : Bool) (A3 A4 : Option Addr) (c3 c4 : Nat) : AllK ⟨k, n, b, [], []⟩ [.int .i64 k, .int .i64 n, .bool b, .slice A3 0 c3, .slice A4 0 c4] := fun w =>
  kNode_mkK w ⟨k, n, b, [], []⟩ (Nat.zero_le _) ⟨rfl, Nat.zero_le _, fun h => absurd h (Nat.lt_irrefl _)⟩ (Nat.zero_le _) ⟨rfl, Nat.zero_le _, fun h => absurd h (Nat.lt_irrefl _)⟩
theorem reps_cons {x : Node} {xs : List Node} {c cs : List Value} {R : Node → List Value → Prop} (h : R x c) (hc : c.length = 5) (hr : Reps R 5 xs cs) : Reps R 5 (x :: xs) (c ++ cs) := by
  refine ⟨by rw [List.length_append, hc, hr.1, List.length_cons]; omega, fun j p hj => ?_⟩
  cases j with
  | zero =>
    have : x = p := by simpa using hj
    subst this
    rw [Nat.zero_mul, List.drop_zero, ← hc, List.take_left]
    exact h
  | succ j =>
    have := hr.2 j p (by simpa using hj)
    rw [show (j + 1) * 5 = c.length + j * 5 by omega, List.drop_append, List.drop_of_length_le (by omega), List.nil_append, Nat.add_sub_cancel_left]
    exact this
theorem C_of_blk {w : World} {b : Nat} {inner : List Value} {t : TypeId} {xs : List Node} (hb : w.heap[b]? = some (.cells inner.toArray t (0, 0))) (hr : Reps AllK 5 xs inner) (hl : xs.length ≤ 9223372036854775807) : kNode.C w (some ⟨b, 0, none⟩) xs.length xs :=
  ⟨rfl, hl, fun _ => ⟨⟨b, 0, none⟩, rfl, fun j p hj => by
    have hjl : j < xs.length := (List.getElem?_eq_some_iff.1 hj).1
    have h1 := hr.1
    refine ⟨(inner.drop (j * 5)).take 5, (by rw [List.length_take, List.length_drop, h1]; omega : ((inner.drop (j * 5)).take 5).length = 5), hr.2 j p hj w, fun i u hu => ?_⟩
    have hi : i < 5 := by
      have := (List.getElem?_eq_some_iff.1 hu).1
      rw [List.length_take] at this
      omega
    show w.cell? ((⟨b, 0, none⟩ : Addr).add (j * 5 + i)) = some u
    rw [add_plain, blk_cell hb]
    rw [List.getElem?_take_of_lt hi, List.getElem?_drop] at hu
    simpa using hu⟩⟩
def numN (k v : Int) : Node := ⟨k, v, false, [], []⟩
def rowsN (xs : List Node) : Node := ⟨9, 0, false, [], xs⟩
def rowN (xs : List Node) : Node := ⟨10, 0, false, [], xs⟩
theorem cell_alloc_old {w : World} {a : Addr} {v : Value} {o : Obj} (h : w.cell? a = some v) : (w.alloc o).cell? a = some v := (cell_of_heap (Below.heap_alloc w o a.block (World.block_lt_of_cell? w _ h))).trans h
theorem cell_drewOf {w : World} {a : Addr} {v : Value} (h : w.cell? a = some v) : w.drew.cell? a = some v := h
/-- A tree whose list is the call's own. -/
def TreePost (xs : List Node) (w : World) (e : Ending) (w' : World) : Prop := ∃ A c, e = .returned (nodeV 10 0 false (.slice none 0 0) (.slice A xs.length c)) ∧ OwnRow AllK 39 5 w' w.heap.size (.slice A xs.length c) xs ∧ Below w.heap.size w w'
theorem own_of_blk {w : World} {b base : Nat} {inner : List Value} {xs : List Node} (hb : w.heap[b]? = some (.cells inner.toArray 39 (0, 0))) (hr : Reps AllK 5 xs inner) (hl : xs.length ≤ 9223372036854775807) (h0 : base ≤ b) : OwnRow AllK 39 5 w base (.slice (some ⟨b, 0, none⟩) xs.length xs.length) xs :=
  ⟨inner, ⟨hr.1, .inr ⟨b, xs.length, inner.toArray, rfl, h0, hb, Nat.le_refl _, hl, by rw [List.size_toArray]; exact hr.1, by rw [List.take_of_length_le]; exact Nat.le_of_eq hr.1⟩⟩, hr⟩
def fz0 : List Node := [⟨6, 0, false, [], []⟩, numN 2 0, numN 3 0, rowsN []]
def fz1 : List Node := [numN 3 0, numN 3 0, numN 3 0, numN 3 0, numN 1 0, rowsN []]
def fz2 : List Node := [numN 3 0, numN 1 0, rowsN []]
theorem infoN : (Tryz.prog.info? 39).map (fun i => (i.zero, i.size, i.bytes)) = some (some (.agg #[.int .i64 0, .int .i64 0, .bool false, .slice none 0 0, .slice none 0 0]), 5, 72) := by kernel_rfl

set_option maxRecDepth 100000 in
set_option maxHeartbeats 6400000 in
theorem full0 (w : World) (Aq : Option Addr) (cq : Nat) : Calls Tryz.prog 195 #[.agg #[.bool false, .string ⟨#[]⟩, .int .i16 0, .int .i32 0, .slice Aq 0 cq]] w (TreePost fz0 w) := by
  go_enter Tryz.func195, Tryz.ntmps195
  go_wp2_with (first
    | ((with_reducible refine gate_dst (N := 1) rfl ?_); refine box_event ?hg (N := 1) ?hd (cs := #[.bool false, .string ⟨#[]⟩, .int .i16 0, .int .i32 0, .slice Aq 0 cq]) (t := 33) ?hr ?_; (case hd => rfl); (case hg => rfl); (case hr => first | (go_simp; done) | (go_simp; rfl)); intro ga hqa w0 ka ba; have Ka := Lib.hid ka; have B0 := Lib.hid ba; clear hqa ka ba)
    | ((with_reducible refine gate_dst (N := 2) rfl ?_); refine box_event ?hg (N := 2) ?hd (cs := #[.int .i64 0, .int .i64 0, .bool false, .slice none 0 0, .slice none 0 0]) (t := 39) ?hr ?_; (case hd => rfl); (case hg => rfl); (case hr => first | (go_simp; done) | (go_simp; rfl)); intro gb hq w1 kq bq; have hgb : Blk w1 gb 39 5 zNodeL := ⟨kq, rfl, by simp [zNodeL, Value.oneCell']⟩; have Ka := Lib.hid (blk_mod (S := fun _ => False) Ka.out (Mod.of_below bq) id); have HB := Lib.hid (B0.out.trans (bq.mono B0.out.size)); have hsg := Lib.hid (Nat.le_trans B0.out.size (Nat.le_of_eq hq.symm)); clear hq kq bq)
    | fail)
  have hA : Below w1.heap.size w1 (w1.alloc (.cells #[] 39)) := (Below.refl _ _).alloc (Nat.le_refl _) _
  have hgb := hgb.below hA
  have Ka := Lib.hid (blk_mod (S := fun _ => False) Ka.out (Mod.of_below hA) id)
  have HB := Lib.hid (HB.out.trans (hA.mono HB.out.size))
  clear hA
  generalize w1.alloc (.cells #[] 39) = w2 at *
  have a3 : w2.cell? ⟨ga, 4, none⟩ = _ := blk_cell Ka.out 4
  simp at a3
  go_loopw [3, 4] (fun v i wr => i = .int .i64 0 ∧ v = .slice (some ⟨w1.heap.size, 0, none⟩) 0 0 ∧ w2 = wr) (fun _ _ _ => 0)
  case atStart => exact ⟨rfl, rfl, rfl⟩
  case round =>
    obtain ⟨rfl, rfl, rfl⟩ := hrel
    go_wp2_with fail
    have hne : ga ≠ gb := blk_ne Ka.out hgb.heap (by decide)
    have q0 : w2.cell? ⟨ga, 0, none⟩ = _ := blk_cell Ka.out 0
    have q1 : w2.cell? ⟨ga, 1, none⟩ = _ := blk_cell Ka.out 1
    have q2 : w2.cell? ⟨ga, 2, none⟩ = _ := blk_cell Ka.out 2
    have q3 : w2.cell? ⟨ga, 3, none⟩ = _ := blk_cell Ka.out 3
    simp at q0 q1 q2 q3
    have hG := Lib.hid hgb
    clear a3 hgb
    go_region_held3 (fun w' => w'.cell? ⟨ga, 0, none⟩ = some (.bool false) ∧ w'.cell? ⟨ga, 1, none⟩ = some (.string ⟨#[]⟩) ∧ w'.cell? ⟨ga, 2, none⟩ = some (.int .i16 0) ∧ w'.cell? ⟨ga, 3, none⟩ = some (.int .i32 0))
      (first | with_reducible exact ⟨q0, q1, q2, q3⟩ | with_reducible exact ⟨cell_drewOf q0, cell_drewOf q1, cell_drewOf q2, cell_drewOf q3⟩ | with_reducible exact ⟨cell_alloc_old q0, cell_alloc_old q1, cell_alloc_old q2, cell_alloc_old q3⟩ | (simp only [far_cell hne]; with_reducible exact ⟨q0, q1, q2, q3⟩))
      (first
        | (go_at_call 227; refine (nd_ntext _ ⟨false, ⟨#[]⟩⟩ (by decide)).mono ?_; rintro e wk ⟨Ak, ck, rfl, hck, hrk, hbk⟩; have Ka := Lib.hid (blk_mod (S := fun _ => False) (by first | with_reducible exact Ka.out | with_reducible exact blk_drewOf Ka.out | with_reducible exact blk_old Ka.out _) (Mod.of_below hbk) id); have hG := Lib.hid (Blk.mod (S := fun _ => False) (by first | with_reducible exact hG.out | with_reducible exact Blk.drew hG.out | with_reducible exact Blk.alloc hG.out _) (Mod.of_below hbk) id); have HB := Lib.hid (Below.trans (by first | with_reducible exact HB.out | with_reducible exact Below.drew HB.out | with_reducible exact Below.alloc HB.out HB.out.size _) (hbk.mono (by have := HB.out.size; simp; omega))); have HRk := Lib.hid hrk; have q0 := blk_cell Ka.out 0; have q1 := blk_cell Ka.out 1; have q2 := blk_cell Ka.out 2; have q3 := blk_cell Ka.out 3; simp at q0 q1 q2 q3; clear hrk hbk)
        | (go_at_call 223; refine (nd_num _ _ _).mono ?_; rintro e wk ⟨rfl, hbk⟩; have Ka := Lib.hid (blk_mod (S := fun _ => False) (by first | with_reducible exact Ka.out | with_reducible exact blk_drewOf Ka.out | with_reducible exact blk_old Ka.out _) (Mod.of_below hbk) id); have hG := Lib.hid (Blk.mod (S := fun _ => False) (by first | with_reducible exact hG.out | with_reducible exact Blk.drew hG.out | with_reducible exact Blk.alloc hG.out _) (Mod.of_below hbk) id); have HB := Lib.hid (Below.trans (by first | with_reducible exact HB.out | with_reducible exact Below.drew HB.out | with_reducible exact Below.alloc HB.out HB.out.size _) (hbk.mono (by have := HB.out.size; simp; omega))); have q0 := blk_cell Ka.out 0; have q1 := blk_cell Ka.out 1; have q2 := blk_cell Ka.out 2; have q3 := blk_cell Ka.out 3; simp at q0 q1 q2 q3; clear hbk)
        | (go_at_call 226; refine (nd_rows _ _ _ _).mono ?_; rintro e wk ⟨rfl, hbk⟩; have Ka := Lib.hid (blk_mod (S := fun _ => False) (by first | with_reducible exact Ka.out | with_reducible exact blk_drewOf Ka.out | with_reducible exact blk_old Ka.out _) (Mod.of_below hbk) id); have hG := Lib.hid (Blk.mod (S := fun _ => False) (by first | with_reducible exact hG.out | with_reducible exact Blk.drew hG.out | with_reducible exact Blk.alloc hG.out _) (Mod.of_below hbk) id); have HB := Lib.hid (Below.trans (by first | with_reducible exact HB.out | with_reducible exact Below.drew HB.out | with_reducible exact Below.alloc HB.out HB.out.size _) (hbk.mono (by have := HB.out.size; simp; omega))); have q0 := blk_cell Ka.out 0; have q1 := blk_cell Ka.out 1; have q2 := blk_cell Ka.out 2; have q3 := blk_cell Ka.out 3; simp at q0 q1 q2 q3; clear hbk)
        | (go_at_call 222; refine (nd_row _ _ _ _).mono ?_; rintro e wk ⟨rfl, hbk⟩; have hgy := Lib.hid (Nat.ne_of_gt hG.out.lt); have hfz := Lib.hid HB.out.size; have hnew := Lib.hid (blk_mod (S := fun _ => False) (blk_new _ _) (Mod.of_below hbk) id); have Ka := Lib.hid (blk_mod (S := fun _ => False) (by first | with_reducible exact Ka.out | with_reducible exact blk_drewOf Ka.out | with_reducible exact blk_old Ka.out _) (Mod.of_below hbk) id); have hG := Lib.hid (Blk.mod (S := fun _ => False) (by first | with_reducible exact hG.out | with_reducible exact Blk.drew hG.out | with_reducible exact Blk.alloc hG.out _) (Mod.of_below hbk) id); have HB := Lib.hid (Below.trans (by first | with_reducible exact HB.out | with_reducible exact Below.drew HB.out | with_reducible exact Below.alloc HB.out HB.out.size _) (hbk.mono (by have := HB.out.size; simp; omega))); have q0 := blk_cell Ka.out 0; have q1 := blk_cell Ka.out 1; have q2 := blk_cell Ka.out 2; have q3 := blk_cell Ka.out 3; simp at q0 q1 q2 q3; have r0 := blk_cell hG.out.heap 0; have r1 := blk_cell hG.out.heap 1; have r2 := blk_cell hG.out.heap 2; have r3 := blk_cell hG.out.heap 3; have r4 := blk_cell hG.out.heap 4; simp [zNodeL] at r0 r1 r2 r3 r4; have fr := fun i => blk_frozen hG.out.heap i; clear hbk))
    go_wp2
    refine bodyPost_ret (results_blk1 rfl (by rfl) (((((hG.out.set 0 _ rfl).set 1 _ rfl).set 2 _ rfl).set 3 _ rfl).set 4 _ rfl) Tryz.underlying39 rfl info_Node) rfl ?_
    refine ⟨_, _, rfl, ?_, ?_⟩
    · refine own_of_blk (xs := fz0) (blk_far (blk_far (blk_far (blk_far (blk_far hnew.out hgy.out _) hgy.out _) hgy.out _) hgy.out _) hgy.out _) ?_ (by decide) hfz.out
      exact reps_cons (allK_mk 6 0 false _ _ _ _) rfl (reps_cons (allK_mk 2 0 false _ _ _ _) rfl (reps_cons (allK_mk 3 0 false _ _ _ _) rfl (reps_cons (allK_mk 9 0 false _ _ _ _) rfl (Reps.none _ _))))
    · exact Below.setCell (Below.setCell (Below.setCell (Below.setCell (Below.setCell HB.out (p := ⟨gb, 0, none⟩) hsg.out _) (p := ⟨gb, 1, none⟩) hsg.out _) (p := ⟨gb, 2, none⟩) hsg.out _) (p := ⟨gb, 3, none⟩) hsg.out _) (p := ⟨gb, 4, none⟩) hsg.out _

set_option maxRecDepth 100000 in
set_option maxHeartbeats 6400000 in
theorem full2 (w : World) (Aq : Option Addr) (cq : Nat) : Calls Tryz.prog 197 #[.agg #[.int .i32 0, .int .i8 0, .slice Aq 0 cq]] w (TreePost fz2 w) := by
  go_enter Tryz.func197, Tryz.ntmps197
  go_wp2_with (first
    | ((with_reducible refine gate_dst (N := 1) rfl ?_); refine box_event ?hg (N := 1) ?hd (cs := #[.int .i32 0, .int .i8 0, .slice Aq 0 cq]) (t := 56) ?hr ?_; (case hd => rfl); (case hg => rfl); (case hr => first | (go_simp; done) | (go_simp; rfl)); intro ga hqa w0 ka ba; have Ka := Lib.hid ka; have B0 := Lib.hid ba; clear hqa ka ba)
    | ((with_reducible refine gate_dst (N := 2) rfl ?_); refine box_event ?hg (N := 2) ?hd (cs := #[.int .i64 0, .int .i64 0, .bool false, .slice none 0 0, .slice none 0 0]) (t := 39) ?hr ?_; (case hd => rfl); (case hg => rfl); (case hr => first | (go_simp; done) | (go_simp; rfl)); intro gb hq w1 kq bq; have hgb : Blk w1 gb 39 5 zNodeL := ⟨kq, rfl, by simp [zNodeL, Value.oneCell']⟩; have Ka := Lib.hid (blk_mod (S := fun _ => False) Ka.out (Mod.of_below bq) id); have HB := Lib.hid (B0.out.trans (bq.mono B0.out.size)); have hsg := Lib.hid (Nat.le_trans B0.out.size (Nat.le_of_eq hq.symm)); clear hq kq bq)
    | fail)
  have hA : Below w1.heap.size w1 (w1.alloc (.cells #[] 39)) := (Below.refl _ _).alloc (Nat.le_refl _) _
  have hgb := hgb.below hA
  have Ka := Lib.hid (blk_mod (S := fun _ => False) Ka.out (Mod.of_below hA) id)
  have HB := Lib.hid (HB.out.trans (hA.mono HB.out.size))
  clear hA
  generalize w1.alloc (.cells #[] 39) = w2 at *
  have a3 : w2.cell? ⟨ga, 2, none⟩ = _ := blk_cell Ka.out 2
  simp at a3
  go_loopw [3, 4] (fun v i wr => i = .int .i64 0 ∧ v = .slice (some ⟨w1.heap.size, 0, none⟩) 0 0 ∧ w2 = wr) (fun _ _ _ => 0)
  case atStart => exact ⟨rfl, rfl, rfl⟩
  case round =>
    obtain ⟨rfl, rfl, rfl⟩ := hrel
    go_wp2_with fail
    have hne : ga ≠ gb := blk_ne Ka.out hgb.heap (by decide)
    have q0 : w2.cell? ⟨ga, 0, none⟩ = _ := blk_cell Ka.out 0
    have q1 : w2.cell? ⟨ga, 1, none⟩ = _ := blk_cell Ka.out 1
    simp at q0 q1
    have hG := Lib.hid hgb
    clear a3 hgb
    go_region_held3 (fun w' => w'.cell? ⟨ga, 0, none⟩ = some (.int .i32 0) ∧ w'.cell? ⟨ga, 1, none⟩ = some (.int .i8 0))
      (first | with_reducible exact ⟨q0, q1⟩ | with_reducible exact ⟨cell_drewOf q0, cell_drewOf q1⟩ | with_reducible exact ⟨cell_alloc_old q0, cell_alloc_old q1⟩ | (simp only [far_cell hne]; with_reducible exact ⟨q0, q1⟩))
      (first
        | (go_at_call 223; refine (nd_num _ _ _).mono ?_; rintro e wk ⟨rfl, hbk⟩; have Ka := Lib.hid (blk_mod (S := fun _ => False) (by first | with_reducible exact Ka.out | with_reducible exact blk_drewOf Ka.out | with_reducible exact blk_old Ka.out _) (Mod.of_below hbk) id); have hG := Lib.hid (Blk.mod (S := fun _ => False) (by first | with_reducible exact hG.out | with_reducible exact Blk.drew hG.out | with_reducible exact Blk.alloc hG.out _) (Mod.of_below hbk) id); have HB := Lib.hid (Below.trans (by first | with_reducible exact HB.out | with_reducible exact Below.drew HB.out | with_reducible exact Below.alloc HB.out HB.out.size _) (hbk.mono (by have := HB.out.size; simp; omega))); have q0 := blk_cell Ka.out 0; have q1 := blk_cell Ka.out 1; simp at q0 q1; clear hbk)
        | (go_at_call 226; refine (nd_rows _ _ _ _).mono ?_; rintro e wk ⟨rfl, hbk⟩; have Ka := Lib.hid (blk_mod (S := fun _ => False) (by first | with_reducible exact Ka.out | with_reducible exact blk_drewOf Ka.out | with_reducible exact blk_old Ka.out _) (Mod.of_below hbk) id); have hG := Lib.hid (Blk.mod (S := fun _ => False) (by first | with_reducible exact hG.out | with_reducible exact Blk.drew hG.out | with_reducible exact Blk.alloc hG.out _) (Mod.of_below hbk) id); have HB := Lib.hid (Below.trans (by first | with_reducible exact HB.out | with_reducible exact Below.drew HB.out | with_reducible exact Below.alloc HB.out HB.out.size _) (hbk.mono (by have := HB.out.size; simp; omega))); have q0 := blk_cell Ka.out 0; have q1 := blk_cell Ka.out 1; simp at q0 q1; clear hbk)
        | (go_at_call 222; refine (nd_row _ _ _ _).mono ?_; rintro e wk ⟨rfl, hbk⟩; have hgy := Lib.hid (Nat.ne_of_gt hG.out.lt); have hfz := Lib.hid HB.out.size; have hnew := Lib.hid (blk_mod (S := fun _ => False) (blk_new _ _) (Mod.of_below hbk) id); have Ka := Lib.hid (blk_mod (S := fun _ => False) (by first | with_reducible exact Ka.out | with_reducible exact blk_drewOf Ka.out | with_reducible exact blk_old Ka.out _) (Mod.of_below hbk) id); have hG := Lib.hid (Blk.mod (S := fun _ => False) (by first | with_reducible exact hG.out | with_reducible exact Blk.drew hG.out | with_reducible exact Blk.alloc hG.out _) (Mod.of_below hbk) id); have HB := Lib.hid (Below.trans (by first | with_reducible exact HB.out | with_reducible exact Below.drew HB.out | with_reducible exact Below.alloc HB.out HB.out.size _) (hbk.mono (by have := HB.out.size; simp; omega))); have q0 := blk_cell Ka.out 0; have q1 := blk_cell Ka.out 1; simp at q0 q1; have r0 := blk_cell hG.out.heap 0; have r1 := blk_cell hG.out.heap 1; have r2 := blk_cell hG.out.heap 2; have r3 := blk_cell hG.out.heap 3; have r4 := blk_cell hG.out.heap 4; simp [zNodeL] at r0 r1 r2 r3 r4; have fr := fun i => blk_frozen hG.out.heap i; clear hbk))
    go_wp2
    refine bodyPost_ret (results_blk1 rfl (by rfl) (((((hG.out.set 0 _ rfl).set 1 _ rfl).set 2 _ rfl).set 3 _ rfl).set 4 _ rfl) Tryz.underlying39 rfl info_Node) rfl ?_
    refine ⟨_, _, rfl, ?_, ?_⟩
    · refine own_of_blk (xs := fz2) (blk_far (blk_far (blk_far (blk_far (blk_far hnew.out hgy.out _) hgy.out _) hgy.out _) hgy.out _) hgy.out _) ?_ (by decide) hfz.out
      exact reps_cons (allK_mk 3 0 false _ _ _ _) rfl (reps_cons (allK_mk 1 0 false _ _ _ _) rfl (reps_cons (allK_mk 9 0 false _ _ _ _) rfl (Reps.none _ _)))
    · exact Below.setCell (Below.setCell (Below.setCell (Below.setCell (Below.setCell HB.out (p := ⟨gb, 0, none⟩) hsg.out _) (p := ⟨gb, 1, none⟩) hsg.out _) (p := ⟨gb, 2, none⟩) hsg.out _) (p := ⟨gb, 3, none⟩) hsg.out _) (p := ⟨gb, 4, none⟩) hsg.out _

theorem row3 (W : World) (base : Nat) (hb : base ≤ W.heap.size) : OwnRow AllK 39 5 (W.alloc (.cells #[.int .i64 3, .int .i64 0, .bool false, .slice none 0 0, .slice none 0 0, .int .i64 3, .int .i64 0, .bool false, .slice none 0 0, .slice none 0 0, .int .i64 3, .int .i64 0, .bool false, .slice none 0 0, .slice none 0 0] 39)) base (.slice (some ⟨W.heap.size, 0, none⟩) 3 3) [⟨3, 0, false, [], []⟩, ⟨3, 0, false, [], []⟩, ⟨3, 0, false, [], []⟩] :=
  OwnRow.lit (R := AllK) (e := 39) W base (reps_cons (allK_mk 3 0 false none none 0 0) rfl (reps_cons (allK_mk 3 0 false none none 0 0) rfl (reps_cons (allK_mk 3 0 false none none 0 0) rfl (Reps.none _ _)))) hb (by decide)
theorem own_setK {R : Node → List Value → Prop} {W : World} {base g j : Nat} {v : Value} {xs : List Node} (h : OwnRow R 39 5 W base v xs) (hg : g < base) (u : Value) : OwnRow R 39 5 (W.setCell ⟨g, j, none⟩ u) base v xs := by
  obtain ⟨inner, ho, hr⟩ := h
  exact ⟨inner, own_setCell ho (fun e => absurd (own_base ho g e.symm) (by omega)) u, hr⟩
theorem own_modK {R : Node → List Value → Prop} {W W' : World} {base g : Nat} {v : Value} {xs : List Node} (h : OwnRow R 39 5 W base v xs) (m : Mod (· = g) W W') (hg : g < base) : OwnRow R 39 5 W' base v xs := by
  obtain ⟨inner, ⟨hl, ho⟩, hr⟩ := h
  refine ⟨inner, ⟨hl, ?_⟩, hr⟩
  rcases ho with hn | ⟨g', cap, cur, hv, hb, hh, rest⟩
  · exact .inl hn
  · exact .inr ⟨g', cap, cur, hv, hb, blk_mod hh m (by show ¬ g' = g; omega), rest⟩
theorem own_C {W : World} {base n c : Nat} {A : Option Addr} {xs : List Node} (h : OwnRow AllK 39 5 W base (.slice A n c) xs) (hn : xs.length = n) : n ≤ c ∧ kNode.C W A n xs := by
  obtain ⟨A', c', e, hc, hr⟩ := h.reads
  cases e
  exact ⟨hc, hr.1, hr.2.1, fun h0 => by
    obtain ⟨ad, e, hh⟩ := hr.2.2 h0
    exact ⟨ad, e, fun j p hj => by obtain ⟨cs, h1, h2, h3⟩ := hh j p hj; exact ⟨cs, h1, h2 W, h3⟩⟩⟩

set_option maxRecDepth 100000 in
set_option maxHeartbeats 6400000 in
theorem full1 (w : World) (Aq : Option Addr) (cq : Nat) : Calls Tryz.prog 196 #[.agg #[.int .i32 0, .int .i32 0, .int .i32 0, .int .i32 0, .int .i8 0, .slice Aq 0 cq]] w (TreePost fz1 w) := by
  go_enter Tryz.func196, Tryz.ntmps196
  go_wp2_with (first
    | ((with_reducible refine gate_dst (N := 1) rfl ?_); refine box_event ?hg (N := 1) ?hd (cs := #[.int .i32 0, .int .i32 0, .int .i32 0, .int .i32 0, .int .i8 0, .slice Aq 0 cq]) (t := 68) ?hr ?_; (case hd => rfl); (case hg => rfl); (case hr => first | (go_simp; done) | (go_simp; rfl)); intro ga hqa w0 ka ba; have Ka := Lib.hid ka; have B0 := Lib.hid ba; clear hqa ka ba)
    | ((with_reducible refine gate_dst (N := 2) rfl ?_); refine box_event ?hg (N := 2) ?hd (cs := #[.int .i64 0, .int .i64 0, .bool false, .slice none 0 0, .slice none 0 0]) (t := 39) ?hr ?_; (case hd => rfl); (case hg => rfl); (case hr => first | (go_simp; done) | (go_simp; rfl)); intro gb hq w1 kq bq; have hgb : Blk w1 gb 39 5 zNodeL := ⟨kq, rfl, by simp [zNodeL, Value.oneCell']⟩; have Ka := Lib.hid (blk_mod (S := fun _ => False) Ka.out (Mod.of_below bq) id); have HB := Lib.hid (B0.out.trans (bq.mono B0.out.size)); have hsg := Lib.hid (Nat.le_trans B0.out.size (Nat.le_of_eq hq.symm)); clear hq kq bq)
    | fail)
  have hA : Below w1.heap.size w1 (w1.alloc (.cells #[] 39)) := (Below.refl _ _).alloc (Nat.le_refl _) _
  have hgb := hgb.below hA
  have Ka := Lib.hid (blk_mod (S := fun _ => False) Ka.out (Mod.of_below hA) id)
  have HB := Lib.hid (HB.out.trans (hA.mono HB.out.size))
  clear hA
  generalize w1.alloc (.cells #[] 39) = w2 at *
  have a3 : w2.cell? ⟨ga, 5, none⟩ = _ := blk_cell Ka.out 5
  simp at a3
  go_loopw [3, 4] (fun v i wr => i = .int .i64 0 ∧ v = .slice (some ⟨w1.heap.size, 0, none⟩) 0 0 ∧ w2 = wr) (fun _ _ _ => 0)
  case atStart => exact ⟨rfl, rfl, rfl⟩
  case round =>
    obtain ⟨rfl, rfl, rfl⟩ := hrel
    go_wp2_with fail
    have hne : ga ≠ gb := blk_ne Ka.out hgb.heap (by decide)
    have q0 : w2.cell? ⟨ga, 0, none⟩ = _ := blk_cell Ka.out 0
    have q1 : w2.cell? ⟨ga, 1, none⟩ = _ := blk_cell Ka.out 1
    have q2 : w2.cell? ⟨ga, 2, none⟩ = _ := blk_cell Ka.out 2
    simp at q0 q1 q2
    have hG := Lib.hid hgb
    have hgl := Lib.hid hgb.lt
    clear a3 hgb
    have HC := Lib.hid (Below.refl w2.heap.size w2)
    have hbz := Lib.hid HB.out.size
    go_region_held3 (fun w' => w'.cell? ⟨ga, 0, none⟩ = some (.int .i32 0) ∧ w'.cell? ⟨ga, 1, none⟩ = some (.int .i32 0) ∧ w'.cell? ⟨ga, 2, none⟩ = some (.int .i32 0))
      (first | with_reducible exact ⟨q0, q1, q2⟩ | with_reducible exact ⟨cell_drewOf q0, cell_drewOf q1, cell_drewOf q2⟩ | with_reducible exact ⟨cell_alloc_old q0, cell_alloc_old q1, cell_alloc_old q2⟩)
      (first
        | (go_at_call 223; refine (nd_num _ _ _).mono ?_; rintro e wk ⟨rfl, hbk⟩; have HC := Lib.hid (Below.trans (by first | with_reducible exact HC.out | with_reducible exact Below.drew HC.out | with_reducible exact Below.alloc HC.out HC.out.size _) (hbk.mono (by have := HC.out.size; first | omega | (simp; done) | (simp; omega)))); have q0 : wk.cell? ⟨ga, 0, none⟩ = _ := pw_cell_below HC.out (blk_cell Ka.out 0); have q1 : wk.cell? ⟨ga, 1, none⟩ = _ := pw_cell_below HC.out (blk_cell Ka.out 1); have q2 : wk.cell? ⟨ga, 2, none⟩ = _ := pw_cell_below HC.out (blk_cell Ka.out 2); simp at q0 q1 q2; clear hbk))
    have hOR := Lib.hid (row3 wk w2.heap.size HC.out.size)
    have HC := Lib.hid (Below.alloc HC.out HC.out.size (.cells #[.int .i64 3, .int .i64 0, .bool false, .slice none 0 0, .slice none 0 0, .int .i64 3, .int .i64 0, .bool false, .slice none 0 0, .slice none 0 0, .int .i64 3, .int .i64 0, .bool false, .slice none 0 0, .slice none 0 0] 39))
    generalize hv9 : Value.slice (some ⟨wk.heap.size, 0, none⟩) 3 3 = v9 at *
    clear hv9 q0 q1 q2
    have q3 : (wk.alloc (.cells #[.int .i64 3, .int .i64 0, .bool false, .slice none 0 0, .slice none 0 0, .int .i64 3, .int .i64 0, .bool false, .slice none 0 0, .slice none 0 0, .int .i64 3, .int .i64 0, .bool false, .slice none 0 0, .slice none 0 0] 39)).cell? ⟨ga, 3, none⟩ = _ := pw_cell_below HC.out (blk_cell Ka.out 3)
    simp at q3
    go_wp2_with fail
    refine (nd_num _ _ _).mono ?_
    rintro e wb ⟨rfl, hbk⟩
    have HC := Lib.hid (HC.out.trans (hbk.mono HC.out.size))
    have hOR := Lib.hid (hOR.out.below hbk)
    clear hbk q3
    go_wp2_with (first
      | ((with_reducible refine gate_dst (N := 93) rfl ?_); refine OwnRow.append (R := AllK) (w0 := w2) w2.heap.size rfl (.tmp 87) (.tmp 92) 37 39 _ 5 72 rfl Tryz.underlying37 infoN rfl (by decide) (by decide) v9 _ ⟨3, 0, false, [], []⟩ [.int .i64 3, .int .i64 0, .bool false, .slice none 0 0, .slice none 0 0] (by rfl) (by rfl) (allK_mk _ _ _ _ _ _ _) rfl (by simp [Value.oneCell']) hOR.out HC.out HC.out.size (by decide) ?_; intro v10 wc hOR HC _ _; have hOR := Lib.hid hOR; have HC := Lib.hid HC; have q4 : wc.cell? ⟨ga, 4, none⟩ = _ := pw_cell_below HC.out (blk_cell Ka.out 4); simp at q4)
      | fail)
    refine (nd_num _ _ _).mono ?_
    rintro e wd ⟨rfl, hbk⟩
    have HC := Lib.hid (HC.out.trans (hbk.mono HC.out.size))
    have hOR := Lib.hid (hOR.out.below hbk)
    clear hbk q4
    go_wp2_with (first
      | ((with_reducible refine gate_dst (N := 100) rfl ?_); refine OwnRow.append (R := AllK) (w0 := w2) w2.heap.size rfl (.tmp 94) (.tmp 99) 37 39 _ 5 72 rfl Tryz.underlying37 infoN rfl (by decide) (by decide) v10 _ ⟨1, 0, false, [], []⟩ [.int .i64 1, .int .i64 0, .bool false, .slice none 0 0, .slice none 0 0] (by rfl) (by rfl) (allK_mk _ _ _ _ _ _ _) rfl (by simp [Value.oneCell']) hOR.out HC.out HC.out.size (by decide) ?_; intro v11 we hOR HC _ _; have hOR := Lib.hid hOR; have HC := Lib.hid HC)
      | fail)
    refine (nd_rows _ _ _ _).mono ?_
    rintro e wf ⟨rfl, hbk⟩
    have HC := Lib.hid (HC.out.trans (hbk.mono HC.out.size))
    have hOR := Lib.hid (hOR.out.below hbk)
    clear hbk
    go_wp2_with (first
      | ((with_reducible refine gate_dst (N := 105) rfl ?_); refine OwnRow.append (R := AllK) (w0 := w2) w2.heap.size rfl (.tmp 101) (.tmp 104) 37 39 _ 5 72 rfl Tryz.underlying37 infoN rfl (by decide) (by decide) v11 _ ⟨9, 0, false, [], []⟩ [.int .i64 9, .int .i64 0, .bool false, .slice none 0 0, .slice (some ⟨w1.heap.size, 0, none⟩) 0 0] (by rfl) (by rfl) (allK_mk _ _ _ _ _ _ _) rfl (by simp [Value.oneCell']) hOR.out HC.out HC.out.size (by decide) ?_; intro v12 wg hOR HC _ _; have hOR := Lib.hid hOR; have HC := Lib.hid HC)
      | fail)
    obtain ⟨A, c, rfl, hAc⟩ := hOR.out.slice_
    refine (nd_row _ _ _ _).mono ?_
    rintro e wh ⟨rfl, hbk⟩
    have HC := Lib.hid (HC.out.trans (hbk.mono HC.out.size))
    have hOR := Lib.hid (hOR.out.below hbk)
    have hG := Lib.hid (hG.out.below HC.out)
    have HB := Lib.hid (HB.out.trans (HC.out.mono HB.out.size))
    clear hbk
    go_wp2_with (first
      | (refine bfull_event rfl 39 (.tmp 2) (.tmp 107) rfl rfl gb 5 zNodeL [.int .i64 10, .int .i64 0, .bool false, .slice none 0 0, .slice A 6 c] 39 (by rfl) (by rfl) hG.out rfl info_Node (by simp [Value.oneCell']) ?_; intro wi hG m; have hG := Lib.hid hG; have m := Lib.hid m)
      | fail)
    refine bodyPost_ret (results_blk1 rfl (by rfl) hG.out Tryz.underlying39 rfl info_Node) rfl ?_
    exact ⟨_, _, rfl, (own_modK hOR.out m.out hgl.out).lower hbz.out, belowFresh HB.out m.out hsg.out⟩

end Go.Proofs.YteckmgmcfngddaaGreat
end

section
/- The reference's whole tree of the zero call. -/
set_option linter.unusedVariables false
set_option linter.unusedSimpArgs false
namespace Go.Proofs.YteckmgmcfngddaaGreat
open Go.RowKit Go.Proofs.YteckmgmcfngddaaGreatW.PrintWords

set_option maxRecDepth 100000 in
set_option maxHeartbeats 3200000 in
theorem full_at0 (w : World) (cs : List Value) (A0 A1 A2 : Option Addr) (c0 c1 c2 : Nat) (h : cs = callCells zCall A0 A1 A2 c0 c1 c2) : Calls Tryz.prog 140 #[.agg cs.toArray, .int .i16 0] w (TreePost fz0 w) := by
  have hl : cs.length = 19 := by rw [h]; rfl
  have ho : ∀ v ∈ cs, v.oneCell' = true := by rw [h]; simp [callCells, Value.oneCell']
  have hv := Lib.hid (show [.bool false, .string ⟨#[]⟩, .int .i16 0, .int .i32 0, .slice A0 0 c0] = (cs.drop 5).take 5 by rw [h]; rfl)
  clear h
  go_enter Tryz.func140, Tryz.ntmps140
  go_wp2_with (first
    | ((with_reducible refine gate_dst (N := 2) rfl ?_); refine box_event ?hg (N := 2) ?hd (cs := cs.toArray) (t := 79) ?hr ?_; (case hd => rfl); (case hg => rfl); (case hr => first | (go_simp; done) | (go_simp; rfl)); intro ga hq w1 ka ba; have hga : Blk w1 ga 79 19 cs := ⟨ka, hl, ho⟩; have HA := Lib.hid hga; have HB := Lib.hid ba; clear hq ka ba hga)
    | ((with_reducible refine gate_dst (N := 4) rfl ?_); refine box_event ?hg (N := 4) ?hd (cs := #[.int .i64 0, .int .i64 0, .bool false, .slice none 0 0, .slice none 0 0]) (t := 39) ?hr ?_; (case hd => rfl); (case hg => rfl); (case hr => first | (go_simp; done) | (go_simp; rfl)); intro gb hq w2 kq bq; have hG : Blk w2 gb 39 5 zNodeL := ⟨kq, rfl, by simp [zNodeL, Value.oneCell']⟩; have hG0 := Lib.hid hG.lt; have hG := Lib.hid hG; have HA := Lib.hid (HA.out.below bq); have hsg := Lib.hid (Nat.le_trans HB.out.size (Nat.le_of_eq hq.symm)); have HB := Lib.hid (HB.out.trans (bq.mono HB.out.size)); clear hq kq bq)
    | ((with_reducible refine gate_dst (N := 8) rfl ?_); refine bpart_event rfl 33 _ rfl ga 5 19 5 cs [.bool false, .string ⟨#[]⟩, .int .i16 0, .int .i32 0, .slice A0 0 c0] 79 _ (by rfl) HA.out hv.out rfl Tryz.underlying33 rfl (by kernel_rfl) ?_)
    | fail)
  refine (full0 w2 A0 c0).mono ?_
  rintro e w3 ⟨A, c, rfl, ho3, hb3⟩
  have hG := Lib.hid (hG.out.below hb3)
  have HO := Lib.hid ho3
  have hgl := Lib.hid (show gb < w2.heap.size from hG0.out)
  have HB0 := Lib.hid HB.out.size
  have HB := Lib.hid (HB.out.trans (hb3.mono HB.out.size))
  clear ho3 hb3 hv
  go_wp2_with (first
    | (refine bfull_event rfl 39 (.tmp 4) (.tmp 9) rfl rfl gb 5 zNodeL [.int .i64 10, .int .i64 0, .bool false, .slice none 0 0, .slice A fz0.length c] 39 (by rfl) (by rfl) hG.out rfl info_Node (by simp [Value.oneCell']) ?_; intro wi hG m; have hG := Lib.hid hG; have m := Lib.hid m)
    | fail)
  refine bodyPost_ret (results_blk1 rfl (by rfl) hG.out Tryz.underlying39 rfl info_Node) rfl ?_
  exact ⟨_, _, rfl, (own_modK HO.out m.out hgl.out).lower HB0.out, belowFresh HB.out m.out hsg.out⟩

set_option maxRecDepth 100000 in
set_option maxHeartbeats 3200000 in
theorem full_at1 (w : World) (cs : List Value) (A0 A1 A2 : Option Addr) (c0 c1 c2 : Nat) (h : cs = callCells zCall A0 A1 A2 c0 c1 c2) : Calls Tryz.prog 140 #[.agg cs.toArray, .int .i16 1] w (TreePost fz1 w) := by
  have hl : cs.length = 19 := by rw [h]; rfl
  have ho : ∀ v ∈ cs, v.oneCell' = true := by rw [h]; simp [callCells, Value.oneCell']
  have hv := Lib.hid (show [.int .i32 0, .int .i32 0, .int .i32 0, .int .i32 0, .int .i8 0, .slice A1 0 c1] = (cs.drop 10).take 6 by rw [h]; rfl)
  clear h
  go_enter Tryz.func140, Tryz.ntmps140
  go_wp2_with (first
    | ((with_reducible refine gate_dst (N := 2) rfl ?_); refine box_event ?hg (N := 2) ?hd (cs := cs.toArray) (t := 79) ?hr ?_; (case hd => rfl); (case hg => rfl); (case hr => first | (go_simp; done) | (go_simp; rfl)); intro ga hq w1 ka ba; have hga : Blk w1 ga 79 19 cs := ⟨ka, hl, ho⟩; have HA := Lib.hid hga; have HB := Lib.hid ba; clear hq ka ba hga)
    | ((with_reducible refine gate_dst (N := 4) rfl ?_); refine box_event ?hg (N := 4) ?hd (cs := #[.int .i64 0, .int .i64 0, .bool false, .slice none 0 0, .slice none 0 0]) (t := 39) ?hr ?_; (case hd => rfl); (case hg => rfl); (case hr => first | (go_simp; done) | (go_simp; rfl)); intro gb hq w2 kq bq; have hG : Blk w2 gb 39 5 zNodeL := ⟨kq, rfl, by simp [zNodeL, Value.oneCell']⟩; have hG0 := Lib.hid hG.lt; have hG := Lib.hid hG; have HA := Lib.hid (HA.out.below bq); have hsg := Lib.hid (Nat.le_trans HB.out.size (Nat.le_of_eq hq.symm)); have HB := Lib.hid (HB.out.trans (bq.mono HB.out.size)); clear hq kq bq)
    | ((with_reducible refine gate_dst (N := 13) rfl ?_); refine bpart_event rfl 68 _ rfl ga 10 19 6 cs [.int .i32 0, .int .i32 0, .int .i32 0, .int .i32 0, .int .i8 0, .slice A1 0 c1] 79 _ (by rfl) HA.out hv.out rfl Tryz.underlying68 rfl (by kernel_rfl) ?_)
    | fail)
  refine (full1 w2 A1 c1).mono ?_
  rintro e w3 ⟨A, c, rfl, ho3, hb3⟩
  have hG := Lib.hid (hG.out.below hb3)
  have HO := Lib.hid ho3
  have hgl := Lib.hid (show gb < w2.heap.size from hG0.out)
  have HB0 := Lib.hid HB.out.size
  have HB := Lib.hid (HB.out.trans (hb3.mono HB.out.size))
  clear ho3 hb3 hv
  go_wp2_with (first
    | (refine bfull_event rfl 39 (.tmp 4) (.tmp 14) rfl rfl gb 5 zNodeL [.int .i64 10, .int .i64 0, .bool false, .slice none 0 0, .slice A fz1.length c] 39 (by rfl) (by rfl) hG.out rfl info_Node (by simp [Value.oneCell']) ?_; intro wi hG m; have hG := Lib.hid hG; have m := Lib.hid m)
    | fail)
  refine bodyPost_ret (results_blk1 rfl (by rfl) hG.out Tryz.underlying39 rfl info_Node) rfl ?_
  exact ⟨_, _, rfl, (own_modK HO.out m.out hgl.out).lower HB0.out, belowFresh HB.out m.out hsg.out⟩

set_option maxRecDepth 100000 in
set_option maxHeartbeats 3200000 in
theorem full_at2 (w : World) (cs : List Value) (A0 A1 A2 : Option Addr) (c0 c1 c2 : Nat) (h : cs = callCells zCall A0 A1 A2 c0 c1 c2) : Calls Tryz.prog 140 #[.agg cs.toArray, .int .i16 2] w (TreePost fz2 w) := by
  have hl : cs.length = 19 := by rw [h]; rfl
  have ho : ∀ v ∈ cs, v.oneCell' = true := by rw [h]; simp [callCells, Value.oneCell']
  have hv := Lib.hid (show [.int .i32 0, .int .i8 0, .slice A2 0 c2] = (cs.drop 16).take 3 by rw [h]; rfl)
  clear h
  go_enter Tryz.func140, Tryz.ntmps140
  go_wp2_with (first
    | ((with_reducible refine gate_dst (N := 2) rfl ?_); refine box_event ?hg (N := 2) ?hd (cs := cs.toArray) (t := 79) ?hr ?_; (case hd => rfl); (case hg => rfl); (case hr => first | (go_simp; done) | (go_simp; rfl)); intro ga hq w1 ka ba; have hga : Blk w1 ga 79 19 cs := ⟨ka, hl, ho⟩; have HA := Lib.hid hga; have HB := Lib.hid ba; clear hq ka ba hga)
    | ((with_reducible refine gate_dst (N := 4) rfl ?_); refine box_event ?hg (N := 4) ?hd (cs := #[.int .i64 0, .int .i64 0, .bool false, .slice none 0 0, .slice none 0 0]) (t := 39) ?hr ?_; (case hd => rfl); (case hg => rfl); (case hr => first | (go_simp; done) | (go_simp; rfl)); intro gb hq w2 kq bq; have hG : Blk w2 gb 39 5 zNodeL := ⟨kq, rfl, by simp [zNodeL, Value.oneCell']⟩; have hG0 := Lib.hid hG.lt; have hG := Lib.hid hG; have HA := Lib.hid (HA.out.below bq); have hsg := Lib.hid (Nat.le_trans HB.out.size (Nat.le_of_eq hq.symm)); have HB := Lib.hid (HB.out.trans (bq.mono HB.out.size)); clear hq kq bq)
    | ((with_reducible refine gate_dst (N := 16) rfl ?_); refine bpart_event rfl 56 _ rfl ga 16 19 3 cs [.int .i32 0, .int .i8 0, .slice A2 0 c2] 79 _ (by rfl) HA.out hv.out rfl Tryz.underlying56 rfl (by kernel_rfl) ?_)
    | fail)
  refine (full2 w2 A2 c2).mono ?_
  rintro e w3 ⟨A, c, rfl, ho3, hb3⟩
  have hG := Lib.hid (hG.out.below hb3)
  have HO := Lib.hid ho3
  have hgl := Lib.hid (show gb < w2.heap.size from hG0.out)
  have HB0 := Lib.hid HB.out.size
  have HB := Lib.hid (HB.out.trans (hb3.mono HB.out.size))
  clear ho3 hb3 hv
  go_wp2_with (first
    | (refine bfull_event rfl 39 (.tmp 4) (.tmp 17) rfl rfl gb 5 zNodeL [.int .i64 10, .int .i64 0, .bool false, .slice none 0 0, .slice A fz2.length c] 39 (by rfl) (by rfl) hG.out rfl info_Node (by simp [Value.oneCell']) ?_; intro wi hG m; have hG := Lib.hid hG; have m := Lib.hid m)
    | fail)
  refine bodyPost_ret (results_blk1 rfl (by rfl) hG.out Tryz.underlying39 rfl info_Node) rfl ?_
  exact ⟨_, _, rfl, (own_modK HO.out m.out hgl.out).lower HB0.out, belowFresh HB.out m.out hsg.out⟩

def fzk (k : Int) : List Node := if k = 0 then fz0 else if k = 1 then fz1 else fz2
theorem full_zero (w : World) (k : Int) (hk : k = 0 ∨ k = 1 ∨ k = 2) (cs : List Value) (A0 A1 A2 : Option Addr) (c0 c1 c2 : Nat) (h : cs = callCells zCall A0 A1 A2 c0 c1 c2) : Calls Tryz.prog 140 #[.agg cs.toArray, .int .i16 k] w (TreePost (fzk k) w) := by
  rcases hk with rfl | rfl | rfl
  · exact full_at0 w cs A0 A1 A2 c0 c1 c2 h
  · exact full_at1 w cs A0 A1 A2 c0 c1 c2 h
  · exact full_at2 w cs A0 A1 A2 c0 c1 c2 h

end Go.Proofs.YteckmgmcfngddaaGreat
end

section
/- leatref16.Alike of two zero calls. -/
set_option linter.unusedVariables false
set_option linter.unusedSimpArgs false
namespace Go.Proofs.YteckmgmcfngddaaGreat
open Go.RowKit Go.Proofs.YteckmgmcfngddaaGreatW.PrintWords

theorem tree_K {w0 w : World} {xs : List Node} {A : Option Addr} {c : Nat} (h : OwnRow AllK 39 5 w w0.heap.size (.slice A xs.length c) xs) : kNode.K w (rowN xs) [.int .i64 10, .int .i64 0, .bool false, .slice none 0 0, .slice A xs.length c] :=
  have hC := own_C h rfl
  kNode_mkK w (rowN xs) (Nat.zero_le _) ⟨rfl, Nat.zero_le _, fun h => absurd h (Nat.lt_irrefl _)⟩ hC.1 hC.2
set_option maxRecDepth 100000 in
set_option maxHeartbeats 3200000 in
theorem alike_zero (w : World) (cs ds : List Value) (A0 A1 A2 B0 B1 B2 : Option Addr) (c0 c1 c2 e0 e1 e2 : Nat) (h : cs = callCells zCall A0 A1 A2 c0 c1 c2) (h' : ds = callCells zCall B0 B1 B2 e0 e1 e2) : Calls Tryz.prog 37 #[.agg cs.toArray, .agg ds.toArray] w fun e w' => e = .returned (.bool true) ∧ Below w.heap.size w w' := by
  have hl : cs.length = 19 := by rw [h]; rfl
  have ho : ∀ v ∈ cs, v.oneCell' = true := by rw [h]; simp [callCells, Value.oneCell']
  have hl' : ds.length = 19 := by rw [h']; rfl
  have ho' : ∀ v ∈ ds, v.oneCell' = true := by rw [h']; simp [callCells, Value.oneCell']
  have HC := Lib.hid h
  have HD := Lib.hid h'
  clear h h'
  go_enter Tryz.func37, Tryz.ntmps37
  go_wp2_with (first
    | ((with_reducible refine gate_dst (N := 2) rfl ?_); refine box_event ?hg (N := 2) ?hd (cs := cs.toArray) (t := 79) ?hr ?_; (case hd => rfl); (case hg => rfl); (case hr => first | (go_simp; done) | (go_simp; rfl)); intro ga hq w1 ka ba; have hga : Blk w1 ga 79 19 cs := ⟨ka, hl, ho⟩; have HA := Lib.hid hga; have HB := Lib.hid ba; clear hq ka ba hga)
    | ((with_reducible refine gate_dst (N := 3) rfl ?_); refine box_event ?hg (N := 3) ?hd (cs := ds.toArray) (t := 79) ?hr ?_; (case hd => rfl); (case hg => rfl); (case hr => first | (go_simp; done) | (go_simp; rfl)); intro gd hq w2 kq bq; have hgd : Blk w2 gd 79 19 ds := ⟨kq, hl', ho'⟩; have hga := HA.out.below bq; have a0 := hga.cell (i := 0) (v := .int .i16 0) (by rw [HC.out]; rfl); have a1 := hga.cell (i := 1) (v := .int .i16 0) (by rw [HC.out]; rfl); have a2 := hga.cell (i := 2) (v := .int .i32 0) (by rw [HC.out]; rfl); have a3 := hga.cell (i := 3) (v := .bool false) (by rw [HC.out]; rfl); have a4 := hga.cell (i := 4) (v := .string ⟨#[]⟩) (by rw [HC.out]; rfl); have b0 := hgd.cell (i := 0) (v := .int .i16 0) (by rw [HD.out]; rfl); have b1 := hgd.cell (i := 1) (v := .int .i16 0) (by rw [HD.out]; rfl); have b2 := hgd.cell (i := 2) (v := .int .i32 0) (by rw [HD.out]; rfl); have b3 := hgd.cell (i := 3) (v := .bool false) (by rw [HD.out]; rfl); have b4 := hgd.cell (i := 4) (v := .string ⟨#[]⟩) (by rw [HD.out]; rfl); have HA := Lib.hid hga; have HD' := Lib.hid hgd; have HB := Lib.hid (HB.out.trans (bq.mono HB.out.size)); clear hq kq bq hga hgd)
    | fail)
  go_loopw [5] (fun i wr => ∃ k : Int, 0 ≤ k ∧ k ≤ 3 ∧ i = .int .i16 k ∧ Hid (Below w2.heap.size w2 wr)) (fun i _ => 3 - (intOf i).toNat)
  case atStart => exact ⟨0, by omega, by omega, rfl, Lib.hid (Below.refl _ _)⟩
  case round =>
    clear a0 a1 a2 a3 a4 b0 b1 b2 b3 b4
    obtain ⟨k, h0, h3, rfl, hb⟩ := hrel
    by_cases hlt : k < 3
    case neg =>
      go_wp2
      go_ret
      exact ⟨rfl, HB.out.trans (hb.out.mono HB.out.size)⟩
    · have hk : k = 0 ∨ k = 1 ∨ k = 2 := by omega
      go_wp2_with fail
      refine wp_region_held_drew (S := fun w' => Blk w' ga 79 19 cs ∧ Blk w' gd 79 19 ds) (by kernel_rfl) ⟨(HA.out.below hb.out).drew, (HD'.out.below hb.out).drew⟩ (fun hHeld => ?_)
      have hb := Lib.hid (Below.drew hb.out)
      refine wpAnyH_take (i := 0) (v := .agg cs.toArray) rfl (by kernel_rfl) (by kernel_rfl) (by kernel_rfl) (fun _ _ _ h => h) (yieldsIf_load_mid (by rfl) 79 (.tmp 2) rfl ga 0 (by rfl) cs _ (fun w h => h.1.range) Tryz.underlying79 rfl (by rw [hl]; exact info_Call)) hHeld ?_
      try simp only [Act.put, List.getElem_toArray, List.getElem_cons_zero, List.getElem_cons_succ, List.setIfInBounds_toArray, List.set_cons_zero, List.set_cons_succ]
      refine wpAnyH_take (i := 1) (v := .int .i16 k) rfl (by kernel_rfl) (by kernel_rfl) (by kernel_rfl) (fun _ _ _ h => h) (Or.inl ⟨by rfl, fun w _ => by rfl⟩) hHeld ?_
      try simp only [Act.put, List.getElem_toArray, List.getElem_cons_zero, List.getElem_cons_succ, List.setIfInBounds_toArray, List.set_cons_zero, List.set_cons_succ]
      refine wpAnyH_take (i := 3) (v := .agg ds.toArray) rfl (by kernel_rfl) (by kernel_rfl) (by kernel_rfl) (fun _ _ _ h => h) (yieldsIf_load_mid (by rfl) 79 (.tmp 3) rfl gd 0 (by rfl) ds _ (fun w h => h.2.range) Tryz.underlying79 rfl (by rw [hl']; exact info_Call)) hHeld ?_
      try simp only [Act.put, List.getElem_toArray, List.getElem_cons_zero, List.getElem_cons_succ, List.setIfInBounds_toArray, List.set_cons_zero, List.set_cons_succ]
      refine wpAnyH_take (i := 4) (v := .int .i16 k) rfl (by kernel_rfl) (by kernel_rfl) (by kernel_rfl) (fun _ _ _ h => h) (Or.inl ⟨by rfl, fun w _ => by rfl⟩) hHeld ?_
      try simp only [Act.put, List.getElem_toArray, List.getElem_cons_zero, List.getElem_cons_succ, List.setIfInBounds_toArray, List.set_cons_zero, List.set_cons_succ]
      refine wpAnyH_ready (rs := [2]) (by kernel_rfl) (by simp) ?_
      refine AllReadyH.cons rfl (fun K hK => ?_) AllReadyH.nil
      try simp only [List.getElem_toArray, List.getElem_cons_zero, List.getElem_cons_succ]
      go_simp
      go_at_call 140
      refine (full_zero _ k hk cs A0 A1 A2 c0 c1 c2 HC.out).mono ?_
      rintro e w3 ⟨P, p, rfl, ho, hbk⟩
      have ho := Lib.hid ho
      have hbk := Lib.hid hbk
      have hb := Lib.hid (hb.out.trans (hbk.out.mono hb.out.size))
      have HO := ho
      clear hbk ho
      refine hK.out _ _ ⟨(HA.out.below hb.out), (HD'.out.below hb.out)⟩ (fun hHeld => ?_)
      clear hK K
      try simp only [Act.put, List.setIfInBounds_toArray, List.set_cons_zero, List.set_cons_succ]
      refine wpAnyH_ready (rs := [5]) (by kernel_rfl) (by simp) ?_
      refine AllReadyH.cons rfl (fun K hK => ?_) AllReadyH.nil
      try simp only [List.getElem_toArray, List.getElem_cons_zero, List.getElem_cons_succ]
      go_simp
      go_at_call 140
      refine (full_zero _ k hk ds B0 B1 B2 e0 e1 e2 HD.out).mono ?_
      rintro e w4 ⟨Q, q, rfl, ho, hbk⟩
      have ho := Lib.hid ho
      have hbk := Lib.hid hbk
      have hb := Lib.hid (hb.out.trans (hbk.out.mono hb.out.size))
      have HO := Lib.hid (HO.out.below hbk.out)
      have HO2 := ho
      clear hbk ho
      refine hK.out _ _ ⟨(HA.out.below hb.out), (HD'.out.below hb.out)⟩ (fun hHeld => ?_)
      clear hK K
      try simp only [Act.put, List.setIfInBounds_toArray, List.set_cons_zero, List.set_cons_succ]
      refine wpAnyH_ready (rs := [6]) (by kernel_rfl) (by simp) ?_
      refine AllReadyH.cons rfl (fun K hK => ?_) AllReadyH.nil
      try simp only [List.getElem_toArray, List.getElem_cons_zero, List.getElem_cons_succ]
      go_simp
      go_at_call 150
      refine (nd_alike _ (rowN (fzk k)) (rowN (fzk k)) _ _ _ (Nat.le_refl _) (tree_K HO.out) (tree_K HO2.out)).mono ?_
      rintro e w5 ⟨b, rfl, hbi, hbk⟩
      have hbt : b = true := hbi.2 rfl
      subst hbt
      have hb := Lib.hid (hb.out.trans (hbk.mono hb.out.size))
      clear hbk hbi
      refine hK.out _ _ ⟨(HA.out.below hb.out), (HD'.out.below hb.out)⟩ (fun hHeld => ?_)
      clear hK K
      try simp only [Act.put, List.setIfInBounds_toArray, List.set_cons_zero, List.set_cons_succ]
      refine wpAnyH_ready (rs := [7]) (by kernel_rfl) (by simp) ?_
      refine AllReadyH.cons rfl (fun K hK => ?_) AllReadyH.nil
      try simp only [List.getElem_toArray, List.getElem_cons_zero, List.getElem_cons_succ]
      go_simp
      refine hK.out _ _ ⟨(HA.out.below hb.out), (HD'.out.below hb.out)⟩ (fun hHeld => ?_)
      clear hK K
      try simp only [Act.put, List.setIfInBounds_toArray, List.set_cons_zero, List.set_cons_succ]
      refine wpAnyH_done (by kernel_rfl) ?_ _
      go_wp2_with fail
      refine ⟨⟨k + 1, by omega, by omega, rfl, hb⟩, ?_⟩
      show 3 - (k + 1).toNat < 3 - k.toNat
      omega

end Go.Proofs.YteckmgmcfngddaaGreat
end

section
/- What is read is written back: words; numbers, texts, bytes, lists. No program in sight. -/
set_option linter.unusedVariables false
set_option linter.unusedSimpArgs false
namespace Go.Proofs.YteckmgmcfngddaaGreat
open Go.RowKit Go.Proofs.YteckmgmcfngddaaGreatW.PrintWords

/-- All are bytes. -/
def Byts (l : List Int) : Prop := ∀ x ∈ l, 0 ≤ x ∧ x < 256
theorem Byts.drop {l : List Int} (h : Byts l) (n : Nat) : Byts (l.drop n) := fun x hx => h x (List.mem_of_mem_drop hx)
theorem Byts.take {l : List Int} (h : Byts l) (n : Nat) : Byts (l.take n) := fun x hx => h x (List.mem_of_mem_take hx)
/-- The number that bytes say, without wrapping. -/
def val : List Int → Int
  | [] => 0
  | c :: r => c * 256 ^ r.length + val r
theorem val_range : ∀ (l : List Int), Byts l → 0 ≤ val l ∧ val l < 256 ^ l.length
  | [], _ => ⟨Int.le_refl _, by decide⟩
  | c :: r, h => by
    have h1 := val_range r (fun x hx => h x (by simp [hx]))
    have h2 := h c (by simp)
    have hp : (0 : Int) < 256 ^ r.length := Int.pow_pos (by decide)
    have e : (256 : Int) ^ (c :: r).length = 256 * 256 ^ r.length := by rw [List.length_cons, Int.pow_succ, Int.mul_comm]
    rw [e]
    unfold val
    constructor
    · have := Int.mul_nonneg h2.1 (Int.le_of_lt hp); omega
    · have : c * 256 ^ r.length ≤ 255 * 256 ^ r.length := Int.mul_le_mul_of_nonneg_right (by omega) (Int.le_of_lt hp)
      omega
theorem val_snoc : ∀ (l : List Int) (c : Int), val (l ++ [c]) = val l * 256 + c
  | [], c => by simp [val]
  | a :: r, c => by
    have ih := val_snoc r c
    simp only [List.cons_append, val, ih, List.length_append, List.length_cons, List.length_nil, Nat.zero_add]
    rw [Int.pow_succ, Int.add_mul, Int.mul_assoc]
    omega
theorem or_low (x y : Int) (hx : 0 ≤ x) (hx1 : x < 72057594037927936) (hy : 0 ≤ y) (hy1 : y < 256) : Go.bits .or .u64 (IntKind.u64.wrap (x * 256)) (IntKind.u64.wrap y) = x * 256 + y := by
  rw [wraps_u64 _ (by omega) (by omega), wraps_u64 _ (by omega) (by omega)]
  exact bits_join .u64 64 (by decide) wraps_u64 8 (x * 256) y (by omega) (by omega) (by omega) hy (by omega) (by omega)
theorem beU_rev : ∀ (r : List Int), Byts r → r.length ≤ 8 → beU r.reverse = val r.reverse
  | [], _, _ => rfl
  | c :: r, h, hl => by
    have hr : Byts r := fun x hx => h x (by simp [hx])
    have ih := beU_rev r hr (by simp at hl; omega)
    have hb : Byts r.reverse := fun x hx => hr x (by simpa using hx)
    have hv := val_range r.reverse hb
    have hc := h c (by simp)
    have hlr : r.reverse.length ≤ 7 := by simp at hl ⊢; omega
    have hp : (256 : Int) ^ r.reverse.length ≤ 256 ^ 7 := by
      have := Int.ofNat_le.2 (Nat.pow_le_pow_right (n := 256) (by decide) hlr)
      rw [Int.natCast_pow, Int.natCast_pow] at this
      exact this
    rw [List.reverse_cons, val_snoc, ← ih]
    unfold beU
    rw [List.foldl_append]
    show Go.bits .or .u64 (IntKind.u64.wrap (beU r.reverse * 256)) (IntKind.u64.wrap c) = beU r.reverse * 256 + c
    rw [ih]
    exact or_low _ _ hv.1 (by have : (256 : Int) ^ 7 = 72057594037927936 := by decide
                              omega) hc.1 hc.2
theorem beU_val (l : List Int) (h : Byts l) (hl : l.length ≤ 8) : beU l = val l := by
  have := beU_rev l.reverse (fun x hx => h x (by simpa using hx)) (by simpa using hl)
  simpa using this
theorem u8_wrap (n : Int) : IntKind.u8.wrap n = n % 256 := by simp [IntKind.wrap, IntKind.bits, IntKind.signed]
/-- The digits of a number that says these bytes. -/
theorem beL_val : ∀ (l : List Int) (u : Int), Byts l → u % 256 ^ l.length = val l → beL u l.length = l
  | [], _, _, _ => rfl
  | c :: r, u, h, hu => by
    have hr : Byts r := fun x hx => h x (by simp [hx])
    have hv := val_range r hr
    have hc := h c (by simp)
    have hp : (0 : Int) < 256 ^ r.length := Int.pow_pos (by decide)
    have e2 : (2 : Int) ^ (8 * r.length) = 256 ^ r.length := by rw [Int.pow_mul]; rfl
    have e : (256 : Int) ^ (c :: r).length = 256 ^ r.length * 256 := by rw [List.length_cons, Int.pow_succ]
    rw [e] at hu
    unfold val at hu
    have hdm := Int.mul_ediv_add_emod u (256 ^ r.length * 256)
    rw [hu] at hdm
    generalize hq : u / (256 ^ r.length * 256) = q at *
    have hu2 : u = (q * 256 + c) * 256 ^ r.length + val r := by
      rw [← hdm, Int.add_mul, Int.mul_assoc, Int.mul_assoc, Int.mul_comm (256 ^ r.length) (256 * q), Int.mul_comm 256 q, Int.mul_assoc]
      omega
    show byteAt u r.length :: beL u r.length = c :: r
    congr 1
    · unfold byteAt
      rw [e2, u8_wrap, hu2, Int.add_comm, Int.add_mul_ediv_right _ _ (by omega), Int.ediv_eq_zero_of_lt hv.1 hv.2]
      omega
    · refine beL_val r u hr ?_
      rw [hu2, Int.add_comm, Int.add_mul_emod_self_right]
      exact Int.emod_eq_of_lt hv.1 hv.2
theorem beL_i8 (l : List Int) (h : Byts l) (hl : l.length = 1) : beL (IntKind.u64.wrap (IntKind.i8.wrap (beU l))) 1 = l := by
  have hv := val_range l h
  rw [beU_val l h (by omega)]
  rw [hl] at hv
  have := beL_val l (IntKind.u64.wrap (IntKind.i8.wrap (val l))) h (by rw [hl]; simp [IntKind.wrap, IntKind.bits, IntKind.signed]; omega)
  rwa [hl] at this
theorem beL_i16 (l : List Int) (h : Byts l) (hl : l.length = 2) : beL (IntKind.u64.wrap (IntKind.i16.wrap (beU l))) 2 = l := by
  have hv := val_range l h
  rw [beU_val l h (by omega)]
  rw [hl] at hv
  have := beL_val l (IntKind.u64.wrap (IntKind.i16.wrap (val l))) h (by rw [hl]; simp [IntKind.wrap, IntKind.bits, IntKind.signed]; omega)
  rwa [hl] at this
theorem beL_i32 (l : List Int) (h : Byts l) (hl : l.length = 4) : beL (IntKind.u64.wrap (wrap32 (beU l))) 4 = l := by
  have hv := val_range l h
  rw [beU_val l h (by omega)]
  rw [hl] at hv
  have := beL_val l (IntKind.u64.wrap (wrap32 (val l))) h (by rw [hl]; simp [IntKind.wrap, IntKind.bits, IntKind.signed, wrap32]; omega)
  rwa [hl] at this
theorem beL_i64 (l : List Int) (h : Byts l) (hl : l.length = 8) : beL (IntKind.u64.wrap (wrap64 (beU l))) 8 = l := by
  have hv := val_range l h
  rw [beU_val l h (by omega)]
  rw [hl] at hv
  have := beL_val l (IntKind.u64.wrap (wrap64 (val l))) h (by rw [hl]; simp [IntKind.wrap, IntKind.bits, IntKind.signed, wrap64]; omega)
  rwa [hl] at this

end Go.Proofs.YteckmgmcfngddaaGreat
end

section
/- What is read is written back: one reader behind another, fields of some versions, lists. No program in sight. -/
set_option linter.unusedVariables false
set_option linter.unusedSimpArgs false
namespace Go.Proofs.YteckmgmcfngddaaGreat
open Go.RowKit Go.Proofs.YteckmgmcfngddaaGreatW.PrintWords

structure Good (d : DS) : Prop where
  pos : d.pos ≤ d.b.length
  byts : Byts d.b
  len : d.b.length ≤ 140737488355328
/-- From d to d' the bytes bs were read, without an error. -/
structure Step (d d' : DS) (bs : List Int) : Prop where
  e0 : d.e = 0
  e1 : d'.e = 0
  hb : d'.b = d.b
  hv : d'.v = d.v
  pos : d'.pos = d.pos + bs.length
  le : d'.pos ≤ d.b.length
  drop : d.b.drop d.pos = bs ++ d.b.drop d'.pos
theorem Step.good {d d' : DS} {bs : List Int} (s : Step d d' bs) (g : Good d) : Good d' := ⟨by rw [s.hb]; exact s.le, by rw [s.hb]; exact g.byts, by rw [s.hb]; exact g.len⟩
theorem Step.trans {d d1 d2 : DS} {b1 b2 : List Int} (s : Step d d1 b1) (t : Step d1 d2 b2) : Step d d2 (b1 ++ b2) :=
  ⟨s.e0, t.e1, t.hb.trans s.hb, t.hv.trans s.hv, by rw [t.pos, s.pos, List.length_append]; omega, by have := t.le; rw [s.hb] at this; exact this, by rw [s.drop, List.append_assoc]; congr 1; have := t.drop; rw [s.hb] at this; exact this⟩
theorem Step.refl {d : DS} (h : d.e = 0) (g : Good d) : Step d d [] := ⟨h, h, rfl, rfl, rfl, g.pos, rfl⟩
theorem Step.of {d d' : DS} {n : Nat} (he : d.e = 0) (hn : n ≤ d.b.length - d.pos) (g : Good d) (h : d' = { d with pos := d.pos + n }) : Step d d' ((d.b.drop d.pos).take n) := by
  subst h
  have := g.pos
  exact ⟨he, he, rfl, rfl, by simp; omega, by simp; omega, by simp [← List.drop_drop]⟩

def ES.app (s : ES) (bs : List Int) : ES := { s with out := s.out ++ bs }
structure Fits (s : ES) (v : Int) (bs : List Int) : Prop where
  v : s.v = v
  e : s.e = 0
  full : s.full = false
  len : s.out.length + bs.length ≤ 130048
/-- G writes bs in version v. -/
def Wr (v : Int) (bs : List Int) (G : ES → ES) : Prop := ∀ s, Fits s v bs → G s = s.app bs
theorem Wr.seq {v : Int} {b1 b2 : List Int} {G1 G2 : ES → ES} (h1 : Wr v b1 G1) (h2 : Wr v b2 G2) : Wr v (b1 ++ b2) (fun s => G2 (G1 s)) := fun s f => by
  have hl := f.len
  rw [List.length_append] at hl
  show G2 (G1 s) = _
  rw [h1 s ⟨f.v, f.e, f.full, by omega⟩, h2 (s.app b1) ⟨f.v, f.e, f.full, by simp [ES.app]; omega⟩]
  simp [ES.app]
theorem Wr.nil {v : Int} : Wr v [] (fun s => s) := fun s _ => by simp [ES.app]
theorem Wr.put {v : Int} (bs : List Int) : Wr v bs (fun s => s.put bs) := fun s f => by
  show s.put bs = s.app bs
  unfold ES.put ES.app
  rw [putB_fit f.len]
  simp [f.full]

/-- What was read from d to d', G writes. -/
structure RW (d d' : DS) (G : ES → ES) : Prop where
  sticky : d'.e = 0 → d.e = 0
  step : Good d → d'.e = 0 → ∃ bs, Step d d' bs ∧ Wr d.v bs G
theorem RW.seq {d d1 d2 : DS} {G1 G2 : ES → ES} (h1 : RW d d1 G1) (h2 : RW d1 d2 G2) : RW d d2 (fun s => G2 (G1 s)) :=
  ⟨fun h => h1.sticky (h2.sticky h), fun g h => by
    obtain ⟨b1, s1, w1⟩ := h1.step g (h2.sticky h)
    obtain ⟨b2, s2, w2⟩ := h2.step (s1.good g) h
    exact ⟨b1 ++ b2, s1.trans s2, w1.seq (by rw [← s1.hv]; exact w2)⟩⟩
theorem RW.refl (d : DS) : RW d d (fun s => s) := ⟨id, fun g h => ⟨[], Step.refl h g, Wr.nil⟩⟩
theorem RW.cast {d d' : DS} {G G' : ES → ES} (h : RW d d' G) (e : G = G') : RW d d' G' := e ▸ h
theorem RW.when {α : Type} {d : DS} {r : α × DS} {g : α → ES → ES} {z : α} (lo hi : Int) (h : RW d r.2 (g r.1)) : RW d (if d.has lo hi = true then r else (z, d)).2 (ES.when lo hi (fun s => g (if d.has lo hi = true then r else (z, d)).1 s)) := by
  have hh : ∀ s : ES, s.v = d.v → d.e = 0 → s.has lo hi = d.has lo hi := fun s hv he => by unfold ES.has DS.has; rw [hv]; simp [he]
  by_cases hc : d.has lo hi = true
  · rw [if_pos hc]
    refine ⟨h.sticky, fun gd he => ?_⟩
    obtain ⟨bs, s, w⟩ := h.step gd he
    refine ⟨bs, s, fun x f => ?_⟩
    unfold ES.when
    rw [hh x f.v s.e0, if_pos hc]
    exact w x f
  · rw [if_neg hc]
    refine ⟨id, fun gd he => ⟨[], Step.refl he gd, fun x f => ?_⟩⟩
    unfold ES.when
    rw [hh x f.v he, if_neg hc]
    simp [ES.app]
/-- A field that is not there is zero: nothing lacks. -/
theorem when_zero {d : DS} {r : Int × DS} {lo hi : Int} (he : d.e = 0) : ((if d.has lo hi = true then r else (0, d)).1 == 0) = true ∨ (lo ≤ d.v ∧ d.v ≤ hi) := by
  by_cases hc : d.has lo hi = true
  · right
    unfold DS.has at hc
    simpa [he] using hc
  · left
    rw [if_neg hc]
    rfl
theorem lacks_id {z : Bool} {lo hi : Int} {s : ES} (h : z = true ∨ (lo ≤ s.v ∧ s.v ≤ hi)) : s.lacks z lo hi = s := by
  unfold ES.lacks
  rw [if_neg]
  rintro ⟨h1, h2⟩
  rcases h with h | h
  · rw [h] at h1; cases h1
  · omega

/-! ### The reader's methods -/
theorem rw_num (d : DS) (n : Nat) (f : Int → Int) (hf : ∀ l, Byts l → l.length = n → beL (IntKind.u64.wrap (f (beU l))) n = l) : RW d (d.num n f).2 (fun s => s.put (beL (IntKind.u64.wrap (d.num n f).1) n)) := by
  unfold DS.num
  by_cases he : d.e = 0
  · rw [if_neg (by simpa using he)]
    by_cases hn : d.b.length - d.pos < n
    · rw [if_pos hn]
      exact ⟨fun h => absurd h (by simp), fun _ h => absurd h (by simp)⟩
    · rw [if_neg hn]
      refine ⟨fun _ => he, fun g _ => ⟨(d.b.drop d.pos).take n, Step.of he (by omega) g rfl, ?_⟩⟩
      have := hf ((d.b.drop d.pos).take n) ((g.byts.drop _).take _) (by simp; omega)
      simp only [this]
      exact Wr.put _
  · rw [if_pos he]
    exact ⟨fun h => absurd h he, fun _ h => absurd h he⟩
theorem rw_i8 (d : DS) : RW d d.i8.2 (fun s => s.i8 d.i8.1) := rw_num d 1 IntKind.i8.wrap beL_i8
theorem rw_i16 (d : DS) : RW d d.i16.2 (fun s => s.i16 d.i16.1) := rw_num d 2 IntKind.i16.wrap beL_i16
theorem rw_i32 (d : DS) : RW d d.i32.2 (fun s => s.i32 d.i32.1) := rw_num d 4 wrap32 beL_i32
theorem rw_i64 (d : DS) : RW d d.i64.2 (fun s => s.i64 d.i64.1) := rw_num d 8 wrap64 beL_i64
theorem rw_take (d : DS) (n : Int) : RW d (d.take n).2 (fun s => s.put (d.take n).1) ∧ ((d.take n).2.e = 0 → 0 ≤ n ∧ (d.take n).1.length = n.toNat ∧ (Good d → Byts (d.take n).1 ∧ (d.take n).1.length ≤ d.b.length)) := by
  unfold DS.take
  by_cases he : d.e = 0
  · rw [if_neg (by simpa using he)]
    by_cases h0 : n < 0
    · rw [if_pos h0]
      exact ⟨⟨fun h => absurd h (by simp), fun _ h => absurd h (by simp)⟩, fun h => absurd h (by simp)⟩
    · rw [if_neg h0]
      by_cases hn : (d.b.length : Int) - d.pos < n
      · rw [if_pos hn]
        exact ⟨⟨fun h => absurd h (by simp), fun _ h => absurd h (by simp)⟩, fun h => absurd h (by simp)⟩
      · rw [if_neg hn]
        exact ⟨⟨fun _ => he, fun g _ => ⟨_, Step.of he (by have := g.pos; omega) g rfl, Wr.put _⟩⟩, fun _ => ⟨by omega, by simp; omega, fun g => ⟨(g.byts.drop _).take _, by simp; omega⟩⟩⟩
  · rw [if_pos he]
    exact ⟨⟨fun h => absurd h he, fun _ h => absurd h he⟩, fun h => absurd h he⟩
theorem bytesOf_strOfNums (l : List Int) (h : Byts l) : bytesOf (strOfNums l) = l := by
  unfold bytesOf
  rw [strOfNums_data, List.map_map]
  conv => rhs; rw [← List.map_id l]
  refine List.map_congr_left fun x hx => ?_
  have := h x hx
  simp only [Function.comp, id]
  rw [UInt8.toNat_ofNat']
  omega
/-- A text of n bytes. -/
theorem rw_text (d : DS) (n : Int) : RW d (d.text n).2 (fun s => s.put (bytesOf (d.text n).1)) ∧ ((d.text n).2.e = 0 → 0 ≤ n ∧ n ≤ 255 ∧ ((d.text n).1.size : Int) = n ∧ utfS (d.text n).1 = true) := by
  unfold DS.text
  by_cases hn : n > 255
  · rw [if_pos hn]
    have hE : ({ d with e := 4 } : DS).take n = ([], { d with e := 4 }) := by unfold DS.take; rw [if_pos (by simp)]
    rw [hE]
    unfold textFin
    split
    · exact ⟨⟨fun h => absurd h (by simp), fun _ h => absurd h (by simp)⟩, fun h => absurd h (by simp)⟩
    · exact ⟨⟨fun h => absurd h (by simp), fun _ h => absurd h (by simp)⟩, fun h => absurd h (by simp)⟩
  · rw [if_neg hn]
    obtain ⟨h1, h2⟩ := rw_take d n
    unfold textFin
    by_cases hu : utfB (d.take n).1 = true
    · rw [if_pos hu]
      refine ⟨⟨h1.sticky, fun g he => ?_⟩, fun he => ?_⟩
      · obtain ⟨a, b, c⟩ := h2 he
        obtain ⟨bs, s, w⟩ := h1.step g he
        refine ⟨bs, s, ?_⟩
        show Wr _ _ (fun s => s.put (bytesOf (strOfNums (d.take n).1)))
        rw [bytesOf_strOfNums _ (c g).1]
        exact w
      · obtain ⟨a, b, c⟩ := h2 he
        refine ⟨a, by omega, ?_, hu⟩
        show ((strOfNums (d.take n).1).size : Int) = n
        rw [strOfNums_size, b]
        omega
    · rw [if_neg hu]
      exact ⟨⟨fun h => absurd h (by simp), fun _ h => absurd h (by simp)⟩, fun h => absurd h (by simp)⟩
theorem rw_str (d : DS) : RW d d.str.2 (fun s => s.str d.str.1) ∧ (d.str.2.e = 0 → d.str.1.size ≤ 255) := by
  obtain ⟨h1, h2⟩ := rw_text d.i16.2 d.i16.1
  unfold DS.str
  refine ⟨⟨fun h => (rw_i16 d).sticky (h1.sticky h), fun g he => ?_⟩, fun he => by obtain ⟨a, b, c, u⟩ := h2 he; omega⟩
  obtain ⟨a, b, c, u⟩ := h2 he
  obtain ⟨bs, s, w⟩ := ((rw_i16 d).seq h1).step g he
  refine ⟨bs, s, fun x f => ?_⟩
  show x.str _ = _
  rw [ES.str_ok u (by omega), ← w x f, c]
theorem rw_name (d : DS) : RW d d.nameV.2 (fun s => s.name d.nameV.1) ∧ (d.nameV.2.e = 0 → d.nameV.1.s.size ≤ 255) := by
  unfold DS.nameV DS.name
  by_cases hn : d.i16.1 = -1
  · rw [if_pos hn]
    refine ⟨⟨(rw_i16 d).sticky, fun g he => ?_⟩, fun _ => Nat.zero_le _⟩
    obtain ⟨bs, s, w⟩ := (rw_i16 d).step g he
    refine ⟨bs, s, fun x f => ?_⟩
    rw [hn] at w
    rw [← w x f]
    show ES.name ⟨true, ⟨#[]⟩⟩ x = x.i16 (-1)
    simp [ES.name]
  · rw [if_neg hn]
    obtain ⟨h1, h2⟩ := rw_str d
    refine ⟨⟨h1.sticky, fun g he => ?_⟩, h2⟩
    exact h1.step g he
theorem rw_blob (d : DS) : RW d d.blobV.2 (fun s => s.blob d.blobV.1) ∧ (Good d → d.blobV.2.e = 0 → d.blobV.1.b.length ≤ 140737488355328) := by
  unfold DS.blobV DS.blob
  by_cases hn : d.i32.1 = -1
  · rw [if_pos hn]
    refine ⟨⟨(rw_i32 d).sticky, fun g he => ?_⟩, fun _ _ => Nat.zero_le _⟩
    obtain ⟨bs, s, w⟩ := (rw_i32 d).step g he
    refine ⟨bs, s, ?_⟩
    rw [hn] at w
    exact w
  · rw [if_neg hn]
    obtain ⟨h1, h2⟩ := rw_take d.i32.2 d.i32.1
    refine ⟨⟨fun h => (rw_i32 d).sticky (h1.sticky h), fun g he => ?_⟩, fun g he => ?_⟩
    · obtain ⟨a, b, c⟩ := h2 he
      obtain ⟨bs, s, w⟩ := ((rw_i32 d).seq h1).step g he
      refine ⟨bs, s, fun x f => ?_⟩
      obtain ⟨r0, r1⟩ := d.i32_range
      have e1 : wrap32 ((d.i32.2.take d.i32.1).1.length : Int) = d.i32.1 := by rw [b]; unfold wrap32; omega
      show (x.i32 (wrap32 ((d.i32.2.take d.i32.1).1.length : Int))).put _ = _
      rw [e1]
      exact w x f
    · obtain ⟨a, b, c⟩ := h2 he
      obtain ⟨b4, s4, _⟩ := (rw_i32 d).step g (h1.sticky he)
      have := (c (s4.good g)).2
      have := (s4.good g).len
      exact Nat.le_trans (by assumption) this

/-! ### Lists -/
/-- A reader whose values g writes, and of whose values P holds. -/
structure RT {α : Type} (f : DS → α × DS) (g : α → ES → ES) (P : Int → α → Prop) : Prop where
  rw : ∀ d, RW d (f d).2 (g (f d).1)
  prop : ∀ d, Good d → (f d).2.e = 0 → P d.v (f d).1
theorem rdGo_rt {α : Type} {f : DS → α × DS} {g : α → ES → ES} {P : Int → α → Prop} (h : RT f g P) : ∀ (k : Nat) (out : List α) (d : DS),
    ((rdGo f k out d).2.e = 0 → d.e = 0) ∧ (Good d → (rdGo f k out d).2.e = 0 → ∃ zs bs, (rdGo f k out d).1 = out ++ zs ∧ zs.length = k ∧ Step d (rdGo f k out d).2 bs ∧ Wr d.v bs (fun s => zs.foldl (fun s t => g t s) s) ∧ ∀ t ∈ zs, P d.v t)
  | 0, out, d => ⟨id, fun gd he => ⟨[], [], by simp [rdGo], rfl, Step.refl he gd, Wr.nil, by simp⟩⟩
  | k + 1, out, d => by
    by_cases he : d.e = 0
    · rw [rdGo_step f k out d he]
      obtain ⟨h1, h2⟩ := rdGo_rt h k (out ++ [(f d).1]) (f d).2
      refine ⟨fun _ => he, fun gd hz => ?_⟩
      have he1 := h1 hz
      obtain ⟨b1, s1, w1⟩ := (h.rw d).step gd he1
      obtain ⟨zs, bs, e1, e2, s2, w2, p2⟩ := h2 (s1.good gd) hz
      refine ⟨(f d).1 :: zs, b1 ++ bs, by rw [e1]; simp, by simp [e2], s1.trans s2, ?_, ?_⟩
      · exact w1.seq (by rw [← s1.hv]; exact w2)
      · intro t ht
        rcases List.mem_cons.1 ht with rfl | ht
        · exact h.prop d gd he1
        · rw [← s1.hv]; exact p2 t ht
    · rw [rdGo_stop f _ out d he]
      exact ⟨id, fun _ hz => absurd hz he⟩
theorem RT.list {α : Type} {f : DS → α × DS} {g : α → ES → ES} {P : Int → α → Prop} (h : RT f g P) : RT (rdList f) (wrItems g) (fun v xs => xs.length ≤ 16 ∧ ∀ t ∈ xs, P v t) := by
  have key : ∀ d, ((rdList f d).2.e = 0 → d.e = 0) ∧ (Good d → (rdList f d).2.e = 0 → ∃ bs, Step d (rdList f d).2 bs ∧ Wr d.v bs (wrItems g (rdList f d).1) ∧ (rdList f d).1.length ≤ 16 ∧ ∀ t ∈ (rdList f d).1, P d.v t) := by
    intro d
    unfold rdList
    obtain ⟨h1, h2⟩ := rdGo_rt h d.i32.1.toNat [] (rdHead d)
    have hh : (rdHead d).e = 0 → d.i32.2.e = 0 ∧ 0 ≤ d.i32.1 ∧ d.i32.1 ≤ 16 ∧ rdHead d = d.i32.2 := by
      intro hz
      by_cases he : d.i32.2.e = 0
      · by_cases h3 : d.i32.1 < 0
        · rw [rdHead_neg he h3] at hz; exact absurd hz (by simp)
        · by_cases h4 : d.i32.1 > 16
          · rw [rdHead_big he h3 h4] at hz; exact absurd hz (by simp)
          · exact ⟨he, by omega, by omega, rdHead_ok he h3 h4⟩
      · rw [rdHead_err he] at hz; exact absurd hz he
    refine ⟨fun hz => (rw_i32 d).sticky (hh (h1 hz)).1, fun gd hz => ?_⟩
    obtain ⟨a, b, c, e⟩ := hh (h1 hz)
    rw [e] at h2 hz ⊢
    obtain ⟨b1, s1, w1⟩ := (rw_i32 d).step gd a
    obtain ⟨zs, bs, e1, e2, s2, w2, p2⟩ := h2 (s1.good gd) hz
    rw [e1, List.nil_append]
    refine ⟨b1 ++ bs, s1.trans s2, ?_, by omega, fun t ht => by rw [← s1.hv]; exact p2 t ht⟩
    have w3 := w1.seq (by rw [← s1.hv]; exact w2)
    intro x fx
    rw [wrItems_ok (by omega), ← w3 x fx, show ((zs.length : Int)) = d.i32.1 by omega]
  exact ⟨fun d => ⟨(key d).1, fun gd hz => by obtain ⟨bs, s, w, _⟩ := (key d).2 gd hz; exact ⟨bs, s, w⟩⟩, fun d gd hz => by obtain ⟨bs, s, w, p⟩ := (key d).2 gd hz; exact p⟩

end Go.Proofs.YteckmgmcfngddaaGreat
end
