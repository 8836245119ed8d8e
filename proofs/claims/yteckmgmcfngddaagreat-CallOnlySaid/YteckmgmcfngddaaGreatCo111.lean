/- Proved: Rows.CallOnlySaid: for every byte slice the law leatlaw16.CallOnly returns true, and the slice reads afterwards as it read before. No condition but the row's own reach. -/
import Derived.Test.YteckmgmcfngddaaGreatCo110
import Derived.Test.YteckmgmcfngddaaGreatCo103
import Derived.Test.YteckmgmcfngddaaGreatCo107
import Derived.Test.YteckmgmcfngddaaGreatCo104
import Derived.Test.YteckmgmcfngddaaGreatCo108
import Derived.Test.YteckmgmcfngddaaGreatCo109
import Derived.Test.YteckmgmcfngddaaGreatCo105
import Derived.KernelRfl
import Derived.Test.YteckmgmcfngddaaGreatRows
import Derived.WalkKit
import Derived.ProofKit
import Derived.OpenShut
import Derived.ShutString
import Derived.ChangeOld
import Derived.SizedLaws
import Derived.Below
section
/- What is read is written back: the parts, the messages. No program in sight. -/
set_option linter.unusedVariables false
set_option linter.unusedSimpArgs false
namespace Go.Proofs.YteckmgmcfngddaaGreat
open Go.RowKit Go.Proofs.YteckmgmcfngddaaGreatW.PrintWords

theorem when_else {α : Type} {d : DS} {r q : α × DS} {lo hi : Int} (he : d.e = 0) : (if d.has lo hi = true then r else q).1 = q.1 ∨ (lo ≤ d.v ∧ d.v ≤ hi) := by
  by_cases hc : d.has lo hi = true
  · right
    unfold DS.has at hc
    simpa [he] using hc
  · left
    rw [if_neg hc]
theorem lacks0 {x lo hi v : Int} {s : ES} (hs : s.v = v) (h : x = 0 ∨ (lo ≤ v ∧ v ≤ hi)) : s.lacks (x == 0) lo hi = s := lacks_id (by rw [hs]; rcases h with h | h; exact .inl (by simp [h]); exact .inr h)
theorem foldl_id {α : Type} {f : α → ES → ES} : ∀ (xs : List α) {s : ES}, (∀ t ∈ xs, f t s = s) → xs.foldl (fun s t => f t s) s = s
  | [], _, _ => rfl
  | t :: r, s, h => by
    show r.foldl _ (f t s) = s
    rw [h t (by simp)]
    exact foldl_id r (fun u hu => h u (by simp [hu]))
/-! A field of some versions. -/
def DS.w8 (lo hi : Int) (d : DS) : Int × DS := if d.has lo hi = true then d.i8 else (0, d)
def DS.w32 (lo hi : Int) (d : DS) : Int × DS := if d.has lo hi = true then d.i32 else (0, d)
def DS.w64 (lo hi : Int) (d : DS) : Int × DS := if d.has lo hi = true then d.i64 else (0, d)
def DS.w64b (lo hi : Int) (d0 d : DS) : Int × DS := if d0.has lo hi = true then d.i64 else (0, d)
def DS.wls (lo hi : Int) (d : DS) : List Int × DS := if d.has lo hi = true then rdList DS.i64 d else ([], d)
def DS.wname (lo hi : Int) (d : DS) : Name × DS := if d.has lo hi = true then d.nameV else (⟨false, ⟨#[]⟩⟩, d)
theorem rw_w8 (lo hi : Int) (d : DS) : RW d (d.w8 lo hi).2 (ES.when lo hi (fun s => ES.i8 (d.w8 lo hi).1 s)) := RW.when (z := 0) lo hi (rw_i8 d)
theorem rw_w32 (lo hi : Int) (d : DS) : RW d (d.w32 lo hi).2 (ES.when lo hi (fun s => ES.i32 (d.w32 lo hi).1 s)) := RW.when (z := 0) lo hi (rw_i32 d)
theorem rw_w64 (lo hi : Int) (d : DS) : RW d (d.w64 lo hi).2 (ES.when lo hi (fun s => ES.i64 (d.w64 lo hi).1 s)) := RW.when (z := 0) lo hi (rw_i64 d)
theorem RT.i64s : RT DS.i64 ES.i64 (fun _ _ => True) := ⟨fun d => rw_i64 d, fun _ _ _ => trivial⟩
theorem rw_wls (lo hi : Int) (d : DS) : RW d (d.wls lo hi).2 (ES.when lo hi (fun s => wrItems ES.i64 (d.wls lo hi).1 s)) := RW.when (z := []) lo hi (RT.i64s.list.rw d)
theorem rw_wname (lo hi : Int) (d : DS) : RW d (d.wname lo hi).2 (ES.when lo hi (fun s => ES.name (d.wname lo hi).1 s)) := RW.when (z := (⟨false, ⟨#[]⟩⟩ : Name)) lo hi (rw_name d).1
theorem w8_zero {d : DS} {lo hi v : Int} (he : d.e = 0) (hv : d.v = v) : (d.w8 lo hi).1 = 0 ∨ (lo ≤ v ∧ v ≤ hi) := hv ▸ when_else (q := (0, d)) he
theorem w32_zero {d : DS} {lo hi v : Int} (he : d.e = 0) (hv : d.v = v) : (d.w32 lo hi).1 = 0 ∨ (lo ≤ v ∧ v ≤ hi) := hv ▸ when_else (q := (0, d)) he
theorem w64_zero {d : DS} {lo hi v : Int} (he : d.e = 0) (hv : d.v = v) : (d.w64 lo hi).1 = 0 ∨ (lo ≤ v ∧ v ≤ hi) := hv ▸ when_else (q := (0, d)) he
theorem w64b_zero {d0 d : DS} {lo hi v : Int} (he : d0.e = 0) (hv : d0.v = v) : (DS.w64b lo hi d0 d).1 = 0 ∨ (lo ≤ v ∧ v ≤ hi) := hv ▸ when_else (q := ((0 : Int), d)) he
theorem wls_zero {d : DS} {lo hi v : Int} (he : d.e = 0) (hv : d.v = v) : (d.wls lo hi).1 = [] ∨ (lo ≤ v ∧ v ≤ hi) := hv ▸ when_else (q := (([] : List Int), d)) he
theorem wname_zero {d : DS} {lo hi v : Int} (he : d.e = 0) (hv : d.v = v) : (d.wname lo hi).1 = ⟨false, ⟨#[]⟩⟩ ∨ (lo ≤ v ∧ v ≤ hi) := hv ▸ when_else (q := ((⟨false, ⟨#[]⟩⟩ : Name), d)) he
theorem rw_both (lo hi : Int) (d : DS) : RW d (DS.w64b lo hi d (d.w64 lo hi).2).2 (ES.when lo hi (fun s => ES.i64 (DS.w64b lo hi d (d.w64 lo hi).2).1 (ES.i64 (d.w64 lo hi).1 s))) := by
  have hw := RW.when (z := ((0 : Int), (0 : Int))) (r := ((d.i64.1, d.i64.2.i64.1), d.i64.2.i64.2)) (g := fun (p : Int × Int) s => ES.i64 p.2 (ES.i64 p.1 s)) lo hi ((rw_i64 d).seq (rw_i64 d.i64.2))
  by_cases hc : d.has lo hi = true
  · simp only [DS.w64b, DS.w64, if_pos hc] at hw ⊢
    exact hw
  · simp only [DS.w64b, DS.w64, if_neg hc] at hw ⊢
    exact hw
theorem DS.fin_zero {d : DS} (h : d.fin = 0) : d.e = 0 ∧ ¬ d.pos < d.b.length := by
  unfold DS.fin at h
  split at h
  · rename_i he
    refine ⟨he, fun hp => ?_⟩
    rw [if_pos hp] at h
    cases h
  · rename_i he
    exact absurd h he
theorem DS.new_zero {v : Int} {xs : List Int} (h : (DS.new v xs).e = 0) : 0 ≤ v ∧ v ≤ 3 ∧ xs.length ≤ 130048 := by
  unfold DS.new at h
  simp only at h
  split at h
  · cases h
  · split at h
    · cases h
    · omega
/-- All bytes of a message that was read to its end are written back. -/
theorem finish {v : Int} {xs : List Int} {d : DS} {G : ES → ES} (h : RW (DS.new v xs) d G) (hx : Byts xs) (hf : d.fin = 0) : G (ES.new v) = { out := xs, v := v, e := 0, full := false } ∧ (DS.new v xs).e = 0 ∧ Good (DS.new v xs) := by
  obtain ⟨he, hp⟩ := DS.fin_zero hf
  have h0 := h.sticky he
  obtain ⟨v0, v3, hl⟩ := DS.new_zero h0
  have gd : Good (DS.new v xs) := ⟨Nat.zero_le _, hx, by show xs.length ≤ _; omega⟩
  obtain ⟨bs, s, w⟩ := h.step gd he
  have hb : d.b = xs := s.hb
  have hdrop := s.drop
  have hpos : xs.length ≤ d.pos := by rw [hb] at hp; omega
  rw [show (DS.new v xs).b = xs from rfl, show (DS.new v xs).pos = 0 from rfl, List.drop_zero, List.drop_of_length_le hpos, List.append_nil] at hdrop
  have hnew : ES.new v = { out := [], v := v, e := 0, full := false } := by unfold ES.new; rw [if_neg (by omega)]
  refine ⟨?_, h0, gd⟩
  rw [w (ES.new v) ⟨rfl, by rw [hnew], rfl, by rw [hnew, ← hdrop]; simpa using hl⟩, hnew]
  simp [ES.app, ← hdrop]
theorem done_ok (xs : List Int) (v : Int) : ({ out := xs, v := v, e := 0, full := false } : ES).done = (xs, 0) := by unfold ES.done; simp
theorem rt_ProdPart : RT rdProdPart wrProdPart (fun v t => okProdPart t) := by
  refine ⟨fun d => ?_, fun d gd he => ?_⟩
  · exact ((rw_i32 (d)).seq (rw_blob (((d).i32).2)).1)
  · have he1 : (((d).i32).2).e = 0 := ((rw_blob (((d).i32).2)).1.sticky he)
    obtain ⟨bs1, s1, -⟩ := (rw_i32 (d)).step gd he1
    exact (rw_blob _).2 (s1.good gd) he
theorem rt_ProdDone : RT rdProdDone wrProdDone (fun v t => okProdDone t ∧ ∀ s : ES, s.v = v → lkProdDone t s = s) := by
  refine ⟨fun d => ?_, fun d gd he => ?_⟩
  · exact (((((rw_i32 (d)).seq (rw_i16 (((d).i32).2))).seq (rw_i64 (((((d).i32).2).i16).2))).seq (rw_w64 2 3 (((((((d).i32).2).i16).2).i64).2))).seq (rw_w64 3 3 (((((((((d).i32).2).i16).2).i64).2).w64 2 3).2)))
  · have he3 : (((((((d).i32).2).i16).2).i64).2).e = 0 := ((rw_w64 2 3 (((((((d).i32).2).i16).2).i64).2)).sticky ((rw_w64 3 3 (((((((((d).i32).2).i16).2).i64).2).w64 2 3).2)).sticky he))
    obtain ⟨bs3, s3, -⟩ := (((rw_i32 (d)).seq (rw_i16 (((d).i32).2))).seq (rw_i64 (((((d).i32).2).i16).2))).step gd he3
    have he4 : (((((((((d).i32).2).i16).2).i64).2).w64 2 3).2).e = 0 := ((rw_w64 3 3 (((((((((d).i32).2).i16).2).i64).2).w64 2 3).2)).sticky he)
    obtain ⟨bs4, s4, -⟩ := ((((rw_i32 (d)).seq (rw_i16 (((d).i32).2))).seq (rw_i64 (((((d).i32).2).i16).2))).seq (rw_w64 2 3 (((((((d).i32).2).i16).2).i64).2))).step gd he4
    have z4 := w64_zero (lo := 3) (hi := 3) he4 s4.hv
    have z3 := w64_zero (lo := 2) (hi := 3) he3 s3.hv
    refine ⟨trivial, fun s hs => ?_⟩
    exact (congrArg (ES.lacks _ _ _) (lacks0 hs z3)).trans (lacks0 hs z4)
theorem rt_FetchPart : RT rdFetchPart wrFetchPart (fun v t => okFetchPart t ∧ ∀ s : ES, s.v = v → lkFetchPart t s = s) := by
  refine ⟨fun d => ?_, fun d gd he => ?_⟩
  · exact ((((rw_i32 (d)).seq (rw_w32 3 3 (((d).i32).2))).seq (rw_i64 (((((d).i32).2).w32 3 3).2))).seq (rw_i32 (((((((d).i32).2).w32 3 3).2).i64).2)))
  · have he1 : (((d).i32).2).e = 0 := ((rw_w32 3 3 (((d).i32).2)).sticky ((rw_i64 (((((d).i32).2).w32 3 3).2)).sticky ((rw_i32 (((((((d).i32).2).w32 3 3).2).i64).2)).sticky he)))
    obtain ⟨bs1, s1, -⟩ := (rw_i32 (d)).step gd he1
    have z1 := w32_zero (lo := 3) (hi := 3) he1 s1.hv
    exact ⟨trivial, fun s hs => lacks0 hs z1⟩
theorem rt_FetchDone : RT rdFetchDone wrFetchDone (fun v t => okFetchDone t ∧ ∀ s : ES, s.v = v → lkFetchDone t s = s) := by
  refine ⟨fun d => ?_, fun d gd he => ?_⟩
  · exact ((((((rw_i32 (d)).seq (rw_i16 (((d).i32).2))).seq (rw_i64 (((((d).i32).2).i16).2))).seq (rw_w64 2 3 (((((((d).i32).2).i16).2).i64).2))).seq (rw_w64 3 3 (((((((((d).i32).2).i16).2).i64).2).w64 2 3).2))).seq (rw_blob (((((((((((d).i32).2).i16).2).i64).2).w64 2 3).2).w64 3 3).2)).1)
  · have he3 : (((((((d).i32).2).i16).2).i64).2).e = 0 := ((rw_w64 2 3 (((((((d).i32).2).i16).2).i64).2)).sticky ((rw_w64 3 3 (((((((((d).i32).2).i16).2).i64).2).w64 2 3).2)).sticky ((rw_blob (((((((((((d).i32).2).i16).2).i64).2).w64 2 3).2).w64 3 3).2)).1.sticky he)))
    obtain ⟨bs3, s3, -⟩ := (((rw_i32 (d)).seq (rw_i16 (((d).i32).2))).seq (rw_i64 (((((d).i32).2).i16).2))).step gd he3
    have he4 : (((((((((d).i32).2).i16).2).i64).2).w64 2 3).2).e = 0 := ((rw_w64 3 3 (((((((((d).i32).2).i16).2).i64).2).w64 2 3).2)).sticky ((rw_blob (((((((((((d).i32).2).i16).2).i64).2).w64 2 3).2).w64 3 3).2)).1.sticky he))
    obtain ⟨bs4, s4, -⟩ := ((((rw_i32 (d)).seq (rw_i16 (((d).i32).2))).seq (rw_i64 (((((d).i32).2).i16).2))).seq (rw_w64 2 3 (((((((d).i32).2).i16).2).i64).2))).step gd he4
    have he5 : (((((((((((d).i32).2).i16).2).i64).2).w64 2 3).2).w64 3 3).2).e = 0 := ((rw_blob (((((((((((d).i32).2).i16).2).i64).2).w64 2 3).2).w64 3 3).2)).1.sticky he)
    obtain ⟨bs5, s5, -⟩ := (((((rw_i32 (d)).seq (rw_i16 (((d).i32).2))).seq (rw_i64 (((((d).i32).2).i16).2))).seq (rw_w64 2 3 (((((((d).i32).2).i16).2).i64).2))).seq (rw_w64 3 3 (((((((((d).i32).2).i16).2).i64).2).w64 2 3).2))).step gd he5
    have z4 := w64_zero (lo := 3) (hi := 3) he4 s4.hv
    have z3 := w64_zero (lo := 2) (hi := 3) he3 s3.hv
    refine ⟨(rw_blob _).2 (s5.good gd) he, fun s hs => ?_⟩
    exact (congrArg (ES.lacks _ _ _) (lacks0 hs z3)).trans (lacks0 hs z4)
theorem rt_ListPart : RT rdListPart wrListPart (fun v t => okListPart t ∧ ∀ s : ES, s.v = v → lkListPart t s = s) := by
  refine ⟨fun d => ?_, fun d gd he => ?_⟩
  · exact ((((rw_i32 (d)).seq (rw_w32 3 3 (((d).i32).2))).seq (rw_i64 (((((d).i32).2).w32 3 3).2))).seq (rw_w32 0 0 (((((((d).i32).2).w32 3 3).2).i64).2)))
  · have he1 : (((d).i32).2).e = 0 := ((rw_w32 3 3 (((d).i32).2)).sticky ((rw_i64 (((((d).i32).2).w32 3 3).2)).sticky ((rw_w32 0 0 (((((((d).i32).2).w32 3 3).2).i64).2)).sticky he)))
    obtain ⟨bs1, s1, -⟩ := (rw_i32 (d)).step gd he1
    have he3 : (((((((d).i32).2).w32 3 3).2).i64).2).e = 0 := ((rw_w32 0 0 (((((((d).i32).2).w32 3 3).2).i64).2)).sticky he)
    obtain ⟨bs3, s3, -⟩ := (((rw_i32 (d)).seq (rw_w32 3 3 (((d).i32).2))).seq (rw_i64 (((((d).i32).2).w32 3 3).2))).step gd he3
    have z3 := w32_zero (lo := 0) (hi := 0) he3 s3.hv
    have z1 := w32_zero (lo := 3) (hi := 3) he1 s1.hv
    refine ⟨trivial, fun s hs => ?_⟩
    exact (congrArg (ES.lacks _ _ _) (lacks0 hs z1)).trans (lacks0 hs z3)
theorem rt_ListDone : RT rdListDone wrListDone (fun v t => okListDone t ∧ ∀ s : ES, s.v = v → lkListDone t s = s) := by
  have h1 : ∀ d : DS, RW d d.i32.2.i16.2 _ := fun d => (rw_i32 d).seq (rw_i16 _)
  have h2 : ∀ d : DS, RW d (d.i32.2.i16.2.wls 0 0).2 _ := fun d => (h1 d).seq (rw_wls 0 0 _)
  have h4 : ∀ d : DS, RW d (DS.w64b 1 3 (d.i32.2.i16.2.wls 0 0).2 ((d.i32.2.i16.2.wls 0 0).2.w64 1 3).2).2 _ := fun d => (h2 d).seq (rw_both 1 3 _)
  refine ⟨fun d => ?_, fun d gd he => ?_⟩
  · exact (h4 d).seq (rw_w32 3 3 _)
  · have e4 := (rw_w32 3 3 (DS.w64b 1 3 (d.i32.2.i16.2.wls 0 0).2 ((d.i32.2.i16.2.wls 0 0).2.w64 1 3).2).2).sticky he
    have e2 := (rw_both 1 3 (d.i32.2.i16.2.wls 0 0).2).sticky e4
    have e1 := (rw_wls 0 0 d.i32.2.i16.2).sticky e2
    obtain ⟨b1, s1, -⟩ := (h1 d).step gd e1
    obtain ⟨b2, s2, -⟩ := (h2 d).step gd e2
    obtain ⟨b4, s4, -⟩ := (h4 d).step gd e4
    have z1 := wls_zero (lo := 0) (hi := 0) e1 s1.hv
    have z2 := w64_zero (lo := 1) (hi := 3) e2 s2.hv
    have z3 := w64b_zero (d := ((d.i32.2.i16.2.wls 0 0).2.w64 1 3).2) (lo := 1) (hi := 3) e2 s2.hv
    have z4 := w32_zero (lo := 3) (hi := 3) e4 s4.hv
    refine ⟨trivial, fun s hs => ?_⟩
    have l1 : ES.lacks (((rdListDone d).1.offsets.length : Int) == 0) 0 0 s = s := lacks_id (by
      rw [hs]
      rcases z1 with z | z
      · left
        rw [show (rdListDone d).1.offsets = [] from z]
        rfl
      · exact .inr z)
    have l2 : ES.lacks ((rdListDone d).1.time == 0 && (rdListDone d).1.offset == 0) 1 3 s = s := lacks_id (by
      rw [hs]
      rcases z2 with z | z
      · rcases z3 with y | y
        · left
          rw [show (rdListDone d).1.time = 0 from z, show (rdListDone d).1.offset = 0 from y]
          rfl
        · exact .inr y
      · exact .inr z)
    unfold lkListDone
    rw [l1, l2]
    exact lacks0 hs z4
theorem rt_ProdTopic : RT rdProdTopic wrProdTopic (fun v t => okProdTopic t) := by
  refine ⟨fun d => ?_, fun d gd he => ?_⟩
  · exact ((rw_str d).1).seq (rt_ProdPart.list.rw _)
  · have h1 := RW.sticky (rt_ProdPart.list.rw _) he
    obtain ⟨bs, s1, -⟩ := (rw_str d).1.step gd h1
    obtain ⟨-, hp⟩ := rt_ProdPart.list.prop _ (s1.good gd) he
    have hn := (rw_str d).2 h1
    exact ⟨Nat.le_trans hn (by decide), fun y hy => hp y hy⟩
theorem rt_ProdGone : RT rdProdGone wrProdGone (fun v t => okProdGone t ∧ ∀ s : ES, s.v = v → lkProdGone t s = s) := by
  refine ⟨fun d => ?_, fun d gd he => ?_⟩
  · exact ((rw_str d).1).seq (rt_ProdDone.list.rw _)
  · have h1 := RW.sticky (rt_ProdDone.list.rw _) he
    obtain ⟨bs, s1, -⟩ := (rw_str d).1.step gd h1
    obtain ⟨-, hp⟩ := rt_ProdDone.list.prop _ (s1.good gd) he
    have hn := (rw_str d).2 h1
    exact ⟨⟨Nat.le_trans hn (by decide), fun y hy => (hp y hy).1⟩, fun s hs => foldl_id _ (fun t ht => (hp t ht).2 s (by rw [hs]; exact s1.hv.symm))⟩
theorem rt_FetchTopic : RT rdFetchTopic wrFetchTopic (fun v t => okFetchTopic t ∧ ∀ s : ES, s.v = v → lkFetchTopic t s = s) := by
  refine ⟨fun d => ?_, fun d gd he => ?_⟩
  · exact ((rw_str d).1).seq (rt_FetchPart.list.rw _)
  · have h1 := RW.sticky (rt_FetchPart.list.rw _) he
    obtain ⟨bs, s1, -⟩ := (rw_str d).1.step gd h1
    obtain ⟨-, hp⟩ := rt_FetchPart.list.prop _ (s1.good gd) he
    have hn := (rw_str d).2 h1
    exact ⟨⟨Nat.le_trans hn (by decide), fun y hy => (hp y hy).1⟩, fun s hs => foldl_id _ (fun t ht => (hp t ht).2 s (by rw [hs]; exact s1.hv.symm))⟩
theorem rt_FetchGone : RT rdFetchGone wrFetchGone (fun v t => okFetchGone t ∧ ∀ s : ES, s.v = v → lkFetchGone t s = s) := by
  refine ⟨fun d => ?_, fun d gd he => ?_⟩
  · exact ((rw_str d).1).seq (rt_FetchDone.list.rw _)
  · have h1 := RW.sticky (rt_FetchDone.list.rw _) he
    obtain ⟨bs, s1, -⟩ := (rw_str d).1.step gd h1
    obtain ⟨-, hp⟩ := rt_FetchDone.list.prop _ (s1.good gd) he
    have hn := (rw_str d).2 h1
    exact ⟨⟨Nat.le_trans hn (by decide), fun y hy => (hp y hy).1⟩, fun s hs => foldl_id _ (fun t ht => (hp t ht).2 s (by rw [hs]; exact s1.hv.symm))⟩
theorem rt_ListTopic : RT rdListTopic wrListTopic (fun v t => okListTopic t ∧ ∀ s : ES, s.v = v → lkListTopic t s = s) := by
  refine ⟨fun d => ?_, fun d gd he => ?_⟩
  · exact ((rw_str d).1).seq (rt_ListPart.list.rw _)
  · have h1 := RW.sticky (rt_ListPart.list.rw _) he
    obtain ⟨bs, s1, -⟩ := (rw_str d).1.step gd h1
    obtain ⟨-, hp⟩ := rt_ListPart.list.prop _ (s1.good gd) he
    have hn := (rw_str d).2 h1
    exact ⟨⟨Nat.le_trans hn (by decide), fun y hy => (hp y hy).1⟩, fun s hs => foldl_id _ (fun t ht => (hp t ht).2 s (by rw [hs]; exact s1.hv.symm))⟩
theorem rt_ListGone : RT rdListGone wrListGone (fun v t => okListGone t ∧ ∀ s : ES, s.v = v → lkListGone t s = s) := by
  refine ⟨fun d => ?_, fun d gd he => ?_⟩
  · exact ((rw_str d).1).seq (rt_ListDone.list.rw _)
  · have h1 := RW.sticky (rt_ListDone.list.rw _) he
    obtain ⟨bs, s1, -⟩ := (rw_str d).1.step gd h1
    obtain ⟨-, hp⟩ := rt_ListDone.list.prop _ (s1.good gd) he
    have hn := (rw_str d).2 h1
    exact ⟨⟨Nat.le_trans hn (by decide), fun y hy => (hp y hy).1⟩, fun s hs => foldl_id _ (fun t ht => (hp t ht).2 s (by rw [hs]; exact s1.hv.symm))⟩
theorem back_ProdReq (v : Int) (xs : List Int) (hx : Byts xs) (h : (decFin (⟨⟨false, ⟨#[]⟩⟩, 0, 0, []⟩ : ProdReq) (rdProdReq (DS.new v xs))).2 = 0) :
    encProdReq v (decFin (⟨⟨false, ⟨#[]⟩⟩, 0, 0, []⟩ : ProdReq) (rdProdReq (DS.new v xs))).1 = (xs, 0) ∧ okProdReq (decFin (⟨⟨false, ⟨#[]⟩⟩, 0, 0, []⟩ : ProdReq) (rdProdReq (DS.new v xs))).1 := by
  have hf : (rdProdReq (DS.new v xs)).2.fin = 0 := by
    by_cases hc : (rdProdReq (DS.new v xs)).2.fin = 0
    · exact hc
    · rw [decFin_bad hc] at h; exact h
  rw [decFin_ok hf]
  obtain ⟨hG, e0, gd⟩ := finish (((((rw_wname 3 3 ((DS.new v xs))).seq (rw_i16 ((((DS.new v xs)).wname 3 3).2))).seq (rw_i32 ((((((DS.new v xs)).wname 3 3).2).i16).2))).seq (rt_ProdTopic.list.rw ((((((((DS.new v xs)).wname 3 3).2).i16).2).i32).2))) : RW (DS.new v xs) (rdProdReq (DS.new v xs)).2 _) hx hf
  have he := (DS.fin_zero hf).1
  have hnv : (ES.new v).v = v := rfl
  have hel : ((((((((DS.new v xs)).wname 3 3).2).i16).2).i32).2).e = 0 := ((rt_ProdTopic.list.rw ((((((((DS.new v xs)).wname 3 3).2).i16).2).i32).2)).sticky he)
  obtain ⟨bl, sl, -⟩ := (((rw_wname 3 3 ((DS.new v xs))).seq (rw_i16 ((((DS.new v xs)).wname 3 3).2))).seq (rw_i32 ((((((DS.new v xs)).wname 3 3).2).i16).2))).step gd hel
  have hp := (rt_ProdTopic.list.prop _ (sl.good gd) (by exact he)).2
  have he0 : ((DS.new v xs)).e = 0 := ((rw_wname 3 3 ((DS.new v xs))).sticky ((rw_i16 ((((DS.new v xs)).wname 3 3).2)).sticky ((rw_i32 ((((((DS.new v xs)).wname 3 3).2).i16).2)).sticky ((rt_ProdTopic.list.rw ((((((((DS.new v xs)).wname 3 3).2).i16).2).i32).2)).sticky he))))
  obtain ⟨bs0, s0, -⟩ := (RW.refl (DS.new v xs)).step gd he0
  have l0 : (ES.new v).lacks (zeroName (rdProdReq (DS.new v xs)).1.txn) 3 3 = ES.new v := lacks_id (by
    rcases wname_zero (lo := 3) (hi := 3) he0 s0.hv with z | z
    · left
      rw [show (rdProdReq (DS.new v xs)).1.txn = ⟨false, ⟨#[]⟩⟩ from z]
      simp [zeroName]
    · exact .inr z)
  unfold encProdReq
  rw [l0]
  refine ⟨(congrArg ES.done hG).trans (done_ok xs v), ⟨?_, fun y hy => hp y hy⟩⟩
  show ((DS.new v xs).wname 3 3).1.s.size ≤ 140737488355328
  unfold DS.wname
  split
  · rename_i hc
    have hq : ((DS.new v xs).nameV).2.e = 0 := by
      have := ((rw_i16 ((((DS.new v xs)).wname 3 3).2)).sticky ((rw_i32 ((((((DS.new v xs)).wname 3 3).2).i16).2)).sticky ((rt_ProdTopic.list.rw ((((((((DS.new v xs)).wname 3 3).2).i16).2).i32).2)).sticky he)))
      unfold DS.wname at this
      rwa [if_pos hc] at this
    exact Nat.le_trans ((rw_name _).2 hq) (by decide)
  · exact Nat.zero_le _
theorem back_ProdRep (v : Int) (xs : List Int) (hx : Byts xs) (h : (decFin (⟨[], 0⟩ : ProdRep) (rdProdRep (DS.new v xs))).2 = 0) :
    encProdRep v (decFin (⟨[], 0⟩ : ProdRep) (rdProdRep (DS.new v xs))).1 = (xs, 0) ∧ okProdRep (decFin (⟨[], 0⟩ : ProdRep) (rdProdRep (DS.new v xs))).1 := by
  have hf : (rdProdRep (DS.new v xs)).2.fin = 0 := by
    by_cases hc : (rdProdRep (DS.new v xs)).2.fin = 0
    · exact hc
    · rw [decFin_bad hc] at h; exact h
  rw [decFin_ok hf]
  obtain ⟨hG, e0, gd⟩ := finish (((rt_ProdGone.list.rw ((DS.new v xs))).seq (rw_w32 1 3 ((rdList rdProdGone ((DS.new v xs))).2))) : RW (DS.new v xs) (rdProdRep (DS.new v xs)).2 _) hx hf
  have he := (DS.fin_zero hf).1
  have hnv : (ES.new v).v = v := rfl
  have hel : ((DS.new v xs)).e = 0 := ((rt_ProdGone.list.rw ((DS.new v xs))).sticky ((rw_w32 1 3 ((rdList rdProdGone ((DS.new v xs))).2)).sticky he))
  obtain ⟨bl, sl, -⟩ := (RW.refl (DS.new v xs)).step gd hel
  have hp := (rt_ProdGone.list.prop _ (sl.good gd) (by exact ((rw_w32 1 3 ((rdList rdProdGone ((DS.new v xs))).2)).sticky he))).2
  have he1 : ((rdList rdProdGone ((DS.new v xs))).2).e = 0 := ((rw_w32 1 3 ((rdList rdProdGone ((DS.new v xs))).2)).sticky he)
  obtain ⟨bs1, s1, -⟩ := (rt_ProdGone.list.rw ((DS.new v xs))).step gd he1
  have l1 : (ES.new v).lacks ((rdProdRep (DS.new v xs)).1.throttle == 0) 1 3 = ES.new v := lacks0 hnv (w32_zero (lo := 1) (hi := 3) he1 s1.hv)
  have lf : (rdProdRep (DS.new v xs)).1.topics.foldl (fun s t => lkProdGone t s) (ES.new v) = ES.new v := foldl_id _ (fun t ht => (hp t ht).2 _ (by rw [hnv]; exact sl.hv.symm))
  unfold encProdRep
  rw [l1, lf]
  refine ⟨(congrArg ES.done hG).trans (done_ok xs v), fun y hy => (hp y hy).1⟩
theorem back_FetchReq (v : Int) (xs : List Int) (hx : Byts xs) (h : (decFin (⟨0, 0, 0, 0, 0, []⟩ : FetchReq) (rdFetchReq (DS.new v xs))).2 = 0) :
    encFetchReq v (decFin (⟨0, 0, 0, 0, 0, []⟩ : FetchReq) (rdFetchReq (DS.new v xs))).1 = (xs, 0) ∧ okFetchReq (decFin (⟨0, 0, 0, 0, 0, []⟩ : FetchReq) (rdFetchReq (DS.new v xs))).1 := by
  have hf : (rdFetchReq (DS.new v xs)).2.fin = 0 := by
    by_cases hc : (rdFetchReq (DS.new v xs)).2.fin = 0
    · exact hc
    · rw [decFin_bad hc] at h; exact h
  rw [decFin_ok hf]
  obtain ⟨hG, e0, gd⟩ := finish (((((((rw_i32 ((DS.new v xs))).seq (rw_i32 ((((DS.new v xs)).i32).2))).seq (rw_i32 ((((((DS.new v xs)).i32).2).i32).2))).seq (rw_w32 1 3 ((((((((DS.new v xs)).i32).2).i32).2).i32).2))).seq (rw_w8 2 3 ((((((((((DS.new v xs)).i32).2).i32).2).i32).2).w32 1 3).2))).seq (rt_FetchTopic.list.rw ((((((((((((DS.new v xs)).i32).2).i32).2).i32).2).w32 1 3).2).w8 2 3).2))) : RW (DS.new v xs) (rdFetchReq (DS.new v xs)).2 _) hx hf
  have he := (DS.fin_zero hf).1
  have hnv : (ES.new v).v = v := rfl
  have hel : ((((((((((((DS.new v xs)).i32).2).i32).2).i32).2).w32 1 3).2).w8 2 3).2).e = 0 := ((rt_FetchTopic.list.rw ((((((((((((DS.new v xs)).i32).2).i32).2).i32).2).w32 1 3).2).w8 2 3).2)).sticky he)
  obtain ⟨bl, sl, -⟩ := (((((rw_i32 ((DS.new v xs))).seq (rw_i32 ((((DS.new v xs)).i32).2))).seq (rw_i32 ((((((DS.new v xs)).i32).2).i32).2))).seq (rw_w32 1 3 ((((((((DS.new v xs)).i32).2).i32).2).i32).2))).seq (rw_w8 2 3 ((((((((((DS.new v xs)).i32).2).i32).2).i32).2).w32 1 3).2))).step gd hel
  have hp := (rt_FetchTopic.list.prop _ (sl.good gd) (by exact he)).2
  have he4 : ((((((((((DS.new v xs)).i32).2).i32).2).i32).2).w32 1 3).2).e = 0 := ((rw_w8 2 3 ((((((((((DS.new v xs)).i32).2).i32).2).i32).2).w32 1 3).2)).sticky ((rt_FetchTopic.list.rw ((((((((((((DS.new v xs)).i32).2).i32).2).i32).2).w32 1 3).2).w8 2 3).2)).sticky he))
  obtain ⟨bs4, s4, -⟩ := ((((rw_i32 ((DS.new v xs))).seq (rw_i32 ((((DS.new v xs)).i32).2))).seq (rw_i32 ((((((DS.new v xs)).i32).2).i32).2))).seq (rw_w32 1 3 ((((((((DS.new v xs)).i32).2).i32).2).i32).2))).step gd he4
  have l4 : (ES.new v).lacks ((rdFetchReq (DS.new v xs)).1.level == 0) 2 3 = ES.new v := lacks0 hnv (w8_zero (lo := 2) (hi := 3) he4 s4.hv)
  have he3 : ((((((((DS.new v xs)).i32).2).i32).2).i32).2).e = 0 := ((rw_w32 1 3 ((((((((DS.new v xs)).i32).2).i32).2).i32).2)).sticky ((rw_w8 2 3 ((((((((((DS.new v xs)).i32).2).i32).2).i32).2).w32 1 3).2)).sticky ((rt_FetchTopic.list.rw ((((((((((((DS.new v xs)).i32).2).i32).2).i32).2).w32 1 3).2).w8 2 3).2)).sticky he)))
  obtain ⟨bs3, s3, -⟩ := (((rw_i32 ((DS.new v xs))).seq (rw_i32 ((((DS.new v xs)).i32).2))).seq (rw_i32 ((((((DS.new v xs)).i32).2).i32).2))).step gd he3
  have l3 : (ES.new v).lacks ((rdFetchReq (DS.new v xs)).1.max == 0) 1 3 = ES.new v := lacks0 hnv (w32_zero (lo := 1) (hi := 3) he3 s3.hv)
  have lf : (rdFetchReq (DS.new v xs)).1.topics.foldl (fun s t => lkFetchTopic t s) (ES.new v) = ES.new v := foldl_id _ (fun t ht => (hp t ht).2 _ (by rw [hnv]; exact sl.hv.symm))
  unfold encFetchReq
  rw [l3, l4, lf]
  refine ⟨(congrArg ES.done hG).trans (done_ok xs v), fun y hy => (hp y hy).1⟩
theorem back_FetchRep (v : Int) (xs : List Int) (hx : Byts xs) (h : (decFin (⟨0, []⟩ : FetchRep) (rdFetchRep (DS.new v xs))).2 = 0) :
    encFetchRep v (decFin (⟨0, []⟩ : FetchRep) (rdFetchRep (DS.new v xs))).1 = (xs, 0) ∧ okFetchRep (decFin (⟨0, []⟩ : FetchRep) (rdFetchRep (DS.new v xs))).1 := by
  have hf : (rdFetchRep (DS.new v xs)).2.fin = 0 := by
    by_cases hc : (rdFetchRep (DS.new v xs)).2.fin = 0
    · exact hc
    · rw [decFin_bad hc] at h; exact h
  rw [decFin_ok hf]
  obtain ⟨hG, e0, gd⟩ := finish (((rw_w32 1 3 ((DS.new v xs))).seq (rt_FetchGone.list.rw ((((DS.new v xs)).w32 1 3).2))) : RW (DS.new v xs) (rdFetchRep (DS.new v xs)).2 _) hx hf
  have he := (DS.fin_zero hf).1
  have hnv : (ES.new v).v = v := rfl
  have hel : ((((DS.new v xs)).w32 1 3).2).e = 0 := ((rt_FetchGone.list.rw ((((DS.new v xs)).w32 1 3).2)).sticky he)
  obtain ⟨bl, sl, -⟩ := (rw_w32 1 3 ((DS.new v xs))).step gd hel
  have hp := (rt_FetchGone.list.prop _ (sl.good gd) (by exact he)).2
  have he0 : ((DS.new v xs)).e = 0 := ((rw_w32 1 3 ((DS.new v xs))).sticky ((rt_FetchGone.list.rw ((((DS.new v xs)).w32 1 3).2)).sticky he))
  obtain ⟨bs0, s0, -⟩ := (RW.refl (DS.new v xs)).step gd he0
  have l0 : (ES.new v).lacks ((rdFetchRep (DS.new v xs)).1.throttle == 0) 1 3 = ES.new v := lacks0 hnv (w32_zero (lo := 1) (hi := 3) he0 s0.hv)
  have lf : (rdFetchRep (DS.new v xs)).1.topics.foldl (fun s t => lkFetchGone t s) (ES.new v) = ES.new v := foldl_id _ (fun t ht => (hp t ht).2 _ (by rw [hnv]; exact sl.hv.symm))
  unfold encFetchRep
  rw [l0, lf]
  refine ⟨(congrArg ES.done hG).trans (done_ok xs v), fun y hy => (hp y hy).1⟩
theorem back_ListReq (v : Int) (xs : List Int) (hx : Byts xs) (h : (decFin (⟨0, 0, []⟩ : ListReq) (rdListReq (DS.new v xs))).2 = 0) :
    encListReq v (decFin (⟨0, 0, []⟩ : ListReq) (rdListReq (DS.new v xs))).1 = (xs, 0) ∧ okListReq (decFin (⟨0, 0, []⟩ : ListReq) (rdListReq (DS.new v xs))).1 := by
  have hf : (rdListReq (DS.new v xs)).2.fin = 0 := by
    by_cases hc : (rdListReq (DS.new v xs)).2.fin = 0
    · exact hc
    · rw [decFin_bad hc] at h; exact h
  rw [decFin_ok hf]
  obtain ⟨hG, e0, gd⟩ := finish ((((rw_i32 ((DS.new v xs))).seq (rw_w8 2 3 ((((DS.new v xs)).i32).2))).seq (rt_ListTopic.list.rw ((((((DS.new v xs)).i32).2).w8 2 3).2))) : RW (DS.new v xs) (rdListReq (DS.new v xs)).2 _) hx hf
  have he := (DS.fin_zero hf).1
  have hnv : (ES.new v).v = v := rfl
  have hel : ((((((DS.new v xs)).i32).2).w8 2 3).2).e = 0 := ((rt_ListTopic.list.rw ((((((DS.new v xs)).i32).2).w8 2 3).2)).sticky he)
  obtain ⟨bl, sl, -⟩ := ((rw_i32 ((DS.new v xs))).seq (rw_w8 2 3 ((((DS.new v xs)).i32).2))).step gd hel
  have hp := (rt_ListTopic.list.prop _ (sl.good gd) (by exact he)).2
  have he1 : ((((DS.new v xs)).i32).2).e = 0 := ((rw_w8 2 3 ((((DS.new v xs)).i32).2)).sticky ((rt_ListTopic.list.rw ((((((DS.new v xs)).i32).2).w8 2 3).2)).sticky he))
  obtain ⟨bs1, s1, -⟩ := (rw_i32 ((DS.new v xs))).step gd he1
  have l1 : (ES.new v).lacks ((rdListReq (DS.new v xs)).1.level == 0) 2 3 = ES.new v := lacks0 hnv (w8_zero (lo := 2) (hi := 3) he1 s1.hv)
  have lf : (rdListReq (DS.new v xs)).1.topics.foldl (fun s t => lkListTopic t s) (ES.new v) = ES.new v := foldl_id _ (fun t ht => (hp t ht).2 _ (by rw [hnv]; exact sl.hv.symm))
  unfold encListReq
  rw [l1, lf]
  refine ⟨(congrArg ES.done hG).trans (done_ok xs v), fun y hy => (hp y hy).1⟩
theorem back_ListRep (v : Int) (xs : List Int) (hx : Byts xs) (h : (decFin (⟨0, []⟩ : ListRep) (rdListRep (DS.new v xs))).2 = 0) :
    encListRep v (decFin (⟨0, []⟩ : ListRep) (rdListRep (DS.new v xs))).1 = (xs, 0) ∧ okListRep (decFin (⟨0, []⟩ : ListRep) (rdListRep (DS.new v xs))).1 := by
  have hf : (rdListRep (DS.new v xs)).2.fin = 0 := by
    by_cases hc : (rdListRep (DS.new v xs)).2.fin = 0
    · exact hc
    · rw [decFin_bad hc] at h; exact h
  rw [decFin_ok hf]
  obtain ⟨hG, e0, gd⟩ := finish (((rw_w32 2 3 ((DS.new v xs))).seq (rt_ListGone.list.rw ((((DS.new v xs)).w32 2 3).2))) : RW (DS.new v xs) (rdListRep (DS.new v xs)).2 _) hx hf
  have he := (DS.fin_zero hf).1
  have hnv : (ES.new v).v = v := rfl
  have hel : ((((DS.new v xs)).w32 2 3).2).e = 0 := ((rt_ListGone.list.rw ((((DS.new v xs)).w32 2 3).2)).sticky he)
  obtain ⟨bl, sl, -⟩ := (rw_w32 2 3 ((DS.new v xs))).step gd hel
  have hp := (rt_ListGone.list.prop _ (sl.good gd) (by exact he)).2
  have he0 : ((DS.new v xs)).e = 0 := ((rw_w32 2 3 ((DS.new v xs))).sticky ((rt_ListGone.list.rw ((((DS.new v xs)).w32 2 3).2)).sticky he))
  obtain ⟨bs0, s0, -⟩ := (RW.refl (DS.new v xs)).step gd he0
  have l0 : (ES.new v).lacks ((rdListRep (DS.new v xs)).1.throttle == 0) 2 3 = ES.new v := lacks0 hnv (w32_zero (lo := 2) (hi := 3) he0 s0.hv)
  have lf : (rdListRep (DS.new v xs)).1.topics.foldl (fun s t => lkListGone t s) (ES.new v) = ES.new v := foldl_id _ (fun t ht => (hp t ht).2 _ (by rw [hnv]; exact sl.hv.symm))
  unfold encListRep
  rw [l0, lf]
  refine ⟨(congrArg ES.done hG).trans (done_ok xs v), fun y hy => (hp y hy).1⟩

end Go.Proofs.YteckmgmcfngddaaGreat
end

section
/- What a call reads it writes back. No program in sight. -/
set_option linter.unusedVariables false
set_option linter.unusedSimpArgs false
namespace Go.Proofs.YteckmgmcfngddaaGreat
open Go.RowKit Go.Proofs.YteckmgmcfngddaaGreatW.PrintWords

theorem num_step (d : DS) (n : Nat) (f : Int → Int) (hf : ∀ l, Byts l → l.length = n → beL (IntKind.u64.wrap (f (beU l))) n = l) (g : Good d) (h : (d.num n f).2.e = 0) : Step d (d.num n f).2 (beL (IntKind.u64.wrap (d.num n f).1) n) := by
  unfold DS.num at h ⊢
  by_cases he : d.e = 0
  · rw [if_neg (by simpa using he)] at h ⊢
    by_cases hn : d.b.length - d.pos < n
    · rw [if_pos hn] at h; exact absurd h (by simp)
    · rw [if_neg hn] at h ⊢
      have := hf ((d.b.drop d.pos).take n) ((g.byts.drop _).take _) (by simp; omega)
      simp only [this]
      exact Step.of he (by omega) g rfl
  · rw [if_pos he] at h; exact absurd h he
theorem i16_step {d : DS} (g : Good d) (h : d.i16.2.e = 0) : Step d d.i16.2 (beL (IntKind.u64.wrap d.i16.1) 2) := num_step d 2 _ beL_i16 g h
theorem i32_step {d : DS} (g : Good d) (h : d.i32.2.e = 0) : Step d d.i32.2 (beL (IntKind.u64.wrap d.i32.1) 4) := num_step d 4 _ beL_i32 g h
theorem take_step {d : DS} {n : Int} (g : Good d) (h : (d.take n).2.e = 0) : Step d (d.take n).2 (d.take n).1 := by
  unfold DS.take at h ⊢
  by_cases he : d.e = 0
  · rw [if_neg (by simpa using he)] at h ⊢
    by_cases h0 : n < 0
    · rw [if_pos h0] at h; exact absurd h (by simp)
    · rw [if_neg h0] at h ⊢
      by_cases hn : (d.b.length : Int) - d.pos < n
      · rw [if_pos hn] at h; exact absurd h (by simp)
      · rw [if_neg hn] at h ⊢
        exact Step.of he (by have := g.pos; omega) g rfl
  · rw [if_pos he] at h; exact absurd h he
/-- A client's name written. -/
def nameB (n : Name) : List Int := if n.null = true then beL (IntKind.u64.wrap (-1)) 2 else beL (IntKind.u64.wrap n.s.size) 2 ++ bytesOf n.s
theorem clientF_null : clientF ⟨true, ⟨#[]⟩⟩ = 0 := by kernel_rfl
theorem Step.same {d d' : DS} {bs : List Int} {c : Int} (s : Step d d' bs) (hc : c = 0) : Step d { d' with e := c } bs := by subst hc; exact ⟨s.e0, rfl, s.hb, s.hv, s.pos, s.le, s.drop⟩
theorem callName_step {d : DS} (g : Good d) (h : (callName d).2.e = 0) : Step d (callName d).2 (nameB (callName d).1) ∧ clientF (callName d).1 = 0 := by
  by_cases e1 : d.i16.2.e = 0
  · by_cases c1 : d.i16.1 = -1
    · rw [callName2 e1 c1]
      have := i16_step g e1
      rw [c1] at this
      exact ⟨this, clientF_null⟩
    · by_cases c2 : d.i16.1 < 0
      · rw [callName3 e1 c1 c2] at h; exact absurd h (by simp)
      · by_cases c3 : d.i16.1 > 255
        · rw [callName4 e1 c1 c2 c3] at h; exact absurd h (by simp)
        · by_cases c4 : (d.i16.2.take d.i16.1).2.e = 0
          · rw [callName6 e1 c1 c2 c3 c4] at h ⊢
            have s1 := i16_step g e1
            have g1 := s1.good g
            have s2 := take_step g1 c4
            obtain ⟨-, b, c⟩ := (rw_take d.i16.2 d.i16.1).2 c4
            have hb := bytesOf_strOfNums _ (c g1).1
            refine ⟨(?_ : Step d _ _), h⟩
            have hz : ((strOfNums (d.i16.2.take d.i16.1).1).size : Int) = d.i16.1 := by rw [strOfNums_size, b]; omega
            unfold nameB
            rw [if_neg (by simp)]
            simp only [hb, hz]
            exact (s1.trans s2).same h
          · rw [callName5 e1 c1 c2 c3 c4] at h; exact absurd h c4
  · rw [callName1 e1] at h; exact absurd h e1
def headB (key ver corr : Int) : List Int := beL (IntKind.u64.wrap key) 2 ++ beL (IntKind.u64.wrap ver) 2 ++ beL (IntKind.u64.wrap corr) 4
theorem callBegin_step {d : DS} (g : Good d) (h : (callBegin d).d.e = 0) : Step d (callBegin d).d (headB (callBegin d).key (callBegin d).ver (callBegin d).corr ++ nameB (callBegin d).cl) ∧ clientF (callBegin d).cl = 0 := by
  by_cases h0 : d.i16.2.e = 0
  · by_cases h1 : d.i16.2.i16.2.e = 0
    · by_cases h2 : d.i16.2.i16.2.i32.2.e = 0
      · by_cases h3 : (callName d.i16.2.i16.2.i32.2).2.e = 0
        · rw [callBegin5 h0 h1 h2 h3] at h ⊢
          have s1 := i16_step g h0
          have g1 := s1.good g
          have s2 := i16_step g1 h1
          have g2 := s2.good g1
          have s3 := i32_step g2 h2
          have g3 := s3.good g2
          obtain ⟨s4, hc⟩ := callName_step g3 h3
          exact ⟨(((s1.trans s2).trans s3).trans s4).same h, hc⟩
        · rw [callBegin4 h0 h1 h2 h3] at h; exact absurd h h3
      · rw [callBegin3 h0 h1 h2] at h; exact absurd h h2
    · rw [callBegin2 h0 h1] at h; exact absurd h h1
  · rw [callBegin1 h0] at h; exact absurd h h0
theorem wrB_fit {bs out : List Int} (h : out.length + bs.length ≤ 131072) : wrB bs out = out ++ bs := by unfold wrB; rw [putB_fit h]
theorem headW_eq (x : Call) : headW x = headB x.key x.ver x.corr := by
  unfold headW headB
  rw [wrB_fit (bs := beL (IntKind.u64.wrap x.key) 2) (out := []) (by simp [beL_length]), wrB_fit (bs := beL (IntKind.u64.wrap x.ver) 2) (by simp [beL_length]), wrB_fit (by simp [beL_length])]
  simp
theorem headB_length (k v c : Int) : (headB k v c).length = 8 := by simp [headB, beL_length]
theorem nameW_eq {n : Name} {out : List Int} (ho : out.length = 8) (hn : n.s.size ≤ 255) : nameW n out = out ++ nameB n := by
  unfold nameW nameB
  split
  · rw [wrB_fit (by simp [beL_length]; omega)]
  · have hl := bytesOf_length n.s
    rw [wrB_fit (bs := beL _ 2) (by simp [beL_length]; omega), wrB_fit (by simp [beL_length]; omega), List.append_assoc]
theorem nameB_length {n : Name} (hn : n.s.size ≤ 255) : (nameB n).length ≤ 257 := by
  unfold nameB
  split
  · simp [beL_length]
  · have hl := bytesOf_length n.s
    simp [beL_length]
    omega
/-- What Decode takes, Encode writes again. -/
theorem call_back (xs : List Int) (hx : Byts xs) (hl : xs.length ≤ 140737488355328) (h : (callDecode xs).2 = 0) :
    callEncode (callDecode xs).1 = (xs, 0) ∧ okCall (callDecode xs).1 ∧ headF (callDecode xs).1.key (callDecode xs).1.ver = 0 ∧ xs.take 8 = headB (callDecode xs).1.key (callDecode xs).1.ver (callDecode xs).1.corr ∧ 8 ≤ xs.length := by
  have gd : Good (DS.raw xs) := ⟨Nat.zero_le _, hx, hl⟩
  have hstep := fun h => callBegin_step (d := DS.raw xs) gd h
  have hok := fun h => callBegin_ok (d := DS.raw xs) h
  unfold callDecode at h ⊢
  generalize callBegin (DS.raw xs) = r at *
  by_cases he : r.d.e = 0
  · obtain ⟨st, hc⟩ := hstep he
    have hh := hok he
    obtain ⟨hk, hv0, hv3⟩ := headF_ok hh
    obtain ⟨hsz, -, -⟩ := clientF_ok hc
    have hdrop : xs = headB r.key r.ver r.corr ++ nameB r.cl ++ r.d.rest := by
      have := st.drop
      rw [show (DS.raw xs).pos = 0 from rfl, List.drop_zero] at this
      unfold DS.rest
      rw [st.hb]
      exact this
    have hrx : Byts r.d.rest := fun x hx' => hx x (by rw [hdrop]; simp [hx'])
    have h8 : xs.take 8 = headB r.key r.ver r.corr := by
      rw [hdrop, List.append_assoc, List.take_append_of_le_length (by rw [headB_length]; exact Nat.le_refl _), List.take_of_length_le (by rw [headB_length]; exact Nat.le_refl _)]
    have h8l : 8 ≤ xs.length := by rw [hdrop, List.append_assoc, List.length_append, headB_length]; omega
    have fin : ∀ (x : Call), x.key = r.key → x.ver = r.ver → x.corr = r.corr → x.client = r.cl → othersF x = true → callBody x = (r.d.rest, 0) → callEncode x = (xs, 0) := by
      intro x ek ev ec en ho hb
      rw [callEncode5 (by rw [ek, ev]; exact hh) (by rw [en]; exact hc) ho (by rw [hb]), hb, headW_eq, en, ek, ev, ec, nameW_eq (headB_length _ _ _) hsz]
      have hlen := len_callBody x
      rw [hb] at hlen
      have hn := nameB_length hsz
      have h8 := headB_length r.key r.ver r.corr
      rw [wrB_fit (by simp at hlen ⊢; omega), ← hdrop]
    rcases hk with hk | hk | hk
    · rw [begDecode_prod he hk] at h ⊢
      by_cases hp : r.prod.2 = 0
      · rw [if_neg (by simpa using hp)] at h ⊢
        obtain ⟨e1, o1⟩ := back_ProdReq r.ver r.d.rest hrx hp
        refine ⟨fin _ rfl rfl rfl rfl ?_ ((callBody0 hk).trans e1), ⟨Nat.le_trans hsz (by decide), o1, ?_, ?_⟩, hh, h8, h8l⟩
        · simp [othersF, hk, zFetchB, zListB, zFetchReq, zListReq]
        · intro y hy; exact absurd hy (by simp [zFetchReq])
        · intro y hy; exact absurd hy (by simp [zListReq])
      · rw [if_pos hp] at h; exact absurd h hp
    · rw [begDecode_fetch he hk] at h ⊢
      by_cases hp : r.fetch.2 = 0
      · rw [if_neg (by simpa using hp)] at h ⊢
        obtain ⟨e1, o1⟩ := back_FetchReq r.ver r.d.rest hrx hp
        refine ⟨fin _ rfl rfl rfl rfl ?_ ((callBody1 hk).trans e1), ⟨Nat.le_trans hsz (by decide), ⟨Nat.zero_le _, ?_⟩, o1, ?_⟩, hh, h8, h8l⟩
        · simp [othersF, hk, zProdB, zListB, zProdReq, zListReq, zeroName]
        · intro y hy; exact absurd hy (by simp [zProdReq])
        · intro y hy; exact absurd hy (by simp [zListReq])
      · rw [if_pos hp] at h; exact absurd h hp
    · rw [begDecode_list he hk] at h ⊢
      by_cases hp : r.list.2 = 0
      · rw [if_neg (by simpa using hp)] at h ⊢
        obtain ⟨e1, o1⟩ := back_ListReq r.ver r.d.rest hrx hp
        refine ⟨fin _ rfl rfl rfl rfl ?_ ((callBody2 hk).trans e1), ⟨Nat.le_trans hsz (by decide), ⟨Nat.zero_le _, ?_⟩, ?_, o1⟩, hh, h8, h8l⟩
        · simp [othersF, hk, zProdB, zFetchB, zProdReq, zFetchReq, zeroName]
        · intro y hy; exact absurd hy (by simp [zProdReq])
        · intro y hy; exact absurd hy (by simp [zFetchReq])
      · rw [if_pos hp] at h; exact absurd h hp
  · rw [begDecode_bad he] at h; exact absurd h he
theorem blankProdRep0 : (encProdRep 0 zProdRep).2 = 0 := by kernel_rfl
theorem blankProdRep1 : (encProdRep 1 zProdRep).2 = 0 := by kernel_rfl
theorem blankProdRep2 : (encProdRep 2 zProdRep).2 = 0 := by kernel_rfl
theorem blankProdRep3 : (encProdRep 3 zProdRep).2 = 0 := by kernel_rfl
theorem blankFetchRep0 : (encFetchRep 0 zFetchRep).2 = 0 := by kernel_rfl
theorem blankFetchRep1 : (encFetchRep 1 zFetchRep).2 = 0 := by kernel_rfl
theorem blankFetchRep2 : (encFetchRep 2 zFetchRep).2 = 0 := by kernel_rfl
theorem blankFetchRep3 : (encFetchRep 3 zFetchRep).2 = 0 := by kernel_rfl
theorem blankListRep0 : (encListRep 0 zListRep).2 = 0 := by kernel_rfl
theorem blankListRep1 : (encListRep 1 zListRep).2 = 0 := by kernel_rfl
theorem blankListRep2 : (encListRep 2 zListRep).2 = 0 := by kernel_rfl
theorem blankListRep3 : (encListRep 3 zListRep).2 = 0 := by kernel_rfl
/-- The blank answer is written, its number first. -/
theorem blank_body (x : Reply) (hp : x.prod = zProdRep) (hf : x.fetch = zFetchRep) (hl : x.list = zListRep) (hk : x.key = 0 ∨ x.key = 1 ∨ x.key = 2) (h0 : 0 ≤ x.ver) (h3 : x.ver ≤ 3) : (repBody x).2 = 0 := by
  have hv : x.ver = 0 ∨ x.ver = 1 ∨ x.ver = 2 ∨ x.ver = 3 := by omega
  rcases hk with hk | hk | hk
  · rw [repBody0 hk, hp]
    rcases hv with hv | hv | hv | hv <;> rw [hv]
    · exact blankProdRep0
    · exact blankProdRep1
    · exact blankProdRep2
    · exact blankProdRep3
  · rw [repBody1 hk, hf]
    rcases hv with hv | hv | hv | hv <;> rw [hv]
    · exact blankFetchRep0
    · exact blankFetchRep1
    · exact blankFetchRep2
    · exact blankFetchRep3
  · rw [repBody2 hk, hl]
    rcases hv with hv | hv | hv | hv <;> rw [hv]
    · exact blankListRep0
    · exact blankListRep1
    · exact blankListRep2
    · exact blankListRep3
theorem blank_enc (c : Call) (h : headF c.key c.ver = 0) : ∃ t, replyEncode (blankR c) = (beL (IntKind.u64.wrap c.corr) 4 ++ t, 0) ∧ t.length ≤ 1000000 := by
  obtain ⟨hk, h0, h3⟩ := headF_ok h
  have ho : repOthers (blankR c) = true := by simp [repOthers, repF0, repF1, repF2, blankR, zProdRep, zFetchRep, zListRep]
  have hb := blank_body (blankR c) rfl rfl rfl hk h0 h3
  rw [replyEncode5 h ho hb, wrB_fit (bs := beL _ 4) (by simp [beL_length])]
  have hlen := len_repBody (blankR c)
  rw [wrB_fit (by simp [beL_length]; omega)]
  exact ⟨_, rfl, by omega⟩

end Go.Proofs.YteckmgmcfngddaaGreat
end

section
/- leatlaw16.CallOnly answers true for all bytes. -/
set_option linter.unusedVariables false
set_option linter.unusedSimpArgs false
namespace Go.Proofs.YteckmgmcfngddaaGreat
open Go.RowKit Go.Proofs.YteckmgmcfngddaaGreatW.PrintWords

theorem call_zero (xs : List Int) (h : ¬ (callDecode xs).2 = 0) : (callDecode xs).1 = zCall := by
  unfold callDecode begDecode at *
  split at h
  · rename_i h1; rw [if_pos h1]
  · rename_i h1
    rw [if_neg h1]
    split at h
    · rename_i h2
      rw [if_pos h2]
      split at h
      · rename_i h3; rw [if_pos h3]
      · exact absurd rfl h
    · rename_i h2
      rw [if_neg h2]
      split at h
      · rename_i h4
        rw [if_pos h4]
        split at h
        · rename_i h3; rw [if_pos h3]
        · exact absurd rfl h
      · rename_i h4
        rw [if_neg h4]
        split at h
        · rename_i h3; rw [if_pos h3]
        · exact absurd rfl h
theorem sameF_refl (xs : List Int) : sameF xs xs = true := by simp [sameF]
theorem piece_head (xs ys t : List Int) (k v c : Int) (h : xs.take 8 = headB k v c) (hy : ys = beL (IntKind.u64.wrap c) 4 ++ t) : pieceF ys 0 4 = pieceF xs 4 8 := by
  unfold pieceF
  rw [h, hy, headB, List.drop_zero, List.take_left' (beL_length _ _), List.drop_left' (by rw [List.length_append, beL_length, beL_length])]
set_option maxRecDepth 100000 in
set_option maxHeartbeats 3200000 in
theorem call_only (w : World) (A : Option Addr) (c : Nat) (xs : List Int) (hr : ReadsInt w .u8 A xs.length xs) (hx : Byts xs) (hln : xs.length ≤ 140737488355328) :
    Calls Tryz.prog 10 #[.slice A xs.length c] w fun e w' => e = .returned (.bool true) ∧ Below w.heap.size w w' := by
  have HX := Lib.hid hr
  have HY := Lib.hid hx
  clear hr hx
  go_enter Tryz.func10, Tryz.ntmps10
  go_wp2_with fail
  refine (ca_alive w).mono ?_
  rintro e w1 ⟨rfl, hb1⟩
  have HX := Lib.hid (HX.out.below hb1)
  have HB := Lib.hid hb1
  clear hb1
  go_wp2_with fail
  refine (copy_any w1 A c xs HX.out hln).mono ?_
  rintro e w2 ⟨B, q, rfl, hB, hb2⟩
  have HC := Lib.hid (own_readsS hB)
  have HX := Lib.hid (HX.out.below hb2)
  have HB := Lib.hid (HB.out.trans (hb2.mono HB.out.size))
  clear hb2 hB
  go_wp2_with fail
  refine (ca_decode w2 B q xs HC.out hln).mono ?_
  rintro e w3 ⟨cs, rfl, hM, hb3⟩
  obtain ⟨A0, c0, A1, c1, A2, c2, hcs, -, g0, -, g1, -, g2⟩ := kCall_openK (kCall.K_of_M hM)
  have Hcs : Hid (cs = callCells (callDecode xs).1 A0 A1 A2 c0 c1 c2) := Lib.hid hcs
  have hl : cs.length = 19 := by rw [hcs]; rfl
  have ho : ∀ v ∈ cs, v.oneCell' = true := by rw [hcs]; simp [Value.oneCell']
  have G0 := Lib.hid g0
  have G1 := Lib.hid g1
  have G2 := Lib.hid g2
  have HX := Lib.hid (HX.out.below hb3)
  have HB := Lib.hid (HB.out.trans (hb3.mono HB.out.size))
  clear hM hb3 hcs g0 g1 g2
  by_cases hc : (callDecode xs).2 = 0
  case neg =>
    have h2' : ((callDecode xs).2 != 0) = true := by simp [hc]
    have hz := Lib.hid (call_zero xs hc)
    clear hc
    rw [hz.out] at Hcs
    go_wp2_with (first
      | ((with_reducible refine gate_dst (N := 3) rfl ?_); refine box_event ?hg (N := 3) ?hd (cs := #[.int .i16 0, .int .i16 0, .int .i32 0, .bool false, .string ⟨#[]⟩, .bool false, .string ⟨#[]⟩, .int .i16 0, .int .i32 0, .slice none 0 0, .int .i32 0, .int .i32 0, .int .i32 0, .int .i32 0, .int .i8 0, .slice none 0 0, .int .i32 0, .int .i8 0, .slice none 0 0]) (t := 79) ?hr ?_; (case hd => rfl); (case hg => rfl); (case hr => first | (go_simp; done) | (go_simp; rfl)); intro gc hq w4 kq bq; have hG : Blk w4 gc 79 19 zCallL := ⟨kq, rfl, by simp [zCallL, Value.oneCell']⟩; have hG := Lib.hid hG; have hsf := Lib.hid (Nat.le_of_eq hq.symm); have HF := Lib.hid bq; clear hq kq bq)
      | (refine bfull_event rfl 79 (.tmp 3) (.tmp 15) rfl rfl gc 19 zCallL cs 79 (by rfl) (by rfl) hG.out hl info_Call ho ?_; intro w5 hG' m; have hG := Lib.hid hG'; have HF := Lib.hid (belowFresh HF.out m hsf.out); clear hG' m)
      | ((with_reducible refine gate_dst (N := 19) rfl ?_); refine bload_event rfl 79 (.tmp 3) rfl gc 19 cs 79 _ (by rfl) hG.out Tryz.underlying79 rfl info_Call ?_)
      | fail)
    refine (alike_zero w5 cs (callCells zCall none none none 0 0 0) A0 A1 A2 none none none c0 c1 c2 0 0 0 Hcs.out rfl).mono ?_
    rintro e w6 ⟨rfl, hb6⟩
    have HB := Lib.hid (HB.out.trans ((HF.out.trans (hb6.mono HF.out.size)).mono HB.out.size))
    go_wp2_with fail
    go_ret
    exact ⟨rfl, HB.out⟩
  have h2' : ((callDecode xs).2 != 0) = false := by simp [hc]
  obtain ⟨hE, hok, hhead, hx8, h8⟩ := call_back xs HY.out hln hc
  have hE := Lib.hid hE
  have hok := Lib.hid hok
  have hhead := Lib.hid hhead
  have hx8 := Lib.hid hx8
  have h8 := Lib.hid h8
  clear hc
  generalize hgc : (callDecode xs).1 = x at *
  go_wp2_with (first
    | ((with_reducible refine gate_dst (N := 3) rfl ?_); refine box_event ?hg (N := 3) ?hd (cs := #[.int .i16 0, .int .i16 0, .int .i32 0, .bool false, .string ⟨#[]⟩, .bool false, .string ⟨#[]⟩, .int .i16 0, .int .i32 0, .slice none 0 0, .int .i32 0, .int .i32 0, .int .i32 0, .int .i32 0, .int .i8 0, .slice none 0 0, .int .i32 0, .int .i8 0, .slice none 0 0]) (t := 79) ?hr ?_; (case hd => rfl); (case hg => rfl); (case hr => first | (go_simp; done) | (go_simp; rfl)); intro gc hq w4 kq bq; have hG : Blk w4 gc 79 19 zCallL := ⟨kq, rfl, by simp [zCallL, Value.oneCell']⟩; have hG := Lib.hid hG; have hsf := Lib.hid (Nat.le_of_eq hq.symm); have HF := Lib.hid bq; clear hq kq bq)
    | (refine bfull_event rfl 79 (.tmp 3) (.tmp 15) rfl rfl gc 19 zCallL cs 79 (by rfl) (by rfl) hG.out hl info_Call ho ?_; intro w5 hG' m; have hG := Lib.hid hG'; have HF := Lib.hid (belowFresh HF.out m hsf.out); clear hG' m)
    | ((with_reducible refine gate_dst (N := 23) rfl ?_); refine bload_event rfl 79 (.tmp 3) rfl gc 19 cs 79 _ (by rfl) hG.out Tryz.underlying79 rfl info_Call ?_)
    | fail)
  have HX := Lib.hid (HX.out.below HF.out)
  have HB := Lib.hid (HB.out.trans (HF.out.mono HB.out.size))
  have G0 := Lib.hid (Kd.C_below G0.out HF.out)
  have G1 := Lib.hid (Kd.C_below G1.out HF.out)
  have G2 := Lib.hid (Kd.C_below G2.out HF.out)
  clear HF
  have hen := ca_encode w5 x cs A0 A1 A2 c0 c1 c2 Hcs.out G0.out G1.out G2.out hok.out
  rw [hE.out] at hen
  refine hen.mono ?_
  clear hen
  rintro e w6 ⟨v, rfl, hv, hb6⟩
  obtain ⟨Ae, ce, rfl⟩ := own_slice hv
  have HE := Lib.hid hv
  have hG := Lib.hid (hG.out.below hb6)
  have HX := Lib.hid (HX.out.below hb6)
  have HB := Lib.hid (HB.out.trans (hb6.mono HB.out.size))
  clear hv hb6
  go_wp2_with (first
    | ((with_reducible refine gate_dst (N := 28) rfl ?_); refine bload_event rfl 79 (.tmp 3) rfl gc 19 cs 79 _ (by rfl) hG.out Tryz.underlying79 rfl info_Call ?_)
    | fail)
  refine (ca_blank w6 x cs A0 A1 A2 c0 c1 c2 Hcs.out).mono ?_
  rintro e w7 ⟨rfl, hb7⟩
  have HE := Lib.hid (pw_own_below HE.out hb7)
  have HX := Lib.hid (HX.out.below hb7)
  have HB := Lib.hid (HB.out.trans (hb7.mono HB.out.size))
  clear hb7 G0 G1 G2
  generalize hrc : replyCells (blankR x) none none none 0 0 0 = rc
  go_wp2_with fail
  have hR := ca_encodeReply w7 (blankR x) rc none none none 0 0 0 hrc.symm nil_C nil_C nil_C ⟨(fun y h => (List.not_mem_nil h).elim), (fun y h => (List.not_mem_nil h).elim), (fun y h => (List.not_mem_nil h).elim)⟩
  obtain ⟨t, ht, htl⟩ := blank_enc x hhead.out
  generalize hys : beL (IntKind.u64.wrap x.corr) 4 ++ t = ys at *
  have hyl : ys.length ≤ 140737488355328 := by rw [← hys, List.length_append, beL_length]; omega
  have hpe := Lib.hid (piece_head xs ys t _ _ _ hx8.out hys.symm)
  rw [ht] at hR
  refine hR.mono ?_
  clear hR ht htl hys hrc
  rintro e w8 ⟨v, rfl, hv, hb8⟩
  obtain ⟨Ar, cr, rfl⟩ := own_slice hv
  have HR := Lib.hid hv
  have HE := Lib.hid (pw_own_below HE.out hb8)
  have HX := Lib.hid (HX.out.below hb8)
  have HB := Lib.hid (HB.out.trans (hb8.mono HB.out.size))
  clear hv hb8
  go_wp2_with fail
  refine (same_any w8 Ae A ce c xs xs (own_readsS HE.out) HX.out).mono ?_
  rintro e w9 ⟨rfl, n, rfl⟩
  rw [sameF_refl]
  have HR := Lib.hid (pw_own_below HR.out (below_drewN' w8 n))
  have HX := Lib.hid (HX.out.below (below_drewN' w8 n))
  have HB := Lib.hid (HB.out.trans ((below_drewN' w8 n).mono HB.out.size))
  generalize w8.drewN n = w9 at *
  have h8i : (8 : Int) ≤ xs.length := by have := h8.out; omega
  go_wp2_with fail
  refine (piece_any w9 Ar cr ys 0 4 (own_readsS HR.out) hyl (by decide) (by decide) (by decide)).mono ?_
  rintro e w10 ⟨P, p, rfl, hP, hb10⟩
  have HP := Lib.hid hP
  have HX := Lib.hid (HX.out.below hb10)
  have HB := Lib.hid (HB.out.trans (hb10.mono HB.out.size))
  clear hP hb10
  go_wp2_with fail
  refine (piece_any w10 A c xs 4 8 HX.out hln (by decide) (by decide) (by decide)).mono ?_
  rintro e w11 ⟨Q, q', rfl, hQ, hb11⟩
  have HQ := Lib.hid hQ
  have HP := Lib.hid (pw_own_below HP.out hb11)
  have HB := Lib.hid (HB.out.trans (hb11.mono HB.out.size))
  clear hQ hb11
  go_wp2_with fail
  refine (same_any w11 P Q p q' _ _ (own_readsS HP.out) (own_readsS HQ.out)).mono ?_
  rintro e w12 ⟨rfl, k, rfl⟩
  rw [hpe.out, sameF_refl]
  go_wp2_with fail
  go_ret
  exact ⟨rfl, HB.out.trans ((below_drewN' _ _).mono HB.out.size)⟩

end Go.Proofs.YteckmgmcfngddaaGreat
end

section
/-
  Proved: 'Rows.CallOnlySaid': for every byte slice the law 'leatlaw16.CallOnly' returns true, and the slice reads afterwards as it read before. No condition but the row's own (its reach).
-/
namespace Go.Proofs.YteckmgmcfngddaaGreat.callOnly
open Go.ChangeShapes Go.WideShapes Go.ChangeAt Go.RowKit
open Go.ChangeMaps (open_string shut_string)
open Go.Proofs.YteckmgmcfngddaaGreatW.PrintWords
set_option linter.unusedVariables false

theorem own : ownKnob Tryz.prog.godebug = none := by kernel_rfl
theorem laidOut : laidOutB Tryz.prog = true := by kernel_rfl
theorem bytes1 : Tryz.prog.bytesOf 5 = 1 := by kernel_rfl

/-! ### What comes in as a byte slice, for the walk -/
def IsRow (w : World) (a : Option Addr) (len : Nat) (xs : List Int) : Prop := ReadsInt w .u8 a xs.length xs ∧ xs.length = len ∧ Byts xs ∧ len ≤ 140737488351232

theorem walk (a0 : Option Addr) (len0 cap0 : Nat) (xs : List Int) (w : World) (w0 : IsRow w a0 len0 xs) :
    Calls Tryz.prog 10 #[.slice a0 len0 cap0] w fun e w' => e = .returned (.bool true) ∧ Below w.heap.size w w' := by
  obtain ⟨hr, rfl, hb, hl⟩ := w0
  exact call_only w a0 cap0 xs hr hb (by omega)

set_option maxRecDepth 100000 in
theorem lifted (os : Os) (started : os.Started) (H : Type) (enc : TypeId × Value → H) :
    ReturnsInHanded {} Tryz.checked os 10 .any (Rows.callOnlySpec.pre6 enc Tryz.prog Tryz.f10 Rows.callOnlyRow.domain false) (Rows.callOnlySpec.post enc Tryz.prog Tryz.f10 false true false false) := by
  refine returnsInHanded_of_change_sized (C := Tryz.checked) own started (by kernel_rfl) Tryz.func10
    (ChangeSpec.witness6 (enc := enc) (C := Tryz.checked) false ⟨#[], #[.slice none 0 0], []⟩ 8 (by kernel_rfl) (by kernel_rfl) (by kernel_rfl) (by kernel_rfl)) ?_
  intro W base args ds gs before hval0 hW hcnd hsz0 _
  have hsz : (DataW.weightsEach Tryz.prog (Tryz.f10.params.toList ++ Rows.callOnlySpec.plain.varTypes Tryz.prog) (ds ++ gs)).all (· ≤ reachBytes) = true := hsz0
  clear hsz0
  have hval : ∀ (j : Nat) t v, Tryz.f10.params[j]? = some t → args[j]? = some v → Value.okWide Tryz.prog W .any base t v := hval0
  have hW' := hW
  obtain ⟨p, q, hA0, hV, rfl, hfz, hnd⟩ := hW
  have hA : DataW.TrodAll enc Tryz.prog W 0 (fun _ => true) true Tryz.f10.params.toList args.toList ds p := hA0
  rw [Tryz.params10] at hA hval hsz
  obtain ⟨v0, vs0, d0, ds0, p0, q0, hargs, rfl, rfl, h0, r0⟩ := trodAll_cons hA
  obtain ⟨rfl, rfl, rfl⟩ := trodAll_nil r0
  obtain rfl : args = #[v0] := by cases args; simp_all
  obtain ⟨rfl, rfl⟩ := trodVars_none hV
  obtain ⟨a0, len0, cap0, rfl⟩ := okWide_slice Tryz.underlying22 (hval 0 22 v0 rfl rfl)
  have k0 := h0
  have lt0 : ∀ x ∈ p0, x.block < W.heap.size := by obtain ⟨m, hm⟩ := k0; exact DataW.trod_lt m _ _ _ hm
  obtain ⟨z0, w0⟩ : ∃ xs, IsRow W a0 len0 xs := by
    obtain ⟨fuel, hf⟩ := h0
    rcases open_ints Tryz.underlying22 Tryz.underlying5 (by kernel_rfl) hf with ⟨hcs, _⟩ | ⟨x, l, c, zs, hcs, _, hl, hm, hz, hx, hcell, hwz⟩
    · simp [Value.cells] at hcs
      obtain ⟨rfl, rfl, rfl⟩ := hcs
      exact ⟨[], ⟨rfl, Nat.zero_le _, fun h => absurd h (Nat.lt_irrefl _)⟩, rfl, fun x hx => (List.not_mem_nil hx).elim, Nat.zero_le _⟩
    · simp [Value.cells] at hcs
      obtain ⟨rfl, rfl, rfl⟩ := hcs
      have hz' : zs.length = cap0 := by simpa using hz
      have e0 : d0 = DataW.slice (lits IntKind.u8 (zs.take len0)) (lits IntKind.u8 (zs.drop len0)) := congrArg Prod.fst hx
      have hreach : len0 ≤ 140737488351232 := by
        have := sized_slice hsz (j := 0) (t := 22) (e := 5) rfl (by rw [e0]; rfl) Tryz.underlying22
        rw [bytes1] at this
        simp only [lits, List.length_map, List.length_take, List.length_drop, reachBytes] at this
        omega
      have hlen : (zs.take len0).length = len0 := by rw [List.length_take]; omega
      refine ⟨zs.take len0, ⟨rfl, by rw [hlen]; omega, fun _ => ⟨x, rfl, fun j hj => ?_⟩⟩, hlen, fun n hn => ?_, hreach⟩
      · rw [hlen] at hj
        rw [hcell j (by omega)]
        congr 2
        simp [List.getD, hj]
      · have := hwz n (List.mem_of_mem_take hn)
        simp [Lit.wf] at this
        have h1 : IntKind.u8.min = 0 := rfl
        have h2 : IntKind.u8.max = 255 := rfl
        omega
  clear hA0 hval0
  refine (walk a0 len0 cap0 z0 W w0).mono fun e W' ⟨he, bel⟩ => ?_
  subst he
  exact ⟨_, rfl, _, _, _, [], _, [], hW', trodAll_mk1 (shut_bool Tryz.underlying4 _), (trodAll_cons_mk (Below.trod laidOut (by kernel_rfl) (of_decide_eq_true (by kernel_rfl)) k0 bel lt0) trodAll_mk0), rfl, bel.frame _, fun h => by cases h⟩

theorem over : Rows.callOnlyRow.holds Tryz.pinned (OpenSpec.ofChange Rows.callOnlySpec) :=
  OpenClaim.holds_of_wide 10 Tryz.f10 rfl rfl rfl rfl rfl rfl rfl ⟨rfl, rfl, rfl, rfl, rfl⟩ rfl rfl rfl rfl rfl (by kernel_rfl) Tryz.func10 (by kernel_rfl)
    (of_decide_eq_true (by kernel_rfl)) (by unfold Func.isWrapper; first | (rw [if_pos (by decide +kernel)]; kernel_rfl) | (rw [if_neg (by decide +kernel)]; exact ⟨rfl, rfl⟩))
    (fun os started H enc _ => lifted os started H enc)

/-- The statement. -/
theorem proved : Rows.CallOnlySaid := over
end Go.Proofs.YteckmgmcfngddaaGreat.callOnly
end
