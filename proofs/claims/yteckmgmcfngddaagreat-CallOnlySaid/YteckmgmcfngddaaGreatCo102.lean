/- A part of a proof. Proved: Rows.CallOnlySaid: for every byte slice the law leatlaw16.CallOnly returns true, and the slice reads afterwards as it read before. No condition but the row's own reach. -/
import Derived.Test.YteckmgmcfngddaaGreatCo101
import Derived.Deep.RegionHeld3
import Derived.Deep.DeepCutAuto
import Derived.Deep.LoopGhost
import Derived.Deep.CutBlock
import Derived.Deep.RegionLaw
import Derived.Deep.MidRow
section
/- The wire's reader of fields beside a captured variable that holds its pointer; blobs; the kinds of the messages' parts. -/
set_option linter.unusedVariables false
set_option linter.unusedSimpArgs false
namespace Go.Proofs.YteckmgmcfngddaaGreat
open Go.RowKit Go.Proofs.YteckmgmcfngddaaGreatW.PrintWords

/-- The reader, and the captured variable bx that points to it. -/
structure Cl (w : World) (p g bx : Nat) (rv : Value) (d : DS) : Prop where
  dec : DecAt w p g rv d
  box : w.heap[bx]? = some (.cells #[.pointer (some ⟨p, 0, none⟩)] 113 (0, 0))
  nep : bx ≠ p
  neg : bx ≠ g
  len : d.b.length ≤ 140737488355328
theorem Cl.cell {w : World} {p g bx : Nat} {rv : Value} {d : DS} (h : Cl w p g bx rv d) : w.cell? ⟨bx, 0, none⟩ = some (.pointer (some ⟨p, 0, none⟩)) := blk_cell h.box 0
theorem Cl.not {w : World} {p g bx : Nat} {rv : Value} {d : DS} (h : Cl w p g bx rv d) : ¬ DecS p g bx := fun e => e.elim h.nep h.neg
theorem Cl.mod {w w1 : World} {p g bx : Nat} {rv : Value} {d d' : DS} (h : Cl w p g bx rv d) (hd : DecAt w1 p g rv d') (hm : Mod (DecS p g) w w1) (hb : d'.b = d.b) : Cl w1 p g bx rv d' :=
  ⟨hd, blk_mod h.box hm h.not, h.nep, h.neg, by rw [hb]; exact h.len⟩
theorem Cl.below {w w1 : World} {p g bx : Nat} {rv : Value} {d : DS} (h : Cl w p g bx rv d) (hb : Below w.heap.size w w1) : Cl w1 p g bx rv d :=
  ⟨h.dec.below hb, blk_mod (S := fun _ => False) h.box (Mod.of_below hb) id, h.nep, h.neg, h.len⟩
theorem Cl.drewN {w : World} {p g bx : Nat} {rv : Value} {d : DS} (h : Cl w p g bx rv d) (k : Nat) : Cl (w.drewN k) p g bx rv d := ⟨h.dec.drewN k, h.box, h.nep, h.neg, h.len⟩
theorem Cl.drew {w : World} {p g bx : Nat} {rv : Value} {d : DS} (h : Cl w p g bx rv d) : Cl w.drew p g bx rv d := h.drewN 1
theorem Cl.far {w : World} {p g bx : Nat} {rv : Value} {d : DS} (h : Cl w p g bx rv d) {k : Nat} {cs : Array Value} {t : TypeId} (hk : w.heap[k]? = some (.cells cs t (0, 0))) (h1 : t ≠ 279) (h2 : t ≠ 288) (h3 : t ≠ 5) (h4 : t ≠ 113) (i : Nat) (u : Value) :
    Cl (w.setCell ⟨k, i, none⟩ u) p g bx rv d := ⟨h.dec.far hk h1 h2 h3 i u, blk_far h.box (blk_ne h.box hk h4.symm) u, h.nep, h.neg, h.len⟩
theorem Cl.grown {w w1 : World} {p g bx : Nat} {rv : Value} {d : DS} (h : Cl w p g bx rv d) {row : Option Nat} (hg : w.grownBy w1 row) (hr : ∀ k, row = some k → ∃ cs t, w.heap[k]? = some (.cells cs t (0, 0)) ∧ t ≠ 279 ∧ t ≠ 288 ∧ t ≠ 5 ∧ t ≠ 113) : Cl w1 p g bx rv d := by
  obtain ⟨r, hb⟩ := h.dec.blk
  have ne : ∀ {k : Nat} {cs : Array Value} {t : TypeId}, w.heap[k]? = some (.cells cs t (0, 0)) → (t = 279 ∨ t = 288 ∨ t = 5 ∨ t = 113) → some k ≠ row := by
    intro k cs t hk ht he
    obtain ⟨cs', t', hk', h1, h2, h3, h4⟩ := hr k he.symm
    rw [hk] at hk'
    injection hk' with hk'
    injection hk' with _ hk'
    subst hk'
    rcases ht with ht | ht | ht | ht <;> contradiction
  have mv : ∀ {k : Nat} {cs : Array Value} {t : TypeId}, w.heap[k]? = some (.cells cs t (0, 0)) → (t = 279 ∨ t = 288 ∨ t = 5 ∨ t = 113) → w1.heap[k]? = some (.cells cs t (0, 0)) := fun hk ht => (hg.block _ (blk_lt hk) (ne hk ht)).trans hk
  refine ⟨⟨fun he => ⟨mv (h.dec.1 he).1 (.inl rfl), ?_⟩, fun he => by obtain ⟨r, hr⟩ := h.dec.2.1 he; exact ⟨r, mv hr (.inl rfl)⟩, Nat.lt_of_lt_of_le h.dec.2.2 hg.size⟩, mv h.box (.inr (.inr (.inr rfl))), h.nep, h.neg, h.len⟩
  have hr := (h.dec.1 he).2
  refine ⟨mv hr.1 (.inr (.inl rfl)), own_move hr.2.1 (fun k hk => ?_), hr.2.2⟩
  obtain ⟨cs, hc⟩ := own_typed hr.2.1 k hk
  exact (mv hc (.inr (.inr (.inl rfl)))).trans hc.symm

/-- A call on the reader: what it answers (f of the state), what it leaves. -/
def ClPost (p g bx : Nat) (rv : Value) (v : Value) (d : DS) (w : World) (e : Ending) (w' : World) : Prop := e = .returned v ∧ Cl w' p g bx rv d ∧ Mod (DecS p g) w w'
theorem cl_i8 (w : World) (p g bx : Nat) (rv : Value) (d : DS) (h : Cl w p g bx rv d) : Calls Tryz.prog 97 #[.pointer (some ⟨p, 0, none⟩)] w (ClPost p g bx rv (.int .i8 d.i8.1) d.i8.2 w) :=
  (dec_i8 w p g rv d h.dec).mono fun _ _ ⟨he, hd, hm⟩ => ⟨he, h.mod hd hm d.i8_b, hm⟩
theorem cl_i16 (w : World) (p g bx : Nat) (rv : Value) (d : DS) (h : Cl w p g bx rv d) : Calls Tryz.prog 57 #[.pointer (some ⟨p, 0, none⟩)] w (ClPost p g bx rv (.int .i16 d.i16.1) d.i16.2 w) :=
  (dec_i16 w p g rv d h.dec).mono fun _ _ ⟨he, hd, hm⟩ => ⟨he, h.mod hd hm d.i16_b, hm⟩
theorem cl_i32 (w : World) (p g bx : Nat) (rv : Value) (d : DS) (h : Cl w p g bx rv d) : Calls Tryz.prog 58 #[.pointer (some ⟨p, 0, none⟩)] w (ClPost p g bx rv (.int .i32 d.i32.1) d.i32.2 w) :=
  (dec_i32 w p g rv d h.dec).mono fun _ _ ⟨he, hd, hm⟩ => ⟨he, h.mod hd hm d.i32_b, hm⟩
theorem cl_i64 (w : World) (p g bx : Nat) (rv : Value) (d : DS) (h : Cl w p g bx rv d) : Calls Tryz.prog 91 #[.pointer (some ⟨p, 0, none⟩)] w (ClPost p g bx rv (.int .i64 d.i64.1) d.i64.2 w) :=
  (dec_i64 w p g rv d h.dec).mono fun _ _ ⟨he, hd, hm⟩ => ⟨he, h.mod hd hm d.i64_b, hm⟩
theorem cl_str (w : World) (p g bx : Nat) (rv : Value) (d : DS) (h : Cl w p g bx rv d) : Calls Tryz.prog 61 #[.pointer (some ⟨p, 0, none⟩)] w (ClPost p g bx rv (.string d.str.1) d.str.2 w) :=
  (dec_str w p g rv d h.dec h.len).mono fun _ _ ⟨he, hd, hm⟩ => ⟨he, h.mod hd hm d.str_b, hm⟩
theorem DS.name_b (d : DS) : d.name.2.b = d.b := by
  unfold DS.name
  split
  · exact d.i16_b
  · exact (DS.text_b _ _).trans d.i16_b
theorem cl_name (w : World) (p g bx : Nat) (rv : Value) (d : DS) (h : Cl w p g bx rv d) : Calls Tryz.prog 56 #[.pointer (some ⟨p, 0, none⟩)] w (ClPost p g bx rv (.agg #[.bool d.name.1.1, .string d.name.1.2]) d.name.2 w) :=
  (dec_name w p g rv d h.dec h.len).mono fun _ _ ⟨he, hd, hm⟩ => ⟨he, h.mod hd hm d.name_b, hm⟩
theorem cl_has (w : World) (p g bx : Nat) (rv : Value) (d : DS) (lo hi : Int) (h : Cl w p g bx rv d) : Calls Tryz.prog 55 #[.pointer (some ⟨p, 0, none⟩), .int .i64 lo, .int .i64 hi] w (ClPost p g bx rv (.bool (d.has lo hi)) d w) :=
  (dec_has w p g rv d lo hi h.dec).mono fun _ w' ⟨he, k, hk⟩ => ⟨he, by subst hk; exact h.drewN k, by subst hk; exact (Mod.refl _ _).drewN k⟩

/-! ### Blobs -/
def DS.blobV (d : DS) : Blob × DS := (⟨d.blob.1.1, d.blob.1.2⟩, d.blob.2)
theorem DS.blob_null {d : DS} (h : d.i32.1 = -1) : d.blobV = (⟨true, []⟩, d.i32.2) := by unfold DS.blobV DS.blob; rw [if_pos h]
theorem DS.blob_take {d : DS} (h : ¬ d.i32.1 = -1) : d.blobV = (⟨false, (d.i32.2.take d.i32.1).1⟩, (d.i32.2.take d.i32.1).2) := by unfold DS.blobV DS.blob; rw [if_neg h]
theorem DS.blobV_b (d : DS) : d.blobV.2.b = d.b := by
  unfold DS.blobV DS.blob
  split
  · exact d.i32_b
  · exact (DS.take_b _ _).trans d.i32_b
/-- A call on the reader whose answer leads to rows of its own. -/
def ClPostM {α : Type} (k : Kd α) (p g bx : Nat) (rv : Value) (x : α) (d : DS) (w : World) (e : Ending) (w' : World) : Prop :=
  ∃ cs, e = .returned (.agg cs.toArray) ∧ k.M w' w.heap.size (fun _ => True) x cs ∧ Cl w' p g bx rv d ∧ Mod (DecS p g) w w'
theorem kBlob_M {w : World} {base : Nat} {ok : Nat → Prop} {x : Blob} {A : Option Addr} {c : Nat} (h : w.ownsRow base 5 1 (.slice A x.b.length c) x.b.length (nums .u8 x.b)) (hok : ∀ k, (Value.slice A x.b.length c).ownBlock = some k → ok k) : kBlob.M w base ok x [.bool x.null, .slice A x.b.length c] :=
  kBlob_mkM w base ok x (Kd.R_of_own (enc := Value.int .u8) (h1 := fun _ => rfl) h hok)

set_option maxRecDepth 100000 in
set_option maxHeartbeats 1600000 in
theorem cl_blob (w : World) (p g bx : Nat) (rv : Value) (d : DS) (h : Cl w p g bx rv d) :
    Calls Tryz.prog 64 #[.pointer (some ⟨p, 0, none⟩)] w (ClPostM kBlob p g bx rv d.blobV.1 d.blobV.2 w) := by
  have hbb := Lib.hid d.blobV_b
  obtain ⟨r0, r1⟩ := d.i32_range
  by_cases hn : d.i32.1 = -1
  · rw [DS.blob_null hn] at hbb ⊢
    have hn1 : (d.i32.1 == -1) = true := by simpa using hn
    clear hn
    go_enter Tryz.func64, Tryz.ntmps64
    go_wp2_with (first | ((with_reducible refine gate_dst (N := 2) rfl ?_); refine box_event ?hg (N := 2) ?hd (cs := #[.bool false, .slice none 0 0]) (t := 126) ?hr ?_; (case hd => rfl); (case hg => rfl); (case hr => first | (go_simp; done) | (go_simp; rfl)); intro gb hgb w0 kgb bgb; have HG := Lib.hid kgb; have HB0 := Lib.hid bgb; have HGB := Lib.hid hgb; clear kgb bgb hgb))
    refine (dec_i32 w0 p g rv d (h.dec.below HB0.out)).mono ?_
    rintro e w1 ⟨rfl, hd, hm⟩
    have hg1 := blk_mod HG.out hm (h.dec.new (Nat.le_of_eq HGB.out.symm))
    have f0 := fun i => blk_frozen hg1 i
    have c0 := blk_cell hg1 0
    have c1 := blk_cell hg1 1
    simp at c0 c1
    have HG1 := Lib.hid hg1
    clear hg1
    go_wp2
    have hc : Cl w1 p g bx rv d.i32.2 := (h.below HB0.out).mod hd hm hbb.out
    refine bodyPost_ret (v := .agg #[.bool true, .slice none 0 0]) (by simp [results, Tryz.results64, go_sem, c0, c1]) rfl ⟨[.bool true, .slice none 0 0], rfl, kBlob_M (x := ⟨true, []⟩) (own_nil _ _ _ _) (fun k hk => trivial), ?_, ?_⟩
    · exact (hc.far HG1.out (by decide) (by decide) (by decide) (by decide) 0 _).far (blk_set HG1.out 0 _) (by decide) (by decide) (by decide) (by decide) 1 _
    · exact modNew HB0.out hm HGB.out
  · rw [DS.blob_take hn] at hbb ⊢
    have hn1 : (d.i32.1 == -1) = false := by simpa using hn
    clear hn
    go_enter Tryz.func64, Tryz.ntmps64
    go_wp2_with (first | ((with_reducible refine gate_dst (N := 2) rfl ?_); refine box_event ?hg (N := 2) ?hd (cs := #[.bool false, .slice none 0 0]) (t := 126) ?hr ?_; (case hd => rfl); (case hg => rfl); (case hr => first | (go_simp; done) | (go_simp; rfl)); intro gb hgb w0 kgb bgb; have HG := Lib.hid kgb; have HB0 := Lib.hid bgb; have HGB := Lib.hid hgb; clear kgb bgb hgb))
    refine (dec_i32 w0 p g rv d (h.dec.below HB0.out)).mono ?_
    rintro e w1 ⟨rfl, hd, hm⟩
    have HG1 := Lib.hid (blk_mod HG.out hm (h.dec.new (Nat.le_of_eq HGB.out.symm)))
    go_wp2_with fail
    refine (dec_take w1 p g _ rv d.i32.2 hd).mono ?_
    rintro e w2 ⟨v, rfl, ho, hd2, hm2⟩
    obtain ⟨A, c, rfl⟩ := own_slice ho
    have hg1 := blk_mod HG1.out hm2 (h.dec.new (Nat.le_of_eq HGB.out.symm))
    have f0 := fun i => blk_frozen hg1 i
    have c0 := blk_cell hg1 0
    have c1 := blk_cell hg1 1
    simp at c0 c1
    have HG2 := Lib.hid hg1
    clear hg1
    go_wp2
    have hc : Cl w2 p g bx rv (d.i32.2.take d.i32.1).2 := (h.below HB0.out).mod hd2 (hm.trans hm2) hbb.out
    have hne := own_ne ho HG2.out (by decide)
    refine bodyPost_ret (v := .agg #[.bool false, .slice A (d.i32.2.take d.i32.1).1.length c]) (by simp [results, Tryz.results64, go_sem, c0, c1]) rfl ⟨[.bool false, .slice A (d.i32.2.take d.i32.1).1.length c], rfl, kBlob_M (x := ⟨false, (d.i32.2.take d.i32.1).1⟩) (own_setCell (own_setCell (own_weaken ho (Nat.le_trans HB0.out.size hm.size)) hne _) hne _) (fun k hk => trivial), ?_, ?_⟩
    · exact (hc.far HG2.out (by decide) (by decide) (by decide) (by decide) 0 _).far (blk_set HG2.out 0 _) (by decide) (by decide) (by decide) (by decide) 1 _
    · exact modNew HB0.out (hm.trans hm2) HGB.out

end Go.Proofs.YteckmgmcfngddaaGreat
end

section
/- Words for the readers of parts: what stays, what a store leaves; lists. -/
set_option linter.unusedVariables false
set_option linter.unusedSimpArgs false
namespace Go.Proofs.YteckmgmcfngddaaGreat
open Go.RowKit Go.Proofs.YteckmgmcfngddaaGreatW.PrintWords

theorem cell_far {w : World} {b i g j : Nat} {u : Value} (h : b ≠ g) : (w.setCell ⟨g, j, none⟩ u).cell? ⟨b, i, none⟩ = w.cell? ⟨b, i, none⟩ := World.cell?_setCell_other _ _ _ _ (fun e => h (by injection e with e; exact e.symm))
theorem hid_mod {S : Nat → Prop} {w w1 : World} {g : Nat} {o : Obj} (h : Hid (w.heap[g]? = some o)) (hm : Mod S w w1) (hg : Hid (¬ S g)) : Hid (w1.heap[g]? = some o) := blk_mod h.out hm hg.out
theorem hid_far {w : World} {g k i : Nat} {o : Obj} {u : Value} (h : Hid (w.heap[g]? = some o)) (hk : Hid (g ≠ k)) : Hid ((w.setCell ⟨k, i, none⟩ u).heap[g]? = some o) := blk_far h.out hk.out u
theorem hid_set {w : World} {g : Nat} {cs : Array Value} {t : TypeId} (h : Hid (w.heap[g]? = some (.cells cs t (0, 0)))) (i : Nat) (u : Value) : Hid ((w.setCell ⟨g, i, none⟩ u).heap[g]? = some (.cells (cs.setIfInBounds i u) t (0, 0))) := blk_set h.out i u
theorem M_mod {α : Type} {d : Kd α} {w w1 : World} {base : Nat} {ok : Nat → Prop} {x : α} {cs : List Value} {S : Nat → Prop} (h : d.M w base ok x cs) (hm : Mod S w w1) (hb : ∀ k, base ≤ k → ¬ S k) : d.M w1 base ok x cs :=
  d.M_mono (fun _ hk => hk.1) (d.M_move (fun k hk => hm.block k hk.2.2.1 (hb k hk.2.1)) (d.M_bound h))
theorem R_mod {α : Type} {d : Kd α} {e : Nat} {w w1 : World} {base : Nat} {ok : Nat → Prop} {v : Value} {xs : List α} {S : Nat → Prop} (h : d.R e w base ok v xs) (hm : Mod S w w1) (hb : ∀ k, base ≤ k → ¬ S k) : d.R e w1 base ok v xs :=
  Kd.R_mono (Kd.R_move (Kd.R_bound h) (fun k hk => hm.block k hk.2.2.1 (hb k hk.2.1))) (fun _ hk => hk.1)
theorem M_set {α : Type} {d : Kd α} {w : World} {base : Nat} {ok : Nat → Prop} {x : α} {cs : List Value} (h : d.M w base ok x cs) {g t : Nat} {cells : Array Value} (hb : w.heap[g]? = some (.cells cells t (0, 0))) (ht : ∀ q, q ∈ d.E → q ≠ t) (j : Nat) (u : Value) : d.M (w.setCell ⟨g, j, none⟩ u) base ok x cs :=
  d.M_mono (fun _ hk => hk.1) (Kd.M_far (p := ⟨g, j, none⟩) (Kd.M_types h hb ht) (fun _ hk => hk.2) u)
theorem Cl.new {w : World} {p g bx : Nat} {rv : Value} {d : DS} (h : Cl w p g bx rv d) {k : Nat} (hk : w.heap.size ≤ k) : ¬ DecS p g k := h.dec.new hk
theorem modFar {S : Nat → Prop} {w w1 : World} {g : Nat} (h : Mod S w w1) (hg : Hid (w.heap.size ≤ g)) (i : Nat) (u : Value) : Mod S w (w1.setCell ⟨g, i, none⟩ u) := Mod.setCell (p := ⟨g, i, none⟩) h (fun hlt => absurd hlt (Nat.not_lt.2 hg.out)) u
theorem Cl.alloc {w : World} {p g bx : Nat} {rv : Value} {d : DS} (h : Cl w p g bx rv d) (o : Obj) : Cl (w.alloc o) p g bx rv d := h.below ((Below.refl _ _).alloc (Nat.le_refl _) o)
theorem hid_newOf {S : Nat → Prop} {w W : World} (_ : Mod S w W) (o : Obj) : Hid ((W.alloc o).heap[W.heap.size]? = some o) := blk_new W o
theorem hid_oldOf {w : World} {g : Nat} {o : Obj} (h : Hid (w.heap[g]? = some o)) (o' : Obj) : Hid ((w.alloc o').heap[g]? = some o) := blk_old h.out o'
theorem hid_neOf {w : World} {g : Nat} {o : Obj} (h : Hid (w.heap[g]? = some o)) : Hid (g ≠ w.heap.size) := Nat.ne_of_lt (blk_lt h.out)
theorem hid_cast {w : World} {g : Nat} {cs cs' : Array Value} {t : TypeId} (h : Hid (w.heap[g]? = some (.cells cs t (0, 0)))) (e : cs = cs') : Hid (w.heap[g]? = some (.cells cs' t (0, 0))) := by rw [← e]; exact h
theorem hid_ne {w : World} {g k : Nat} {cs cs' : Array Value} {t t' : TypeId} (h : Hid (w.heap[g]? = some (.cells cs t (0, 0)))) (h' : Hid (w.heap[k]? = some (.cells cs' t' (0, 0)))) (hne : t ≠ t') : Hid (g ≠ k) := blk_ne h.out h'.out hne

/-- A call on the reader that answers a slice of its own. -/
def ClPostR {α : Type} (k : Kd α) (t : Nat) (p g bx : Nat) (rv : Value) (xs : List α) (d : DS) (w : World) (e : Ending) (w' : World) : Prop :=
  ∃ A c, e = .returned (.slice A xs.length c) ∧ k.R t w' w.heap.size (fun _ => True) (.slice A xs.length c) xs ∧ Cl w' p g bx rv d ∧ Mod (DecS p g) w w'

/-- A list: its number of elements, then the elements, as long as all goes well. -/
def rdGo {α : Type} (f : DS → α × DS) : Nat → List α → DS → List α × DS
  | 0, out, d => (out, d)
  | k + 1, out, d => if d.e = 0 then rdGo f k (out ++ [(f d).1]) (f d).2 else (out, d)
def rdHead (d : DS) : DS := if d.i32.2.e ≠ 0 then d.i32.2 else if d.i32.1 < 0 then { d.i32.2 with e := 5 } else if d.i32.1 > 16 then { d.i32.2 with e := 9 } else d.i32.2
def rdList {α : Type} (f : DS → α × DS) (d : DS) : List α × DS := rdGo f d.i32.1.toNat [] (rdHead d)
theorem rdGo_stop {α : Type} (f : DS → α × DS) (k : Nat) (out : List α) (d : DS) (h : d.e ≠ 0) : rdGo f k out d = (out, d) := by
  cases k with
  | zero => rfl
  | succ k => exact if_neg h
theorem rdGo_step {α : Type} (f : DS → α × DS) (k : Nat) (out : List α) (d : DS) (h : d.e = 0) : rdGo f (k + 1) out d = rdGo f k (out ++ [(f d).1]) (f d).2 := if_pos h

end Go.Proofs.YteckmgmcfngddaaGreat
end

section
/- Words for the readers of lists. -/
set_option linter.unusedVariables false
set_option linter.unusedSimpArgs false
namespace Go.Proofs.YteckmgmcfngddaaGreat
open Go.RowKit Go.Proofs.YteckmgmcfngddaaGreatW.PrintWords

theorem Cl.failed {w : World} {p g bx : Nat} {rv : Value} {d : DS} (h : Cl w p g bx rv d) (c : Int) (hc : c ≠ 0) : Cl (w.setCell ⟨p, 2, none⟩ (.int .i64 c)) p g bx rv { d with e := c } := ⟨h.dec.failed c hc, blk_far h.box h.nep _, h.nep, h.neg, h.len⟩
theorem Mod.grown {S : Nat → Prop} {w W w1 : World} (h : Mod S w W) {row : Option Nat} (hg : W.grownBy w1 row) (hr : ∀ k, row = some k → w.heap.size ≤ k) : Mod S w w1 :=
  ⟨hg.os.trans h.os, hg.tape.trans h.tape, hg.output.trans h.output, Nat.le_trans h.size hg.size, fun i hi hn => (hg.block i (Nat.lt_of_lt_of_le hi h.size) (fun e => absurd (hr i e.symm) (Nat.not_le.2 hi))).trans (h.block i hi hn)⟩
theorem R_ownlt {α : Type} {d : Kd α} {e : Nat} {w : World} {base : Nat} {ok : Nat → Prop} {v : Value} {xs : List α} (h : d.R e w base ok v xs) (k : Nat) (hk : v.ownBlock = some k) : k < w.heap.size := by
  obtain ⟨inner, ho⟩ := Kd.R_own h
  exact own_lt ho k hk
theorem R_ownge {α : Type} {d : Kd α} {e : Nat} {w : World} {base : Nat} {ok : Nat → Prop} {v : Value} {xs : List α} (h : d.R e w base ok v xs) (k : Nat) (hk : v.ownBlock = some k) : base ≤ k := by
  obtain ⟨inner, ho⟩ := Kd.R_own h
  exact own_base ho k hk
theorem R_owntyped {α : Type} {d : Kd α} {e : Nat} {w : World} {base : Nat} {ok : Nat → Prop} {v : Value} {xs : List α} (h : d.R e w base ok v xs) (k : Nat) (hk : v.ownBlock = some k) : ∃ cs, w.heap[k]? = some (.cells cs e (0, 0)) := by
  obtain ⟨inner, ho⟩ := Kd.R_own h
  exact own_typed ho k hk
theorem M_fresh {α : Type} {d : Kd α} {w w0 : World} {base base0 e : Nat} {ok ok0 : Nat → Prop} {x : α} {cs : List Value} {β : Type} {d0 : Kd β} {v : Value} {xs : List β} (h : d.M w base ok x cs) (h0 : d0.R e w0 base0 ok0 v xs) (hb : w0.heap.size ≤ base) (hb0 : base0 ≤ base) : d.M w base0 (fun k => some k ≠ v.ownBlock) x cs :=
  d.M_lower hb0 (d.M_mono (fun k hk he => by have := R_ownlt h0 k he.symm; have := hk.2.1; omega) (d.M_bound h))
theorem rdHead_err {d : DS} (h : ¬ d.i32.2.e = 0) : rdHead d = d.i32.2 := if_pos h
theorem rdHead_neg {d : DS} (h : d.i32.2.e = 0) (h1 : d.i32.1 < 0) : rdHead d = { d.i32.2 with e := 5 } := by unfold rdHead; rw [if_neg (by simpa using h), if_pos h1]
theorem rdHead_big {d : DS} (h : d.i32.2.e = 0) (h1 : ¬ d.i32.1 < 0) (h2 : d.i32.1 > 16) : rdHead d = { d.i32.2 with e := 9 } := by unfold rdHead; rw [if_neg (by simpa using h), if_neg h1, if_pos h2]
theorem rdHead_ok {d : DS} (h : d.i32.2.e = 0) (h1 : ¬ d.i32.1 < 0) (h2 : ¬ d.i32.1 > 16) : rdHead d = d.i32.2 := by unfold rdHead; rw [if_neg (by simpa using h), if_neg h1, if_neg h2]
theorem rdHead_le (d : DS) (h : (rdHead d).e = 0) : d.i32.1 ≤ 16 := by
  by_cases he : d.i32.2.e = 0
  · by_cases h1 : d.i32.1 < 0
    · omega
    · by_cases h2 : d.i32.1 > 16
      · rw [rdHead_big he h1 h2] at h; simp at h
      · omega
  · rw [rdHead_err he] at h; exact absurd h he

end Go.Proofs.YteckmgmcfngddaaGreat
end

section
/- The wire's reader of fields: its beginning and its end; a whole message's frame. -/
set_option linter.unusedVariables false
set_option linter.unusedSimpArgs false
namespace Go.Proofs.YteckmgmcfngddaaGreat
open Go.RowKit Go.Proofs.YteckmgmcfngddaaGreatW.PrintWords

def DS.nameV (d : DS) : Name × DS := (⟨d.name.1.1, d.name.1.2⟩, d.name.2)
theorem cl_nameV (w : World) (p g bx : Nat) (rv : Value) (d : DS) (h : Cl w p g bx rv d) : Calls Tryz.prog 56 #[.pointer (some ⟨p, 0, none⟩)] w (ClPost p g bx rv (.agg #[.bool d.nameV.1.null, .string d.nameV.1.s]) d.nameV.2 w) := cl_name w p g bx rv d h

theorem DS.fin_err {d : DS} (h : ¬ d.e = 0) : d.fin = d.e := if_neg h
theorem DS.fin_ok {d : DS} (h : d.e = 0) : d.fin = rdEnd d.b d.pos := if_pos h
def EndPost (p g : Nat) (c : Int) (w : World) (e : Ending) (w' : World) : Prop := e = .returned (.int .i64 c) ∧ Mod (DecS p g) w w'
set_option maxHeartbeats 1600000 in
theorem cl_end (w : World) (p g bx : Nat) (rv : Value) (d : DS) (h : Cl w p g bx rv d) :
    Calls Tryz.prog 65 #[.pointer (some ⟨p, 0, none⟩)] w (EndPost p g d.fin w) := by
  have hd := h.dec
  by_cases he : d.e = 0
  · rw [DS.fin_ok he]
    have hb := (hd.1 he).1
    have hr := (hd.1 he).2
    have c0 := blk_cell hb 0
    have c2 := blk_cell hb 2
    have f2 := fun k => blk_frozen (w := w.drewN k) (g := p) hb 2
    simp at c0 c2
    clear hb he
    go_enter Tryz.func65, Tryz.ntmps65
    go_wp2_with fail
    refine (rd_end w g rv _ _ hr).mono ?_
    rintro e w' ⟨rfl, k, rfl⟩
    go_wp2
    go_ret
    exact ⟨rfl, mod_dec' p g k _⟩
  · rw [DS.fin_err he]
    obtain ⟨r, hb⟩ := hd.2.1 he
    have c2 := blk_cell hb 2
    simp at c2
    have he' : (d.e == 0) = false := by simp [he]
    clear hb he
    go_enter Tryz.func65, Tryz.ntmps65
    go_wp2
    go_ret
    exact ⟨rfl, Mod.refl _ _⟩

def DS.new (v : Int) (b : List Int) : DS := { b := b, pos := 0, v := v, e := if v < 0 ∨ v > 3 then 8 else if b.length > 130048 then 4 else 0 }
theorem DS.new_ver {v : Int} {b : List Int} (h : v < 0 ∨ v > 3) : DS.new v b = { b := b, pos := 0, v := v, e := 8 } := by unfold DS.new; rw [if_pos h]
theorem DS.new_long {v : Int} {b : List Int} (h : ¬ (v < 0 ∨ v > 3)) (h2 : b.length > 130048) : DS.new v b = { b := b, pos := 0, v := v, e := 4 } := by unfold DS.new; rw [if_neg h, if_pos h2]
theorem DS.new_ok {v : Int} {b : List Int} (h : ¬ (v < 0 ∨ v > 3)) (h2 : ¬ b.length > 130048) : DS.new v b = { b := b, pos := 0, v := v, e := 0 } := by unfold DS.new; rw [if_neg h, if_neg h2]
def NewDecPost (d : DS) (w : World) (e : Ending) (w' : World) : Prop := ∃ p g rv, e = .returned (.pointer (some ⟨p, 0, none⟩)) ∧ DecAt w' p g rv d ∧ w.heap.size ≤ p ∧ w.heap.size ≤ g ∧ Below w.heap.size w w'

set_option maxRecDepth 100000 in
set_option maxHeartbeats 1600000 in
theorem newDec (w : World) (v : Int) (A : Option Addr) (c : Nat) (xs : List Int) (hr : ReadsInt w .u8 A xs.length xs) (hl : xs.length ≤ 140737488355328) :
    Calls Tryz.prog 54 #[.int .i64 v, .slice A xs.length c] w (NewDecPost (DS.new v xs) w) := by
  have HR := Lib.hid hr
  clear hr
  by_cases h1 : v < 0 ∨ v > 3
  · rw [DS.new_ver h1]
    rcases h1 with h1 | h1
    · have h1' : decide (v < 0) = true := by simpa using h1
      go_enter Tryz.func54, Tryz.ntmps54
      go_wp2_with (first | ((with_reducible refine gate_dst (N := 8) rfl ?_); refine box_event ?hg (N := 8) ?hd (cs := #[.pointer none, .int .i64 v, .int .i64 0]) (t := 279) ?hr ?_; (case hd => rfl); (case hg => rfl); (case hr => first | (go_simp; done) | (go_simp; rfl)); intro p hp w1 kp bp; have f2 := blk_frozen kp 2; have c2 : w1.cell? ⟨p, 2, none⟩ = _ := blk_cell kp 2; simp at c2; have KP := Lib.hid kp; have HP := Lib.hid hp; clear kp hp))
      go_ret
      exact ⟨p, p, .slice none 0 0, rfl, ⟨fun he => absurd he (by simp), fun _ => ⟨none, by simpa using blk_set KP.out 2 (.int .i64 8)⟩, by simpa using blk_lt KP.out⟩, Nat.le_of_eq HP.out.symm, Nat.le_of_eq HP.out.symm, bp.setCell (p := ⟨p, 2, none⟩) (Nat.le_of_eq HP.out.symm) _⟩
    · have h1' : decide (v < 0) = false := by simp; omega
      have h2' : decide (v > 3) = true := by simpa using h1
      go_enter Tryz.func54, Tryz.ntmps54
      go_wp2_with (first | ((with_reducible refine gate_dst (N := 8) rfl ?_); refine box_event ?hg (N := 8) ?hd (cs := #[.pointer none, .int .i64 v, .int .i64 0]) (t := 279) ?hr ?_; (case hd => rfl); (case hg => rfl); (case hr => first | (go_simp; done) | (go_simp; rfl)); intro p hp w1 kp bp; have f2 := blk_frozen kp 2; have c2 : w1.cell? ⟨p, 2, none⟩ = _ := blk_cell kp 2; simp at c2; have KP := Lib.hid kp; have HP := Lib.hid hp; clear kp hp))
      go_ret
      exact ⟨p, p, .slice none 0 0, rfl, ⟨fun he => absurd he (by simp), fun _ => ⟨none, by simpa using blk_set KP.out 2 (.int .i64 8)⟩, by simpa using blk_lt KP.out⟩, Nat.le_of_eq HP.out.symm, Nat.le_of_eq HP.out.symm, bp.setCell (p := ⟨p, 2, none⟩) (Nat.le_of_eq HP.out.symm) _⟩
  · have h1a : decide (v < 0) = false := by simp; omega
    have h1b : decide (v > 3) = false := by simp; omega
    by_cases h2 : xs.length > 130048
    · rw [DS.new_long h1 h2]
      have h2' : decide ((xs.length : Int) > 130048) = true := by simpa using (by omega : (130048 : Int) < xs.length)
      clear h1
      go_enter Tryz.func54, Tryz.ntmps54
      go_wp2_with (first | ((with_reducible refine gate_dst (N := 8) rfl ?_); refine box_event ?hg (N := 8) ?hd (cs := #[.pointer none, .int .i64 v, .int .i64 0]) (t := 279) ?hr ?_; (case hd => rfl); (case hg => rfl); (case hr => first | (go_simp; done) | (go_simp; rfl)); intro p hp w1 kp bp; have f2 := blk_frozen kp 2; have c2 : w1.cell? ⟨p, 2, none⟩ = _ := blk_cell kp 2; simp at c2; have KP := Lib.hid kp; have HP := Lib.hid hp; clear kp hp))
      go_ret
      exact ⟨p, p, .slice none 0 0, rfl, ⟨fun he => absurd he (by simp), fun _ => ⟨none, by simpa using blk_set KP.out 2 (.int .i64 4)⟩, by simpa using blk_lt KP.out⟩, Nat.le_of_eq HP.out.symm, Nat.le_of_eq HP.out.symm, bp.setCell (p := ⟨p, 2, none⟩) (Nat.le_of_eq HP.out.symm) _⟩
    · rw [DS.new_ok h1 h2]
      have h2' : decide ((xs.length : Int) > 130048) = false := by simp; omega
      clear h1
      go_enter Tryz.func54, Tryz.ntmps54
      go_wp2_with (first | ((with_reducible refine gate_dst (N := 8) rfl ?_); refine box_event ?hg (N := 8) ?hd (cs := #[.pointer none, .int .i64 v, .int .i64 0]) (t := 279) ?hr ?_; (case hd => rfl); (case hg => rfl); (case hr => first | (go_simp; done) | (go_simp; rfl)); intro p hp w1 kp bp; have KP := Lib.hid kp; have HP := Lib.hid hp; clear kp hp))
      refine (newReader w1 A _ c xs (HR.out.below bp) hl).mono ?_
      rintro e w2 ⟨g, rv, rfl, hrd, hg, hrv, hb2⟩
      have kp2 := blk_mod (S := fun _ => False) KP.out (Mod.of_below hb2) id
      have f0 := blk_frozen kp2 0
      have c0 : w2.cell? ⟨p, 0, none⟩ = _ := blk_cell kp2 0
      simp at c0
      have KP2 := Lib.hid kp2
      clear kp2
      go_wp2
      go_ret
      have hpg : p < g := Nat.lt_of_lt_of_le (blk_lt KP.out) hg
      refine ⟨p, g, rv, rfl, ⟨fun _ => ⟨by simpa using blk_set KP2.out 0 (.pointer (some ⟨g, 0, none⟩)), hrd.mod (S := fun k => k = p) (Mod.setCell (S := fun k => k = p) (p := ⟨p, 0, none⟩) (Mod.refl _ _) (fun _ => rfl) _) (by omega) (fun k hk e => ?_)⟩, fun hx => absurd rfl hx, by simpa using blk_lt hrd.1⟩, Nat.le_of_eq HP.out.symm, Nat.le_trans bp.size hg, (bp.trans (hb2.mono bp.size)).setCell (p := ⟨p, 0, none⟩) (Nat.le_of_eq HP.out.symm) _⟩
      have h3 := hrv k hk
      have h4 := blk_lt KP.out
      omega

/-- A message read: with an error everything else is zero. -/
def decFin {α : Type} (z : α) (r : α × DS) : α × Int := if r.2.fin = 0 then (r.1, 0) else (z, r.2.fin)
theorem decFin_ok {α : Type} {z : α} {r : α × DS} (h : r.2.fin = 0) : decFin z r = (r.1, 0) := if_pos h
theorem decFin_bad {α : Type} {z : α} {r : α × DS} (h : ¬ r.2.fin = 0) : decFin z r = (z, r.2.fin) := if_neg h
def DecPost {α : Type} (k : Kd α) (r : α × Int) (w : World) (e : Ending) (w' : World) : Prop :=
  ∃ cs, e = .returned (.tuple #[.agg cs.toArray, .int .i64 r.2]) ∧ k.M w' w.heap.size (fun _ => True) r.1 cs ∧ Below w.heap.size w w'

end Go.Proofs.YteckmgmcfngddaaGreat
end

section
/- The cursor's writer: what each of its methods does. -/
set_option linter.unusedVariables false
set_option linter.unusedSimpArgs false
namespace Go.Proofs.YteckmgmcfngddaaGreat
open Go.RowKit Go.Proofs.YteckmgmcfngddaaGreatW.PrintWords

/-- The blocks of types T that are new since B: these alone may be written. -/
def TS (T : TypeId → Prop) (B : Nat) (w : World) (k : Nat) : Prop := B ≤ k ∧ ∃ cs t fr, w.heap[k]? = some (.cells cs t fr) ∧ T t
def TMod (T : TypeId → Prop) (B : Nat) (w w' : World) : Prop := Mod (TS T B w) w w'
section
variable {T : TypeId → Prop}
theorem TMod.refl (B : Nat) (w : World) : TMod T B w w := Mod.refl _ _
theorem TMod.of_below {B : Nat} {w w1 : World} (h : Below w.heap.size w w1) : TMod T B w w1 := Mod.of_below h
theorem TMod.trans {B : Nat} {w w1 w2 : World} (h : TMod T B w w1) (h2 : TMod T B w1 w2) : TMod T B w w2 :=
  ⟨h2.os.trans h.os, h2.tape.trans h.tape, h2.output.trans h.output, Nat.le_trans h.size h2.size, fun i hi hs => by
    have e1 := h.block i hi hs
    refine (h2.block i (Nat.lt_of_lt_of_le hi h.size) (fun hS => hs ?_)).trans e1
    obtain ⟨hb, cs, t, fr, hc, ht⟩ := hS
    exact ⟨hb, cs, t, fr, by rw [← e1]; exact hc, ht⟩⟩
theorem TMod.below {B : Nat} {w0 w w1 : World} (h : TMod T B w w1) (hb : Below B w0 w) (hB : B ≤ w.heap.size) : Below B w0 w1 :=
  Below.mod hb hB h (fun i hi hS => absurd hS.1 (Nat.not_le.2 hi))
theorem TMod.drewN {B : Nat} {w w1 : World} (h : TMod T B w w1) (n : Nat) : TMod T B w (w1.drewN n) := Mod.drewN h n
theorem TMod.mono {T' : TypeId → Prop} {B : Nat} {w w1 : World} (h : TMod T B w w1) (hT : ∀ t, T t → T' t) : TMod T' B w w1 :=
  Mod.mono h (fun i _ hS => by obtain ⟨hb, cs, t, fr, hc, ht⟩ := hS; exact ⟨hb, cs, t, fr, hc, hT t ht⟩)
theorem TMod.set {B : Nat} {w : World} {r : Nat} {cs : Array Value} {t : TypeId} (hb : w.heap[r]? = some (.cells cs t (0, 0))) (hB : B ≤ r) (ht : T t) (i : Nat) (u : Value) : TMod T B w (w.setCell ⟨r, i, none⟩ u) :=
  Mod.setCell (p := ⟨r, i, none⟩) (Mod.refl _ _) (fun _ => ⟨hB, cs, t, _, hb, ht⟩) u
theorem TMod.grown {B : Nat} {w w1 : World} {v : Value} {n : Nat} {xs : List Value} (hg : w.grownBy w1 v.ownBlock) (ho : w.ownsRow B 5 1 v n xs) (h5 : T 5) : TMod T B w w1 :=
  Mod.of_grown hg (fun g hgv => by
    obtain ⟨cs, hc⟩ := own_typed ho g hgv
    exact ⟨own_base ho g hgv, cs, 5, _, hc, h5⟩)
/-- A block of another type is as it was. -/
theorem TMod.blk {B : Nat} {w w1 : World} {k : Nat} {cs : Array Value} {t : TypeId} {fr : Nat × Nat} (h : TMod T B w w1) (hk : w.heap[k]? = some (.cells cs t fr)) (ht : ¬ T t) : w1.heap[k]? = some (.cells cs t fr) :=
  (h.block k (Array.getElem?_eq_some_iff.1 hk).1 (fun hS => by
    obtain ⟨_, cs', t', fr', hc, hT⟩ := hS
    rw [hk] at hc
    injection hc with hc
    injection hc with _ hc _
    subst hc
    exact ht hT)).trans hk
end
def WrT (t : TypeId) : Prop := t = 296 ∨ t = 5
def EncT (t : TypeId) : Prop := t = 292 ∨ WrT t
def WMod (B : Nat) (w w' : World) : Prop := TMod WrT B w w'
def EMod (B : Nat) (w w' : World) : Prop := TMod EncT B w w'
theorem WMod.refl (B : Nat) (w : World) : WMod B w w := TMod.refl _ _
theorem WMod.trans {B : Nat} {w w1 w2 : World} (h : WMod B w w1) (h2 : WMod B w1 w2) : WMod B w w2 := TMod.trans h h2
theorem WMod.drewN {B : Nat} {w w1 : World} (h : WMod B w w1) (n : Nat) : WMod B w (w1.drewN n) := Mod.drewN h n
theorem WMod.enc {B : Nat} {w w1 : World} (h : WMod B w w1) : EMod B w w1 := TMod.mono h (fun _ => Or.inr)
theorem EMod.refl (B : Nat) (w : World) : EMod B w w := TMod.refl _ _
theorem EMod.trans {B : Nat} {w w1 w2 : World} (h : EMod B w w1) (h2 : EMod B w1 w2) : EMod B w w2 := TMod.trans h h2
theorem EMod.of_below {B : Nat} {w w1 : World} (h : Below w.heap.size w w1) : EMod B w w1 := Mod.of_below h
theorem EMod.below {B : Nat} {w0 w w1 : World} (h : EMod B w w1) (hb : Below B w0 w) (hB : B ≤ w.heap.size) : Below B w0 w1 := TMod.below h hb hB

/-- A writer in block r: what it holds so far, and how much it may hold. -/
def WrAt (B : Nat) (w : World) (r : Nat) (v : Value) (out : List Int) (most : Nat) : Prop :=
  w.heap[r]? = some (.cells #[v, .int .i64 most] 296 (0, 0)) ∧ w.ownsRow B 5 1 v out.length (nums .u8 out) ∧ B ≤ r ∧ out.length ≤ most ∧ most ≤ 1048576
theorem WrAt.ne {B : Nat} {w : World} {r : Nat} {v : Value} {out : List Int} {most : Nat} (h : WrAt B w r v out most) : some r ≠ v.ownBlock := own_ne h.2.1 h.1 (by decide)
theorem WrAt.mod {B : Nat} {w w1 : World} {r : Nat} {v : Value} {out : List Int} {most : Nat} {S : Nat → Prop} (h : WrAt B w r v out most) (hm : Mod S w w1) (hg : ¬ S r) (hv : ∀ k, v.ownBlock = some k → ¬ S k) : WrAt B w1 r v out most :=
  ⟨blk_mod h.1 hm hg, own_move h.2.1 (fun k hk => hm.block k (own_lt h.2.1 k hk) (hv k hk)), h.2.2⟩
theorem WrAt.below {B : Nat} {w w1 : World} {r : Nat} {v : Value} {out : List Int} {most : Nat} (h : WrAt B w r v out most) (hb : Below w.heap.size w w1) : WrAt B w1 r v out most :=
  h.mod (S := fun _ => False) (Mod.of_below hb) (by simp) (by simp)

/-- The byte of place i of a number, and its n lowest bytes, the highest first. -/
def byteAt (u : Int) (i : Nat) : Int := IntKind.u8.wrap (u / 2 ^ (8 * i))
def beL (u : Int) : Nat → List Int
  | 0 => []
  | n + 1 => byteAt u n :: beL u n
theorem beL_length (u : Int) : ∀ n, (beL u n).length = n
  | 0 => rfl
  | n + 1 => by simp [beL, beL_length u n]

/-- What an append and the store behind it make of the writer. -/
theorem WrAt.grow {B : Nat} {w w1 : World} {r : Nat} {v v1 : Value} {out out1 : List Int} {most : Nat} (h : WrAt B w r v out most) (hg : w.grownBy w1 v.ownBlock) (ho : w1.ownsRow B 5 1 v1 out1.length (nums .u8 out1)) (hat : v1.ownBlock = v.ownBlock ∨ ∃ b, v1.ownBlock = some b ∧ w.heap.size ≤ b) (hl : out1.length ≤ most) : WrAt B (w1.setCell ⟨r, 0, none⟩ v1) r v1 out1 most ∧ WMod B w (w1.setCell ⟨r, 0, none⟩ v1) := by
  have hb : w1.heap[r]? = some (.cells #[v, .int .i64 most] 296 (0, 0)) := (hg.block r (blk_lt h.1) h.ne).trans h.1
  have hne : some r ≠ v1.ownBlock := own_ne ho hb (by decide)
  refine ⟨⟨by simpa using blk_set hb 0 v1, own_setCell ho hne _, h.2.2.1, hl, h.2.2.2.2⟩, WMod.trans (TMod.grown hg h.2.1 (Or.inr rfl)) (TMod.set hb h.2.2.1 (Or.inl rfl) 0 v1)⟩

set_option maxHeartbeats 400000 in
theorem wr_room (B : Nat) (w : World) (r : Nat) (v : Value) (out : List Int) (most : Nat) (h : WrAt B w r v out most) :
    Calls Tryz.prog 204 #[.pointer (some ⟨r, 0, none⟩)] w fun e w' => e = .returned (.int .i64 ((most : Int) - out.length)) ∧ ∃ k, w' = w.drewN k := by
  obtain ⟨hb, ho, hp, hl, hm⟩ := h
  obtain ⟨A, c, rfl⟩ := own_slice ho
  have c0 := blk_cell hb 0
  have c1 := blk_cell hb 1
  simp at c0 c1
  go_enter Tryz.func204, Tryz.ntmps204
  go_wp2
  go_quiet (fail)
  go_wp2
  go_ret
  exact ⟨rfl, _, rfl⟩

/-- The writer's word for what happened, and what it holds then. -/
def WrPost (B r most : Nat) (c : Int) (out : List Int) (w : World) (e : Ending) (w' : World) : Prop := e = .returned (.int .i64 c) ∧ ∃ v', WrAt B w' r v' out most ∧ WMod B w w'

theorem wr_number_full (B : Nat) (w : World) (r : Nat) (v : Value) (out : List Int) (most : Nat) (u : Int) (n : Nat) (h : WrAt B w r v out most) (hn : n ≤ 8) (hf : most < out.length + n) :
    Calls Tryz.prog 203 #[.pointer (some ⟨r, 0, none⟩), .int .u64 u, .int .i64 n] w (WrPost B r most 10 out w) := by
  have hlt : decide ((most : Int) - out.length < n) = true := by simp; omega
  have hl := h.2.2.2.1
  have hm := h.2.2.2.2
  go_enter Tryz.func203, Tryz.ntmps203
  go_wp2_with fail
  refine (wr_room B w r v out most h).mono ?_
  rintro e w' ⟨rfl, k, rfl⟩
  go_wp2
  go_ret
  exact ⟨rfl, v, h.mod (S := fun _ => False) ((Mod.refl _ _).drewN _) (by simp) (by simp), (WMod.refl _ _).drewN _⟩

set_option maxRecDepth 100000 in
set_option maxHeartbeats 3200000 in
theorem wr_number (B : Nat) (w : World) (r : Nat) (v : Value) (out : List Int) (most : Nat) (u : Int) (n : Nat) (h : WrAt B w r v out most) (hn : n ≤ 8) (hf : out.length + n ≤ most) :
    Calls Tryz.prog 203 #[.pointer (some ⟨r, 0, none⟩), .int .u64 u, .int .i64 n] w (WrPost B r most 0 (out ++ beL u n) w) := by
  have hlt : decide ((most : Int) - out.length < n) = false := by simp; omega
  have hl := h.2.2.2.1
  have hm := h.2.2.2.2
  go_enter Tryz.func203, Tryz.ntmps203
  go_wp2_with fail
  refine (wr_room B w r v out most h).mono ?_
  rintro e w' ⟨rfl, k, rfl⟩
  go_wp2_with fail
  go_loopg [7] n (fun gk v7 wr => ∃ (cur : List Int) (A : Option Addr) (c : Nat), v7 = .int .i64 ((gk : Int) - 1) ∧ Hid (cur.length + gk = out.length + n) ∧ gk ≤ n ∧ WrAt B wr r (.slice A cur.length c) cur most ∧ WMod B w wr ∧ Hid (cur ++ beL u gk = out ++ beL u n))
  case atStart =>
    obtain ⟨A, c, rfl⟩ := own_slice h.2.1
    exact ⟨out, A, c, rfl, rfl, Nat.le_refl _, h.mod (S := fun _ => False) ((Mod.refl _ _).drewN _) (by simp) (by simp), (WMod.refl _ _).drewN _, rfl⟩
  case round =>
    obtain ⟨cur, A, c, rfl, hlen, hgk, hw, hmo, heq⟩ := hrel
    by_cases hp : 0 < gk
    · obtain ⟨j, rfl⟩ : ∃ j, gk = j + 1 := ⟨gk - 1, by omega⟩
      have hb := hw.1
      have c0 := blk_cell hb 0
      simp at c0
      have hlt2 := blk_lt hb
      have s0 : (0 : Int) ≤ 8 * (j : Int) := by omega
      have s1 : 8 * (j : Int) ≤ 64 := by omega
      have s2 : IntKind.i64.wrap (8 * (j : Int)) = 8 * (j : Int) := by simp [IntKind.wrap, IntKind.bits, IntKind.signed]; omega
      have s3 : ((8 : Int) * (j : Int)).toNat = 8 * j := by omega
      go_wp2_with fail
      have hoD : (wr.drew).ownsRow B 5 1 (.slice A cur.length c) cur.length (nums .u8 cur) := hw.2.1
      have hbD : B ≤ (wr.drew).heap.size := by simp; have := hw.2.2.1; omega
      have hrD : r < (wr.drew).heap.size := hlt2
      have hszD : (cur.length + 1) * 1 ≤ 140737488355328 := by have := hw.2.2.2.1; omega
      have cD : (wr.drew).cell? ⟨r, 0, none⟩ = some (.slice A cur.length c) := c0
      have fD : (wr.drew).frozen? ⟨r, 0, none⟩ = false := blk_frozen hb 0
      have hne := hw.ne
      go_region_law ((refine step_append_cells (w0 := wr.drew) (W := wr.drew) B (by rfl) (.tmp 22) (.tmp 28) 22 5 (.int .u8 0) 1 1 (by rfl) Tryz.underlying22 info5 rfl (by decide) (by decide) (.slice A cur.length c) cur.length (nums .u8 cur) [.int .u8 (byteAt u j)] (by rfl) (by rfl) rfl (by simp [Value.oneCell']) hoD (Below.refl _ _) hbD hszD ?_); intro v1 w1 ho1 hb1 hg1 hat1; obtain ⟨A1, q1, rfl⟩ := own_slice ho1; have c1 := (hg1.cell_far ⟨r, 0, none⟩ hrD hne).trans cD; have f1 := (hg1.frozen_far ⟨r, 0, none⟩ hrD hne).trans fD)
      all_goals
        have hW := hw.grow (w1 := w1) (v1 := .slice A1 (cur.length + 1) q1) (out1 := cur ++ [byteAt u j]) ⟨hg1.os, hg1.tape, hg1.output, hg1.size, hg1.block⟩ (by simpa [nums] using ho1) hat1 (by simp; have := hlen.out; omega)
        have HS := Lib.hid hW
        clear hW
        go_wp2
        go_roundg j
        case measure => omega
        case rel => exact ⟨cur ++ [byteAt u j], A1, q1, by go_num, Lib.hid (by have := hlen.out; simp; omega), by omega, by simpa using HS.out.1, hmo.trans HS.out.2, Lib.hid (by rw [← heq.out]; simp [beL])⟩
    · obtain rfl : gk = 0 := by omega
      go_wp2
      go_ret
      exact ⟨rfl, _, by simpa [beL] using (show WrAt B wr r (.slice A cur.length c) (out ++ beL u n) most from by rw [← heq.out]; simpa [beL] using hw), hmo⟩

end Go.Proofs.YteckmgmcfngddaaGreat
end

section
/- The cursor's writer: numbers, rows of bytes, what it holds, a new one. -/
set_option linter.unusedVariables false
set_option linter.unusedSimpArgs false
namespace Go.Proofs.YteckmgmcfngddaaGreat
open Go.RowKit Go.Proofs.YteckmgmcfngddaaGreatW.PrintWords

/-- All of the bytes, or none: the word, and what is held then. -/
def putB (out : List Int) (most : Nat) (bs : List Int) : Int × List Int := if out.length + bs.length ≤ most then (0, out ++ bs) else (10, out)
theorem putB_fit {out bs : List Int} {most : Nat} (h : out.length + bs.length ≤ most) : putB out most bs = (0, out ++ bs) := if_pos h
theorem putB_full {out bs : List Int} {most : Nat} (h : ¬ out.length + bs.length ≤ most) : putB out most bs = (10, out) := if_neg h
/-- What the methods' posts say. -/
def PutPost (B r most : Nat) (p : Int × List Int) (w : World) (e : Ending) (w' : World) : Prop := WrPost B r most p.1 p.2 w e w'

theorem wr_num (B : Nat) (w : World) (r : Nat) (v : Value) (out : List Int) (most : Nat) (u : Int) (n : Nat) (h : WrAt B w r v out most) (hn : n ≤ 8) :
    Calls Tryz.prog 203 #[.pointer (some ⟨r, 0, none⟩), .int .u64 u, .int .i64 n] w (PutPost B r most (putB out most (beL u n)) w) := by
  by_cases hf : out.length + (beL u n).length ≤ most
  · rw [putB_fit hf]
    rw [beL_length] at hf
    exact wr_number B w r v out most u n h hn hf
  · rw [putB_full hf]
    rw [beL_length] at hf
    exact wr_number_full B w r v out most u n h hn (by omega)

theorem wr_i8 (B : Nat) (w : World) (r : Nat) (v : Value) (out : List Int) (most : Nat) (x : Int) (h : WrAt B w r v out most) :
    Calls Tryz.prog 193 #[.pointer (some ⟨r, 0, none⟩), .int .i8 x] w (PutPost B r most (putB out most (beL (IntKind.u64.wrap x) 1)) w) := by
  go_enter Tryz.func193, Tryz.ntmps193
  go_wp2_with fail
  refine (wr_num B w r v out most (IntKind.u64.wrap x) 1 h (by omega)).mono ?_
  rintro e w' ⟨rfl, h2⟩
  go_wp2
  go_ret
  exact ⟨rfl, h2⟩

theorem wr_i16 (B : Nat) (w : World) (r : Nat) (v : Value) (out : List Int) (most : Nat) (x : Int) (h : WrAt B w r v out most) :
    Calls Tryz.prog 147 #[.pointer (some ⟨r, 0, none⟩), .int .i16 x] w (PutPost B r most (putB out most (beL (IntKind.u64.wrap x) 2)) w) := by
  go_enter Tryz.func147, Tryz.ntmps147
  go_wp2_with fail
  refine (wr_num B w r v out most (IntKind.u64.wrap x) 2 h (by omega)).mono ?_
  rintro e w' ⟨rfl, h2⟩
  go_wp2
  go_ret
  exact ⟨rfl, h2⟩

theorem wr_i32 (B : Nat) (w : World) (r : Nat) (v : Value) (out : List Int) (most : Nat) (x : Int) (h : WrAt B w r v out most) :
    Calls Tryz.prog 148 #[.pointer (some ⟨r, 0, none⟩), .int .i32 x] w (PutPost B r most (putB out most (beL (IntKind.u64.wrap x) 4)) w) := by
  go_enter Tryz.func148, Tryz.ntmps148
  go_wp2_with fail
  refine (wr_num B w r v out most (IntKind.u64.wrap x) 4 h (by omega)).mono ?_
  rintro e w' ⟨rfl, h2⟩
  go_wp2
  go_ret
  exact ⟨rfl, h2⟩

theorem wr_i64 (B : Nat) (w : World) (r : Nat) (v : Value) (out : List Int) (most : Nat) (x : Int) (h : WrAt B w r v out most) :
    Calls Tryz.prog 190 #[.pointer (some ⟨r, 0, none⟩), .int .i64 x] w (PutPost B r most (putB out most (beL (IntKind.u64.wrap x) 8)) w) := by
  go_enter Tryz.func190, Tryz.ntmps190
  go_wp2_with fail
  refine (wr_num B w r v out most (IntKind.u64.wrap x) 8 h (by omega)).mono ?_
  rintro e w' ⟨rfl, h2⟩
  go_wp2
  go_ret
  exact ⟨rfl, h2⟩

theorem wr_bytes (B : Nat) (w : World) (r : Nat) (v : Value) (out : List Int) (most : Nat) (h : WrAt B w r v out most) :
    Calls Tryz.prog 86 #[.pointer (some ⟨r, 0, none⟩)] w fun e w' => ∃ v, e = .returned v ∧ w'.ownsRow w.heap.size 5 1 v out.length (nums .u8 out) ∧ Below w.heap.size w w' := by
  have hl : out.length ≤ 140737488355328 := by have := h.2.2.2.1; have := h.2.2.2.2; omega
  obtain ⟨A, c, rfl⟩ := own_slice h.2.1
  have c0 := blk_cell h.1 0
  simp at c0
  have hrd := Lib.hid (own_reads' h.2.1)
  go_enter Tryz.func86, Tryz.ntmps86
  go_wp2_with fail
  refine (clone_any w A out.length c out hrd.out hl).mono ?_
  rintro e w' ⟨v', rfl, h2, h3⟩
  have H2 := Lib.hid h2
  clear h2
  go_wp2
  go_ret
  exact ⟨_, rfl, H2.out, h3⟩

theorem info_Writer : (Tryz.prog.info? 296).map (fun i => (i.zero, i.size)) = some (some (.agg #[.slice none 0 0, .int .i64 0]), 2) := by kernel_rfl
theorem newWriter (w : World) (most : Nat) (hm : most ≤ 1048576) :
    Calls Tryz.prog 84 #[.int .i64 most] w fun e w' => e = .returned (.pointer (some ⟨w.heap.size, 0, none⟩)) ∧ WrAt w.heap.size w' w.heap.size (.slice none 0 0) [] most ∧ Below w.heap.size w w' := by
  have hm1 : max (most : Int) 0 = most := by omega
  have hm2 : min (most : Int) 1048576 = most := by omega
  go_enter Tryz.func84, Tryz.ntmps84
  go_wp2
  go_ret
  exact ⟨rfl, ⟨by simpa using blk_new w _, own_nil _ _ _ _, Nat.le_refl _, Nat.zero_le _, hm⟩, (Below.refl _ _).alloc (Nat.le_refl _) _⟩


section
variable {P : Program} {ops : Array Oper} {o : Oper} {a : Act} {Q : Exit → Act → World → Prop} {K : Act → World → Prop}
/-- append of a row that is read, as one step of a region that draws its order (after print_append_row of the print's words). -/
theorem step_append_row {W : World} (base : Nat) (hw : Region.wanted o (yielded ops a.tmps) = true) (s x : Operand) (t e : TypeId) (k : IntKind) (bytes : Nat)
    (ho : o.op = .call { callee := .builtin .append, args := #[s, x], argTypes := #[t, t] })
    (ht : P.underlying t = some (.slice e)) (hinfo : (P.info? e).map (fun i => (i.zero, i.size, i.bytes)) = some (some (.int k 0), 1, bytes)) (hb0 : 0 < bytes)
    (v : Value) (xs ys : List Int) (A : Option Addr) (m c : Nat) (hs : a.eval s = v) (hx : a.eval x = .slice A m c)
    (HO : W.ownsRow base e 1 v xs.length (nums k xs)) (HR : ReadsInt W k A m ys) (hbase : base ≤ W.heap.size) (hl : (xs.length + m) * bytes ≤ 140737488355328)
    (h : ∀ v1 w1, w1.ownsRow base e 1 v1 (xs ++ ys).length (nums k (xs ++ ys)) → W.grownBy w1 v.ownBlock → (v1.ownBlock = v.ownBlock ∨ ∃ b, v1.ownBlock = some b ∧ W.heap.size ≤ b) → K (a.put o.dst v1) w1) :
    if Region.wanted o (yielded ops a.tmps) = true then Oper.wp P o a W K Q else K (a.put o.dst undef) W := by
  obtain ⟨i0, hi, hzz⟩ := Option.map_eq_some_iff.1 hinfo
  simp only [Prod.mk.injEq] at hzz
  obtain ⟨hz0, hz1, hz2⟩ := hzz
  have hm : ys.length = m := HR.1
  have hlen : xs.length + m ≤ 140737488355328 := Nat.le_trans (Nat.le_mul_of_pos_right _ hb0) hl
  have hrun : ∃ v1 w1, (Builtin.append_ #[t, t] o.type #[v, .slice A m c]).run P W = .ok v1 w1 ∧ w1.ownsRow base e 1 v1 (xs ++ ys).length (nums k (xs ++ ys)) ∧ W.grownBy w1 v.ownBlock ∧ (v1.ownBlock = v.ownBlock ∨ v1.ownBlock = some W.heap.size) := by
    rcases A with _ | ad
    · have h0 : m = 0 := by
        rcases Nat.eq_zero_or_pos m with h0 | h0
        · exact h0
        · obtain ⟨ad, h, _⟩ := HR.2.2 h0
          cases h
      subst h0
      obtain rfl : ys = [] := List.eq_nil_of_length_eq_zero hm
      refine ⟨v, W, ?_, by simpa using HO, World.grownBy.refl W _, .inl rfl⟩
      rcases HO.2 with ⟨rfl, hn⟩ | ⟨g, cap, cur, rfl, _, _, hnc, _⟩
      · simp [Builtin.append_, run_underlying ht, sizeOf, typeInfo, hi, Builtin.lenOf, Builtin.firstCells]
      · simp [Builtin.append_, run_underlying ht, sizeOf, typeInfo, hi, Builtin.lenOf, Builtin.firstCells, hnc, storeCells]
    · have hcells : ∀ j u, (nums k ys)[j]? = some u → W.cell? (ad.add j) = some u := by
        intro j u hu
        have hj : j < ys.length := by
          rcases Nat.lt_or_ge j ys.length with h | h
          · exact h
          · simp [nums, List.getElem?_eq_none h] at hu
        obtain ⟨ad', h', hc⟩ := HR.2.2 (by omega)
        injection h' with h'
        subst h'
        have := hc j (by omega)
        simp [nums, List.getElem?_eq_getElem hj] at hu
        subst hu
        rw [this]
        simp [List.getD_eq_getElem?_getD, List.getElem?_eq_getElem hj]
      obtain ⟨v1, w1, hr, h2, h3, _, h5⟩ := run_append_own_at (P := P) W base t o.type e i0 (.int k 0) 1 bytes ht hi hz0 hz1 hz2 rfl (by omega) v xs.length (nums k xs) HO ad m c (nums k ys) (by simp [nums, hm]) hcells
        (by intro u hu; simp only [nums, List.mem_map] at hu; obtain ⟨q, _, rfl⟩ := hu; rfl) (by simp only [maxLen]; omega) hl hbase
      exact ⟨v1, w1, hr, by simpa [nums, hm] using h2, h3, h5⟩
  obtain ⟨v1, w1, hr, hown, hg, hat⟩ := hrun
  rw [if_pos hw]
  unfold Oper.wp execOp
  simp only [ho, resolve, invoke, builtin, Sem.run_bind, Sem.run_pure, Result.andThen_ok, List.map_toArray, List.map_cons, List.map_nil, hs, hx, hr]
  refine h v1 w1 hown hg ?_
  rcases hat with hat | hat
  · exact .inl hat
  · exact .inr ⟨_, hat, Nat.le_refl _⟩
end

set_option maxRecDepth 100000 in
set_option maxHeartbeats 3200000 in
/-- Raw of one row. -/
theorem wr_raw (B : Nat) (w : World) (r : Nat) (v : Value) (out : List Int) (most : Nat) (pb : Nat) (A : Option Addr) (c : Nat) (xs : List Int) (h : WrAt B w r v out most)
    (hp : w.cell? ⟨pb, 0, none⟩ = some (.slice A xs.length c)) (hx : ReadsInt w .u8 A xs.length xs) (hxl : xs.length ≤ 140737488355328) :
    Calls Tryz.prog 149 #[.pointer (some ⟨r, 0, none⟩), .slice (some ⟨pb, 0, none⟩) 1 1] w (PutPost B r most (putB out most xs) w) := by
  have hl := h.2.2.2.1
  have hm := h.2.2.2.2
  go_enter Tryz.func149, Tryz.ntmps149
  go_wp2_with fail
  go_loopg [5, 12] 1 (fun gk v5 v12 wr => wr = w ∧ v12 = .int .i64 (1 - gk : Nat) ∧ gk ≤ 1 ∧ v5 = .int .i64 (if gk = 0 then (xs.length : Int) else 0))
  case atStart => exact ⟨rfl, rfl, Nat.le_refl _, rfl⟩
  case round =>
    obtain ⟨rfl, rfl, hgk, rfl⟩ := hrel
    by_cases hp0 : gk = 0
    · subst hp0
      go_wp2_with fail
      refine (wr_room B wr r v out most h).mono ?_
      rintro e w' ⟨rfl, k, rfl⟩
      by_cases hf : out.length + xs.length ≤ most
      · have HQ := Lib.hid (putB_fit hf)
        have hlt : decide ((xs.length : Int) > (most : Int) - out.length) = false := by simp; omega
        have h1 : WrAt B (wr.drewN k) r v out most := h.mod (S := fun _ => False) ((Mod.refl _ _).drewN _) (by simp) (by simp)
        have m1 : WMod B wr (wr.drewN k) := (WMod.refl _ _).drewN _
        have hp1 : (wr.drewN k).cell? ⟨pb, 0, none⟩ = some (.slice A xs.length c) := hp
        have hx1 : ReadsInt (wr.drewN k) .u8 A xs.length xs := hx
        generalize wr.drewN k = w2 at *
        clear hp hx
        have Hx := Lib.hid hx1
        clear hx1
        go_wp2_with fail
        go_loopg [27] 1 (fun gk v27 w3 => (gk = 1 ∧ v27 = .int .i64 0 ∧ w3 = w2) ∨ (gk = 0 ∧ v27 = .int .i64 1 ∧ ∃ v', WrAt B w3 r v' (out ++ xs) most ∧ WMod B w2 w3))
        case atStart => exact Or.inl ⟨rfl, rfl, rfl⟩
        case round =>
          rcases hrel with ⟨rfl, rfl, rfl⟩ | ⟨rfl, rfl, v', hw', hm'⟩
          · obtain ⟨A0, q0, rfl⟩ := own_slice h1.2.1
            have hbD : B ≤ wr.heap.size := by have := h1.2.2.1; have := blk_lt h1.1; omega
            have hszD : (out.length + xs.length) * 1 ≤ 140737488355328 := by omega
            have c0 := blk_cell h1.1 0
            simp at c0
            have f0 : wr.frozen? ⟨r, 0, none⟩ = false := blk_frozen h1.1 0
            have hrD : r < wr.heap.size := blk_lt h1.1
            have hne := h1.ne
            go_wp2_with (at_builtin; refine print_append_row (w0 := wr) B rfl (.tmp 35) (.tmp 36) 22 5 .u8 1 rfl Tryz.underlying22 info5 (by decide) (.slice A0 out.length q0) out xs A xs.length c rfl rfl h1.2.1 Hx.out (Below.refl _ _) hbD hszD ?_; intro v1 w1 ho1 hb1 hg1 hat1; obtain ⟨A1, q1, rfl⟩ := own_slice ho1; have c1 := (hg1.cell_far ⟨r, 0, none⟩ hrD hne).trans c0; have f1 := (hg1.frozen_far ⟨r, 0, none⟩ hrD hne).trans f0)
            have HS := Lib.hid (h1.grow (w1 := w1) (v1 := .slice A1 (out ++ xs).length q1) (out1 := out ++ xs) hg1 ho1 hat1 (by rw [List.length_append]; exact hf))
            go_roundg 0
            case measure => omega
            case rel =>
              rw [← List.length_append]
              exact Or.inr ⟨rfl, rfl, _, HS.out.1, HS.out.2⟩
          · go_wp2
            go_ret
            unfold PutPost
            rw [HQ.out]
            exact ⟨rfl, _, hw', m1.trans hm'⟩
      · have HQ := Lib.hid (putB_full hf)
        have hlt : decide ((xs.length : Int) > (most : Int) - out.length) = true := by simp; omega
        go_wp2
        go_ret
        unfold PutPost
        rw [HQ.out]
        exact ⟨rfl, v, h.mod (S := fun _ => False) ((Mod.refl _ _).drewN _) (by simp) (by simp), (WMod.refl _ _).drewN _⟩
    · obtain rfl : gk = 1 := by omega
      go_wp2
      go_roundg 0
      case measure => omega
      case rel => exact ⟨rfl, rfl, by omega, by simp⟩

end Go.Proofs.YteckmgmcfngddaaGreat
end

section
/- The wire's writer of fields: its state, the first error, numbers. -/
set_option linter.unusedVariables false
set_option linter.unusedSimpArgs false
namespace Go.Proofs.YteckmgmcfngddaaGreat
open Go.RowKit Go.Proofs.YteckmgmcfngddaaGreatW.PrintWords

/-- A writer of fields: what is written, the version, the first error, did something not fit? -/
structure ES where
  out : List Int
  v : Int
  e : Int
  full : Bool

def EncAt (B : Nat) (w : World) (p : Nat) (s : ES) : Prop :=
  B ≤ p ∧ ∃ r q, w.heap[p]? = some (.cells #[.pointer (some ⟨r, 0, none⟩), .int .i64 s.v, .int .i64 s.e, .bool s.full] 292 (0, 0)) ∧ WrAt B w r q s.out 130048
/-- What a method without results leaves. -/
def EncPost (B p : Nat) (s : ES) (w : World) (e : Ending) (w' : World) : Prop := e = .returned (.tuple #[]) ∧ EncAt B w' p s ∧ EMod B w w'

theorem EncAt.mod {B : Nat} {w w1 : World} {p : Nat} {s : ES} {S : Nat → Prop} (h : EncAt B w p s) (hm : Mod S w w1) (hS : ∀ k, TS EncT B w k → ¬ S k) : EncAt B w1 p s := by
  obtain ⟨hB, r, q, hb, hw⟩ := h
  exact ⟨hB, r, q, blk_mod hb hm (hS p ⟨hB, _, _, _, hb, Or.inl rfl⟩), hw.mod hm (hS r ⟨hw.2.2.1, _, _, _, hw.1, Or.inr (Or.inl rfl)⟩) (fun k hk => by
    obtain ⟨cs, hc⟩ := own_typed hw.2.1 k hk
    exact hS k ⟨own_base hw.2.1 k hk, cs, 5, _, hc, Or.inr (Or.inr rfl)⟩)⟩
theorem EncAt.drewN {B : Nat} {w : World} {p : Nat} {s : ES} (h : EncAt B w p s) (n : Nat) : EncAt B (w.drewN n) p s := h
theorem EncAt.grown {B : Nat} {w w1 : World} {p : Nat} {s : ES} (h : EncAt B w p s) (hb : Below w.heap.size w w1) : EncAt B w1 p s :=
  h.mod (S := fun _ => False) (Mod.of_below hb) (fun _ _ => id)
/-- A store into a block of another type. -/
theorem EncAt.far {B : Nat} {w : World} {p : Nat} {s : ES} (h : EncAt B w p s) {k : Nat} {cs : Array Value} {t : TypeId} (hk : w.heap[k]? = some (.cells cs t (0, 0))) (h1 : t ≠ 292) (h2 : t ≠ 296) (h3 : t ≠ 5) (i : Nat) (u : Value) :
    EncAt B (w.setCell ⟨k, i, none⟩ u) p s :=
  h.mod (S := fun x => x = k) (Mod.setCell (S := fun x => x = k) (p := ⟨k, i, none⟩) (Mod.refl _ _) (fun _ => rfl) u) (fun x hx e => by
    subst e
    obtain ⟨_, cs', t', fr, hc, ht⟩ := hx
    rw [hk] at hc
    injection hc with hc
    injection hc with _ hc
    subst hc
    rcases ht with e | e | e
    · exact h1 e
    · exact h2 e
    · exact h3 e)
/-- A store into the encoder's own cells 2 (the error) and 3 (full). -/
theorem EncAt.set2 {B : Nat} {w : World} {p : Nat} {s : ES} (h : EncAt B w p s) (c : Int) : EncAt B (w.setCell ⟨p, 2, none⟩ (.int .i64 c)) p { s with e := c } ∧ EMod B w (w.setCell ⟨p, 2, none⟩ (.int .i64 c)) := by
  obtain ⟨hB, r, q, hb, hw⟩ := h
  have hm : EMod B w _ := TMod.set hb hB (Or.inl rfl) 2 (.int .i64 c)
  refine ⟨⟨hB, r, q, by simpa using blk_set hb 2 (.int .i64 c), hw.mod (S := fun x => x = p) (Mod.setCell (S := fun x => x = p) (p := ⟨p, 2, none⟩) (Mod.refl _ _) (fun _ => rfl) _) (fun e => ?_) (fun k hk e => ?_)⟩, hm⟩
  · exact (blk_ne hw.1 hb (by decide)) e
  · subst e
    exact own_ne hw.2.1 hb (by decide) hk.symm
theorem EncAt.set3 {B : Nat} {w : World} {p : Nat} {s : ES} (h : EncAt B w p s) (c : Bool) : EncAt B (w.setCell ⟨p, 3, none⟩ (.bool c)) p { s with full := c } ∧ EMod B w (w.setCell ⟨p, 3, none⟩ (.bool c)) := by
  obtain ⟨hB, r, q, hb, hw⟩ := h
  have hm : EMod B w _ := TMod.set hb hB (Or.inl rfl) 3 (.bool c)
  refine ⟨⟨hB, r, q, by simpa using blk_set hb 3 (.bool c), hw.mod (S := fun x => x = p) (Mod.setCell (S := fun x => x = p) (p := ⟨p, 3, none⟩) (Mod.refl _ _) (fun _ => rfl) _) (fun e => ?_) (fun k hk e => ?_)⟩, hm⟩
  · exact (blk_ne hw.1 hb (by decide)) e
  · subst e
    exact own_ne hw.2.1 hb (by decide) hk.symm

def ES.fail (c : Int) (s : ES) : ES := if s.e = 0 then { s with e := c } else s
theorem enc_fail (B : Nat) (w : World) (p : Nat) (s : ES) (c : Int) (h : EncAt B w p s) :
    Calls Tryz.prog 184 #[.pointer (some ⟨p, 0, none⟩), .int .i64 c] w (EncPost B p (s.fail c) w) := by
  have H := Lib.hid (h.set2 c)
  have H0 := Lib.hid h
  obtain ⟨hB, r, q, hb, hw⟩ := h
  have c2 := blk_cell hb 2
  have f2 := blk_frozen hb 2
  simp at c2
  by_cases he : s.e = 0
  · have he' : (s.e == 0) = true := by simp [he]
    have hs : s.fail c = { s with e := c } := if_pos he
    rw [hs]
    clear he hs hb hw
    go_enter Tryz.func184, Tryz.ntmps184
    go_wp2
    ((try simp only [Exit.inBlock, Exit.then]); first | refine bodyPost_end (results_none rfl _ _ _) rfl ?_ | refine bodyPost_ret (results_none rfl _ _ _) rfl ?_ | fail)
    exact ⟨rfl, H.out.1, H.out.2⟩
  · have he' : (s.e == 0) = false := by simp [he]
    have hs : s.fail c = s := if_neg he
    rw [hs]
    clear he hs hb hw
    go_enter Tryz.func184, Tryz.ntmps184
    go_wp2
    ((try simp only [Exit.inBlock, Exit.then]); first | refine bodyPost_end (results_none rfl _ _ _) rfl ?_ | refine bodyPost_ret (results_none rfl _ _ _) rfl ?_ | fail)
    exact ⟨rfl, H0.out, EMod.refl _ _⟩

def ES.has (s : ES) (lo hi : Int) : Bool := decide (lo ≤ s.v) && decide (s.v ≤ hi)
theorem enc_has (B : Nat) (w : World) (p : Nat) (s : ES) (lo hi : Int) (h : EncAt B w p s) :
    Calls Tryz.prog 72 #[.pointer (some ⟨p, 0, none⟩), .int .i64 lo, .int .i64 hi] w fun e w' => e = .returned (.bool (s.has lo hi)) ∧ w' = w := by
  obtain ⟨hB, r, q, hb, hw⟩ := h
  have c1 := blk_cell hb 1
  simp at c1
  by_cases h1 : lo ≤ s.v
  · have h1' : decide (lo ≤ s.v) = true := by simp [h1]
    by_cases h2 : s.v ≤ hi
    · have h2' : decide (s.v ≤ hi) = true := by simp [h2]
      have e1 : s.has lo hi = true := by simp [ES.has, h1, h2]
      rw [e1]
      clear e1 h1 h2
      go_enter Tryz.func72, Tryz.ntmps72
      go_wp2
      go_ret
      exact ⟨rfl, rfl⟩
    · have h2' : decide (s.v ≤ hi) = false := by simp [h2]
      have e1 : s.has lo hi = false := by simp [ES.has, h1, h2]
      rw [e1]
      clear e1 h1 h2
      go_enter Tryz.func72, Tryz.ntmps72
      go_wp2
      go_ret
      exact ⟨rfl, rfl⟩
  · have h1' : decide (lo ≤ s.v) = false := by simp [h1]
    have e1 : s.has lo hi = false := by simp [ES.has, h1]
    rw [e1]
    clear e1 h1
    go_enter Tryz.func72, Tryz.ntmps72
    go_wp2
    go_ret
    exact ⟨rfl, rfl⟩

def ES.lacks (z : Bool) (lo hi : Int) (s : ES) : ES := if z = false ∧ (s.v < lo ∨ s.v > hi) then s.fail 7 else s
theorem enc_lacks (B : Nat) (w : World) (p : Nat) (s : ES) (z : Bool) (lo hi : Int) (h : EncAt B w p s) :
    Calls Tryz.prog 71 #[.pointer (some ⟨p, 0, none⟩), .bool z, .int .i64 lo, .int .i64 hi] w (EncPost B p (s.lacks z lo hi) w) := by
  have H0 := Lib.hid h
  obtain ⟨hB, r, q, hb, hw⟩ := h
  have c1 := blk_cell hb 1
  simp at c1
  clear hb hw
  cases z with
  | true =>
    have e1 : s.lacks true lo hi = s := if_neg (by simp)
    rw [e1]
    go_enter Tryz.func71, Tryz.ntmps71
    go_wp2
    ((try simp only [Exit.inBlock, Exit.then]); first | refine bodyPost_end (results_none rfl _ _ _) rfl ?_ | refine bodyPost_ret (results_none rfl _ _ _) rfl ?_ | fail)
    exact ⟨rfl, H0.out, EMod.refl _ _⟩
  | false =>
    by_cases h1 : s.v < lo
    · have h1' : decide (s.v < lo) = true := by simp [h1]
      have e1 : s.lacks false lo hi = s.fail 7 := if_pos ⟨rfl, Or.inl h1⟩
      rw [e1]
      clear e1 h1
      go_enter Tryz.func71, Tryz.ntmps71
      go_wp2_with fail
      refine (enc_fail B w p s 7 H0.out).mono ?_
      rintro e w' ⟨rfl, h2, m2⟩
      go_wp2
      ((try simp only [Exit.inBlock, Exit.then]); first | refine bodyPost_end (results_none rfl _ _ _) rfl ?_ | refine bodyPost_ret (results_none rfl _ _ _) rfl ?_ | fail)
      exact ⟨rfl, h2, m2⟩
    · have h1' : decide (s.v < lo) = false := by simp [h1]
      by_cases h2 : s.v > hi
      · have h2' : decide (s.v > hi) = true := by simpa using h2
        have e1 : s.lacks false lo hi = s.fail 7 := if_pos ⟨rfl, Or.inr h2⟩
        rw [e1]
        clear e1 h1 h2
        go_enter Tryz.func71, Tryz.ntmps71
        go_wp2_with fail
        refine (enc_fail B w p s 7 H0.out).mono ?_
        rintro e w' ⟨rfl, h2, m2⟩
        go_wp2
        ((try simp only [Exit.inBlock, Exit.then]); first | refine bodyPost_end (results_none rfl _ _ _) rfl ?_ | refine bodyPost_ret (results_none rfl _ _ _) rfl ?_ | fail)
        exact ⟨rfl, h2, m2⟩
      · have h2' : decide (s.v > hi) = false := by simpa using h2
        have e1 : s.lacks false lo hi = s := if_neg (by rintro ⟨_, h | h⟩ <;> omega)
        rw [e1]
        clear e1 h1 h2
        go_enter Tryz.func71, Tryz.ntmps71
        go_wp2
        ((try simp only [Exit.inBlock, Exit.then]); first | refine bodyPost_end (results_none rfl _ _ _) rfl ?_ | refine bodyPost_ret (results_none rfl _ _ _) rfl ?_ | fail)
        exact ⟨rfl, H0.out, EMod.refl _ _⟩

def ES.note (c : Int) (s : ES) : ES := { s with full := s.full || c != 0 }
theorem enc_noted (B : Nat) (w : World) (p : Nat) (s : ES) (c : Int) (h : EncAt B w p s) :
    Calls Tryz.prog 185 #[.pointer (some ⟨p, 0, none⟩), .int .i64 c] w (EncPost B p (s.note c) w) := by
  have H := fun b => Lib.hid (h.set3 b)
  obtain ⟨hB, r, q, hb, hw⟩ := h
  have c3 := blk_cell hb 3
  have f3 := blk_frozen hb 3
  simp at c3
  clear hb hw
  cases hf : s.full with
  | true =>
    have e1 : s.note c = { s with full := true } := by unfold ES.note; rw [hf]; rfl
    rw [e1]
    rw [hf] at c3
    clear e1 hf
    go_enter Tryz.func185, Tryz.ntmps185
    go_wp2
    ((try simp only [Exit.inBlock, Exit.then]); first | refine bodyPost_end (results_none rfl _ _ _) rfl ?_ | refine bodyPost_ret (results_none rfl _ _ _) rfl ?_ | fail)
    exact ⟨rfl, (H true).out.1, (H true).out.2⟩
  | false =>
    have e1 : s.note c = { s with full := c != 0 } := by unfold ES.note; rw [hf]; rfl
    rw [e1]
    rw [hf] at c3
    clear e1 hf
    go_enter Tryz.func185, Tryz.ntmps185
    go_wp2
    ((try simp only [Exit.inBlock, Exit.then]); first | refine bodyPost_end (results_none rfl _ _ _) rfl ?_ | refine bodyPost_ret (results_none rfl _ _ _) rfl ?_ | fail)
    exact ⟨rfl, (H _).out.1, (H _).out.2⟩

/-- Bytes go out: all, or none and a mark. -/
def ES.put (bs : List Int) (s : ES) : ES := { s with out := (putB s.out 130048 bs).2, full := s.full || (putB s.out 130048 bs).1 != 0 }
theorem ES.put_eq (bs : List Int) (s : ES) : s.put bs = ({ s with out := (putB s.out 130048 bs).2 } : ES).note (putB s.out 130048 bs).1 := rfl
theorem EncAt.wrote {B : Nat} {w1 : World} {p : Nat} {s : ES} {r : Nat} {q : Value} {out : List Int} (hB : B ≤ p) (hb : w1.heap[p]? = some (.cells #[.pointer (some ⟨r, 0, none⟩), .int .i64 s.v, .int .i64 s.e, .bool s.full] 292 (0, 0))) (hw : WrAt B w1 r q out 130048) : EncAt B w1 p { s with out := out } :=
  ⟨hB, r, q, hb, hw⟩
theorem encNo : ¬ WrT 292 := by unfold WrT; decide

def ES.i8 (x : Int) (s : ES) : ES := s.put (beL (IntKind.u64.wrap x) 1)
theorem enc_i8 (B : Nat) (w : World) (p : Nat) (s : ES) (x : Int) (h : EncAt B w p s) :
    Calls Tryz.prog 102 #[.pointer (some ⟨p, 0, none⟩), .int .i8 x] w (EncPost B p (s.i8 x) w) := by
  obtain ⟨hB, r, q, hb, hw⟩ := h
  have c0 := blk_cell hb 0
  simp at c0
  have e1 : s.i8 x = _ := ES.put_eq _ s
  rw [e1]
  clear e1
  go_enter Tryz.func102, Tryz.ntmps102
  go_wp2_with fail
  refine (wr_i8 B w r q s.out 130048 x hw).mono ?_
  rintro e w1 ⟨rfl, q1, hw1, m1⟩
  have H1 := EncAt.wrote hB (TMod.blk m1 hb encNo) hw1
  have M1 := m1.enc
  clear hb hw hw1 m1
  generalize (putB s.out 130048 (beL (IntKind.u64.wrap x) 1)) = pb at *
  go_wp2_with fail
  refine (enc_noted B w1 p _ pb.1 H1).mono ?_
  rintro e w2 ⟨rfl, h2, m2⟩
  go_wp2
  ((try simp only [Exit.inBlock, Exit.then]); first | refine bodyPost_end (results_none rfl _ _ _) rfl ?_ | refine bodyPost_ret (results_none rfl _ _ _) rfl ?_ | fail)
  exact ⟨rfl, h2, M1.trans m2⟩

def ES.i16 (x : Int) (s : ES) : ES := s.put (beL (IntKind.u64.wrap x) 2)
theorem enc_i16 (B : Nat) (w : World) (p : Nat) (s : ES) (x : Int) (h : EncAt B w p s) :
    Calls Tryz.prog 74 #[.pointer (some ⟨p, 0, none⟩), .int .i16 x] w (EncPost B p (s.i16 x) w) := by
  obtain ⟨hB, r, q, hb, hw⟩ := h
  have c0 := blk_cell hb 0
  simp at c0
  have e1 : s.i16 x = _ := ES.put_eq _ s
  rw [e1]
  clear e1
  go_enter Tryz.func74, Tryz.ntmps74
  go_wp2_with fail
  refine (wr_i16 B w r q s.out 130048 x hw).mono ?_
  rintro e w1 ⟨rfl, q1, hw1, m1⟩
  have H1 := EncAt.wrote hB (TMod.blk m1 hb encNo) hw1
  have M1 := m1.enc
  clear hb hw hw1 m1
  generalize (putB s.out 130048 (beL (IntKind.u64.wrap x) 2)) = pb at *
  go_wp2_with fail
  refine (enc_noted B w1 p _ pb.1 H1).mono ?_
  rintro e w2 ⟨rfl, h2, m2⟩
  go_wp2
  ((try simp only [Exit.inBlock, Exit.then]); first | refine bodyPost_end (results_none rfl _ _ _) rfl ?_ | refine bodyPost_ret (results_none rfl _ _ _) rfl ?_ | fail)
  exact ⟨rfl, h2, M1.trans m2⟩

def ES.i32 (x : Int) (s : ES) : ES := s.put (beL (IntKind.u64.wrap x) 4)
theorem enc_i32 (B : Nat) (w : World) (p : Nat) (s : ES) (x : Int) (h : EncAt B w p s) :
    Calls Tryz.prog 75 #[.pointer (some ⟨p, 0, none⟩), .int .i32 x] w (EncPost B p (s.i32 x) w) := by
  obtain ⟨hB, r, q, hb, hw⟩ := h
  have c0 := blk_cell hb 0
  simp at c0
  have e1 : s.i32 x = _ := ES.put_eq _ s
  rw [e1]
  clear e1
  go_enter Tryz.func75, Tryz.ntmps75
  go_wp2_with fail
  refine (wr_i32 B w r q s.out 130048 x hw).mono ?_
  rintro e w1 ⟨rfl, q1, hw1, m1⟩
  have H1 := EncAt.wrote hB (TMod.blk m1 hb encNo) hw1
  have M1 := m1.enc
  clear hb hw hw1 m1
  generalize (putB s.out 130048 (beL (IntKind.u64.wrap x) 4)) = pb at *
  go_wp2_with fail
  refine (enc_noted B w1 p _ pb.1 H1).mono ?_
  rintro e w2 ⟨rfl, h2, m2⟩
  go_wp2
  ((try simp only [Exit.inBlock, Exit.then]); first | refine bodyPost_end (results_none rfl _ _ _) rfl ?_ | refine bodyPost_ret (results_none rfl _ _ _) rfl ?_ | fail)
  exact ⟨rfl, h2, M1.trans m2⟩

def ES.i64 (x : Int) (s : ES) : ES := s.put (beL (IntKind.u64.wrap x) 8)
theorem enc_i64 (B : Nat) (w : World) (p : Nat) (s : ES) (x : Int) (h : EncAt B w p s) :
    Calls Tryz.prog 96 #[.pointer (some ⟨p, 0, none⟩), .int .i64 x] w (EncPost B p (s.i64 x) w) := by
  obtain ⟨hB, r, q, hb, hw⟩ := h
  have c0 := blk_cell hb 0
  simp at c0
  have e1 : s.i64 x = _ := ES.put_eq _ s
  rw [e1]
  clear e1
  go_enter Tryz.func96, Tryz.ntmps96
  go_wp2_with fail
  refine (wr_i64 B w r q s.out 130048 x hw).mono ?_
  rintro e w1 ⟨rfl, q1, hw1, m1⟩
  have H1 := EncAt.wrote hB (TMod.blk m1 hb encNo) hw1
  have M1 := m1.enc
  clear hb hw hw1 m1
  generalize (putB s.out 130048 (beL (IntKind.u64.wrap x) 8)) = pb at *
  go_wp2_with fail
  refine (enc_noted B w1 p _ pb.1 H1).mono ?_
  rintro e w2 ⟨rfl, h2, m2⟩
  go_wp2
  ((try simp only [Exit.inBlock, Exit.then]); first | refine bodyPost_end (results_none rfl _ _ _) rfl ?_ | refine bodyPost_ret (results_none rfl _ _ _) rfl ?_ | fail)
  exact ⟨rfl, h2, M1.trans m2⟩

end Go.Proofs.YteckmgmcfngddaaGreat
end

section
/- The wire's writer of fields: texts, names, blobs, its beginning and end. -/
set_option linter.unusedVariables false
set_option linter.unusedSimpArgs false
namespace Go.Proofs.YteckmgmcfngddaaGreat
open Go.RowKit Go.Proofs.YteckmgmcfngddaaGreatW.PrintWords

theorem strOfNums_bytesOf (s : ByteArray) : strOfNums (bytesOf s) = s := by
  unfold strOfNums bytesOf
  rw [List.map_map]
  have h2 : (List.map ((fun n : Int => UInt8.ofNat n.toNat) ∘ fun b : UInt8 => (b.toNat : Int)) s.data.toList) = List.map id s.data.toList := List.map_congr_left (fun b _ => by simp)
  rw [h2, List.map_id]

/-- Raw of one row, the list of parts just made. -/
theorem wr_raw_new (B : Nat) (w : World) (r : Nat) (v : Value) (out : List Int) (most : Nat) (T : TypeId) (A : Option Addr) (c : Nat) (xs : List Int) (h : WrAt B w r v out most) (hx : ReadsInt w .u8 A xs.length xs) (hxl : xs.length ≤ 140737488355328) :
    Calls Tryz.prog 149 #[.pointer (some ⟨r, 0, none⟩), .slice (some ⟨w.heap.size, 0, none⟩) 1 1] (w.alloc (.cells #[.slice A xs.length c] T)) (PutPost B r most (putB out most xs) (w.alloc (.cells #[.slice A xs.length c] T))) :=
  wr_raw B _ r v out most w.heap.size A c xs (h.below ((Below.refl _ _).alloc (Nat.le_refl _) _)) (by simp [blk_cell (blk_new w (.cells #[.slice A xs.length c] T)) 0]) (hx.below ((Below.refl _ _).alloc (Nat.le_refl _) _)) hxl

def ES.str (s : ByteArray) (x : ES) : ES := if utfS s = false then x.fail 6 else if s.size > 255 then x.fail 4 else (x.i16 s.size).put (bytesOf s)
theorem ES.str_bad {s : ByteArray} {x : ES} (h : utfS s = false) : x.str s = x.fail 6 := if_pos h
theorem ES.str_long {s : ByteArray} {x : ES} (h : utfS s = true) (h2 : s.size > 255) : x.str s = x.fail 4 := by unfold ES.str; rw [if_neg (by simp [h]), if_pos h2]
theorem ES.str_ok {s : ByteArray} {x : ES} (h : utfS s = true) (h2 : ¬ s.size > 255) : x.str s = (x.i16 s.size).put (bytesOf s) := by unfold ES.str; rw [if_neg (by simp [h]), if_neg h2]

set_option maxRecDepth 100000 in
set_option maxHeartbeats 3200000 in
theorem enc_str (B : Nat) (w : World) (p : Nat) (x : ES) (s : ByteArray) (h : EncAt B w p x) (hs : s.size ≤ 140737488355328) :
    Calls Tryz.prog 78 #[.pointer (some ⟨p, 0, none⟩), .string s] w (EncPost B p (x.str s) w) := by
  have kb := fun W => print_bytes (P := Tryz.prog) 9 22 5 Tryz.underlying9 Tryz.underlying22 Tryz.underlying5 s W
  have hB : B ≤ w.heap.size := by obtain ⟨hB, r, q, hb, _⟩ := h; have := blk_lt hb; omega
  have hb1 : Below w.heap.size w (Lib.bytesWorld w 5 s) := bytes_below (Below.refl _ _) (Nat.le_refl _) 5 s
  have hr1 := Lib.hid (bytes_reads w 5 s (by omega))
  have h1 := h.grown hb1
  have m1 : EMod B w (Lib.bytesWorld w 5 s) := EMod.of_below hb1
  have hlen := bytesOf_length s
  have hut : utfB (bytesOf s) = utfS s := by unfold utfB; rw [strOfNums_bytesOf]
  go_enter Tryz.func78, Tryz.ntmps78
  go_wp2_with fail
  rw [← hlen]
  refine (utf_any (Lib.bytesWorld w 5 s) _ _ (bytesOf s) (by rw [hlen]; exact hr1.out) (by omega)).mono ?_
  rintro e w1 ⟨⟨i, rfl⟩, hb2⟩
  rw [hut]
  have h2 := h1.grown hb2
  have m2 : EMod B w w1 := m1.trans (EMod.of_below hb2)
  clear h1 m1 hr1 hb1 hb2 hut h
  generalize hu : utfS s = u
  cases u with
  | false =>
    have HQ := Lib.hid (ES.str_bad (x := x) hu)
    clear hu
    go_wp2_with fail
    refine (enc_fail B w1 p x 6 h2).mono ?_
    rintro e w2 ⟨rfl, h3, m3⟩
    go_wp2
    ((try simp only [Exit.inBlock, Exit.then]); first | refine bodyPost_end (results_none rfl _ _ _) rfl ?_ | refine bodyPost_ret (results_none rfl _ _ _) rfl ?_ | fail)
    rw [HQ.out]
    exact ⟨rfl, h3, m2.trans m3⟩
  | true =>
    by_cases hl : (s.size : Int) > 255
    · have hl' : decide ((s.size : Int) > 255) = true := by simpa using hl
      have HQ := Lib.hid (ES.str_long (x := x) hu (by omega))
      clear hu hl
      go_wp2_with fail
      refine (enc_fail B w1 p x 4 h2).mono ?_
      rintro e w2 ⟨rfl, h3, m3⟩
      go_wp2
      ((try simp only [Exit.inBlock, Exit.then]); first | refine bodyPost_end (results_none rfl _ _ _) rfl ?_ | refine bodyPost_ret (results_none rfl _ _ _) rfl ?_ | fail)
      rw [HQ.out]
      exact ⟨rfl, h3, m2.trans m3⟩
    · have hl' : decide ((s.size : Int) > 255) = false := by simpa using hl
      have HQ := Lib.hid (ES.str_ok (x := x) hu (by omega))
      have hsz : s.size ≤ 255 := by omega
      have s2 : IntKind.i16.wrap (s.size : Int) = s.size := by simp [IntKind.wrap, IntKind.bits, IntKind.signed]; omega
      clear hu hl
      go_wp2_with fail
      refine (enc_i16 B w1 p x s.size h2).mono ?_
      rintro e w2 ⟨rfl, h3, m3⟩
      obtain ⟨hB3, r, q, hb3, hw3⟩ := h3
      have c0 := blk_cell hb3 0
      simp at c0
      go_wp2_with fail
      have hb4 : Below w2.heap.size w2 (Lib.bytesWorld w2 5 s) := bytes_below (Below.refl _ _) (Nat.le_refl _) 5 s
      have hr4 := Lib.hid (bytes_reads w2 5 s (by omega))
      have hw4 := hw3.below hb4
      have hbp4 := blk_mod (S := fun _ => False) hb3 (Mod.of_below hb4) (by simp)
      have m4 : EMod B w (Lib.bytesWorld w2 5 s) := (m2.trans m3).trans (EMod.of_below hb4)
      clear c0 hb3 hw3 hb4
      generalize Lib.bytesWorld w2 5 s = w4 at *
      rw [← hlen]
      refine (wr_raw_new B w4 r q _ 130048 _ _ _ (bytesOf s) hw4 (by rw [hlen]; exact hr4.out) (by omega)).mono ?_
      rintro e w5 ⟨rfl, q1, hw5, m5⟩
      have hbp5 := TMod.blk m5 (blk_old hbp4 _) encNo
      have H5 := EncAt.wrote hB3 hbp5 hw5
      have M5 : EMod B w w5 := m4.trans (EMod.trans (EMod.of_below ((Below.refl _ _).alloc (Nat.le_refl _) _)) m5.enc)
      clear hw4 hbp4 hbp5 hw5 m5 m4 hr4
      go_wp2_with fail
      refine (enc_noted B w5 p _ _ H5).mono ?_
      rintro e w6 ⟨rfl, h6, m6⟩
      go_wp2
      ((try simp only [Exit.inBlock, Exit.then]); first | refine bodyPost_end (results_none rfl _ _ _) rfl ?_ | refine bodyPost_ret (results_none rfl _ _ _) rfl ?_ | fail)
      rw [HQ.out, ES.put_eq]
      exact ⟨rfl, h6, M5.trans m6⟩

end Go.Proofs.YteckmgmcfngddaaGreat
end

section
/- Words for the layer of calls: whole structs into and out of blocks; the reader's methods over its state; head; client. -/
set_option linter.unusedVariables false
set_option linter.unusedSimpArgs false
namespace Go.Proofs.YteckmgmcfngddaaGreat
open Go.RowKit Go.Proofs.YteckmgmcfngddaaGreatW.PrintWords

/-- The values laid into a row from a place on. -/
def putAt (cs : Array Value) : Nat → List Value → Array Value
  | _, [] => cs
  | o, v :: r => putAt (cs.setIfInBounds o v) (o + 1) r
theorem blk_setCells : ∀ (vs : List Value) (o : Nat) {w : World} {g : Nat} {cs : Array Value} {t : TypeId}, w.heap[g]? = some (.cells cs t (0, 0)) → (w.setCells g o vs).heap[g]? = some (.cells (putAt cs o vs) t (0, 0))
  | [], _, _, _, _, _, h => h
  | v :: r, o, _, _, _, _, h => blk_setCells r (o + 1) (blk_set h o v)
theorem mod_setCells : ∀ (vs : List Value) (o : Nat) (w : World) (g : Nat), Mod (· = g) w (w.setCells g o vs)
  | [], _, _, _ => Mod.refl _ _
  | v :: r, o, w, g => by
    have h1 : Mod (· = g) w (w.setCell ⟨g, o, none⟩ v) := Mod.setCell (S := fun x => x = g) (p := ⟨g, o, none⟩) (Mod.refl _ _) (fun _ => rfl) v
    exact h1.trans (mod_setCells r (o + 1) (w.setCell ⟨g, o, none⟩ v) g)
section
variable {P : Program} {ops : Array Oper} {rest : List Oper} {o : Oper} {a : Act} {Q : Exit → Act → World → Prop}
/-- A whole value goes into a block that is known. -/
theorem mid_event {W : World} (hgd : o.guard = none) (ty : TypeId) (x y : Operand) (ho : o.op = .store ty x y) (hd : o.dst = none) (g off : Nat) (cs cells : Array Value) (t : TypeId)
    (hx : a.eval x = .pointer (some ⟨g, off, none⟩)) (hy : a.eval y = .agg cells) (hb : W.heap[g]? = some (.cells cs t (0, 0))) (hle : off + cells.size ≤ cs.size)
    (hi : (P.info? ty).map (·.size) = some cells.size) (h1 : cells.all (·.oneCell') = true)
    (h : ∀ w1, w1.heap[g]? = some (.cells (putAt cs off cells.toList) t (0, 0)) → Mod (· = g) W w1 → wpList P ops Q rest a w1) : wpList P ops Q (o :: rest) a W := by
  refine wpList_store_mid hgd ty x y ho g off cells hx hy (fun j hj => ?_) hi h1 ?_
  · refine ⟨?_, blk_frozen hb _⟩
    rw [blk_cell hb]
    simp
    omega
  · rw [hd]
    exact h _ (blk_setCells cells.toList off hb) (mod_setCells _ _ _ _)
/-- A whole value comes out of a block that is known. -/
theorem load_event {W : World} (hgd : o.guard = none) (ty : TypeId) (x : Operand) (ho : o.op = .load ty x) (g : Nat) (cs : Array Value) (t : TypeId) (d : TypeDesc)
    (hx : a.eval x = .pointer (some ⟨g, 0, none⟩)) (hb : W.heap[g]? = some (.cells cs t (0, 0))) (hu : P.underlying ty = some d) (hr : d.isRow = true) (hi : (P.info? ty).map (·.size) = some cs.size)
    (h : wpList P ops Q rest (a.put o.dst (.agg cs)) W) : wpList P ops Q (o :: rest) a W := by
  refine wpList_load_mid hgd ty x ho g 0 hx cs.toList d (fun j v hv => ?_) hu hr (by simpa using hi) (by simpa using h)
  rw [blk_cell hb]
  simpa using hv
end

/-- The reader's methods, over the state of a reader of fields that met no error. -/
def RdPost (g : Nat) (rv : Value) (d : DS) (val : Value) (w : World) (e : Ending) (w' : World) : Prop := e = .returned (.tuple #[val, .int .i64 d.e]) ∧ RdAt w' g rv d.b d.pos ∧ Mod (· = g) w w'
theorem mod_rd (w : World) (g k : Nat) (u : Value) : Mod (· = g) w ((w.drewN k).setCell ⟨g, 1, none⟩ u) := Mod.setCell (S := fun x => x = g) (p := ⟨g, 1, none⟩) ((Mod.refl _ _).drewN k) (fun _ => rfl) u
theorem DS.i16_short {d : DS} (he : d.e = 0) (hn : d.b.length - d.pos < 2) : d.i16 = (0, { d with e := 1 }) := by unfold DS.i16 DS.num; rw [if_neg (by simpa using he), if_pos hn]
theorem DS.i16_ok {d : DS} (he : d.e = 0) (hn : ¬ d.b.length - d.pos < 2) : d.i16 = (IntKind.i16.wrap (beU ((d.b.drop d.pos).take 2)), { d with pos := d.pos + 2 }) := by unfold DS.i16 DS.num; rw [if_neg (by simpa using he), if_neg hn]
theorem DS.i32_short {d : DS} (he : d.e = 0) (hn : d.b.length - d.pos < 4) : d.i32 = (0, { d with e := 1 }) := by unfold DS.i32 DS.num; rw [if_neg (by simpa using he), if_pos hn]
theorem DS.i32_ok {d : DS} (he : d.e = 0) (hn : ¬ d.b.length - d.pos < 4) : d.i32 = (wrap32 (beU ((d.b.drop d.pos).take 4)), { d with pos := d.pos + 4 }) := by unfold DS.i32 DS.num; rw [if_neg (by simpa using he), if_neg hn]
theorem rs_i16 (w : World) (g : Nat) (rv : Value) (d : DS) (h : RdAt w g rv d.b d.pos) (he : d.e = 0) :
    Calls Tryz.prog 178 #[.pointer (some ⟨g, 0, none⟩)] w (RdPost g rv d.i16.2 (.int .i16 d.i16.1) w) := by
  by_cases hn : d.b.length - d.pos < 2
  · rw [DS.i16_short he hn]
    refine (rd_i16_short w g rv d.b d.pos h hn).mono ?_
    rintro e w' ⟨rfl, k, rfl⟩
    exact ⟨rfl, h.mod (S := fun _ => False) ((Mod.refl _ _).drewN k) (by simp) (by simp), (Mod.refl _ _).drewN k⟩
  · rw [DS.i16_ok he hn]
    refine (rd_i16 w g rv d.b d.pos h (by omega)).mono ?_
    rintro e w' ⟨rfl, k, rfl⟩
    exact ⟨by rw [he], h.set k (by simp) (by have := h.2.2.1; simp; omega), mod_rd w g k _⟩
theorem rs_i32 (w : World) (g : Nat) (rv : Value) (d : DS) (h : RdAt w g rv d.b d.pos) (he : d.e = 0) :
    Calls Tryz.prog 166 #[.pointer (some ⟨g, 0, none⟩)] w (RdPost g rv d.i32.2 (.int .i32 d.i32.1) w) := by
  by_cases hn : d.b.length - d.pos < 4
  · rw [DS.i32_short he hn]
    refine (rd_i32_short w g rv d.b d.pos h hn).mono ?_
    rintro e w' ⟨rfl, k, rfl⟩
    exact ⟨rfl, h.mod (S := fun _ => False) ((Mod.refl _ _).drewN k) (by simp) (by simp), (Mod.refl _ _).drewN k⟩
  · rw [DS.i32_ok he hn]
    refine (rd_i32 w g rv d.b d.pos h (by omega)).mono ?_
    rintro e w' ⟨rfl, k, rfl⟩
    exact ⟨by rw [he], h.set k (by simp) (by have := h.2.2.1; simp; omega), mod_rd w g k _⟩

/-- The first error of a key and a version. -/
def headF (key ver : Int) : Int := if key ≠ 0 ∧ key ≠ 1 ∧ key ≠ 2 then 160 else if ver < 0 ∨ ver > 3 then 8 else 0
theorem ca_head (w : World) (key ver : Int) :
    Calls Tryz.prog 144 #[.int .i16 key, .int .i16 ver] w fun e w' => e = .returned (.int .i64 (headF key ver)) ∧ w' = w := by
  have hF : ∀ k, headF key ver = k ↔ (if key ≠ 0 ∧ key ≠ 1 ∧ key ≠ 2 then (160 : Int) else if ver < 0 ∨ ver > 3 then 8 else 0) = k := fun k => Iff.rfl
  by_cases hk : key ≠ 0 ∧ key ≠ 1 ∧ key ≠ 2
  · have e1 : headF key ver = 160 := if_pos hk
    obtain ⟨k0, k1, k2⟩ := hk
    have k0' : (key != 0) = true := by simpa using k0
    have k1' : (key != 1) = true := by simpa using k1
    have k2' : (key != 2) = true := by simpa using k2
    rw [e1]
    clear e1 hF k0 k1 k2
    go_enter Tryz.func144, Tryz.ntmps144
    go_wp2
    go_ret
    exact ⟨rfl, rfl⟩
  · have e1 : headF key ver = if ver < 0 ∨ ver > 3 then 8 else 0 := if_neg hk
    rw [e1]
    have hk3 : key = 0 ∨ key = 1 ∨ key = 2 := by omega
    clear e1 hF hk
    by_cases hv : ver < 0
    · rw [if_pos (Or.inl hv)]
      have hv' : decide (ver < 0) = true := by simpa using hv
      clear hv
      rcases hk3 with rfl | rfl | rfl
      all_goals
        go_enter Tryz.func144, Tryz.ntmps144
        go_wp2
        go_ret
        exact ⟨rfl, rfl⟩
    · have hv' : decide (ver < 0) = false := by simpa using hv
      by_cases hv3 : ver > 3
      · rw [if_pos (Or.inr hv3)]
        have hv3' : decide (ver > 3) = true := by simpa using hv3
        clear hv hv3
        rcases hk3 with rfl | rfl | rfl
        all_goals
          go_enter Tryz.func144, Tryz.ntmps144
          go_wp2
          go_ret
          exact ⟨rfl, rfl⟩
      · rw [if_neg (by omega)]
        have hv3' : decide (ver > 3) = false := by simpa using hv3
        clear hv hv3
        rcases hk3 with rfl | rfl | rfl
        all_goals
          go_enter Tryz.func144, Tryz.ntmps144
          go_wp2
          go_ret
          exact ⟨rfl, rfl⟩

/-- The first error of a client's name. -/
def clientF (n : Name) : Int := if n.null = true ∧ n.s.toList.isEmpty = false then 70 else if utfS n.s = false then 6 else if n.s.size > 255 then 4 else 0
set_option maxRecDepth 100000 in
set_option maxHeartbeats 1600000 in
theorem ca_client (w : World) (n : Name) (hs : n.s.size ≤ 140737488355328) :
    Calls Tryz.prog 145 #[.agg #[.bool n.null, .string n.s]] w fun e w' => e = .returned (.int .i64 (clientF n)) ∧ Below w.heap.size w w' := by
  have kb := fun W => print_bytes (P := Tryz.prog) 9 22 5 Tryz.underlying9 Tryz.underlying22 Tryz.underlying5 n.s W
  have hlen := bytesOf_length n.s
  have hut : utfB (bytesOf n.s) = utfS n.s := by unfold utfB; rw [strOfNums_bytesOf]
  have hA := (Below.refl w.heap.size w).alloc (Nat.le_refl _) (.cells #[.bool n.null, .string n.s] 30)
  by_cases hz : n.null = true ∧ n.s.toList.isEmpty = false
  · have e1 : clientF n = 70 := if_pos hz
    rw [e1]
    obtain ⟨h1, h2⟩ := hz
    rw [h1] at hA
    rw [h1]
    clear e1
    go_enter Tryz.func145, Tryz.ntmps145
    go_wp2
    go_ret
    exact ⟨rfl, hA⟩
  · have e1 : clientF n = if utfS n.s = false then 6 else if n.s.size > 255 then 4 else 0 := if_neg hz
    have E1 := Lib.hid e1
    clear e1
    have hq0 : n.null = true → n.s.toList.isEmpty = true := fun hn => by
      cases hq : n.s.toList.isEmpty
      · exact absurd ⟨hn, hq⟩ hz
      · rfl
    have HU := Lib.hid (fun W => bytes_reads W 5 n.s (by omega))
    have HB : Hid (∀ W, Below W.heap.size W (Lib.bytesWorld W 5 n.s)) := Lib.hid (fun W => bytes_below (Below.refl _ _) (Nat.le_refl _) 5 n.s)
    have HL := Lib.hid hlen
    clear hz hA hlen
    cases hnn : n.null with
    | true =>
      have hq := hq0 hnn
      clear hq0
      go_enter Tryz.func145, Tryz.ntmps145
      go_wp2_with (first
        | ((with_reducible refine gate_dst (N := 1) rfl ?_); refine box_event ?hg (N := 1) ?hd (cs := #[.bool true, .string n.s]) (t := 30) ?hr ?_; (case hd => rfl); (case hg => rfl); (case hr => first | (go_simp; done) | (go_simp; rfl)); intro gb hgb w1 kgb bgb; have hg := Lib.hid kgb; have b0 := blk_cell hg.out 0; have b1 := blk_cell hg.out 1; simp at b0 b1; have HA := Lib.hid bgb; have hB2 := HB.out w1; have c1 : (Lib.bytesWorld w1 5 n.s).cell? ⟨gb, 1, none⟩ = some (.string n.s) := pw_cell_below hB2 b1; clear hgb kgb bgb)
        | fail)
      have hm : n.s.size = (bytesOf n.s).length := HL.out.symm
      rw [hm]
      refine (utf_any (Lib.bytesWorld w1 5 n.s) _ _ (bytesOf n.s) (by rw [← hm]; exact HU.out _) (by omega)).mono ?_
      rintro e w2 ⟨⟨i, rfl⟩, hb2⟩
      rw [← hm]
      have d1 : w2.cell? ⟨gb, 1, none⟩ = some (.string n.s) := pw_cell_below hb2 c1
      have HW := Lib.hid ((HA.out.trans (hB2.mono HA.out.size)).trans (hb2.mono (Nat.le_trans HA.out.size hB2.size)))
      clear b0 b1 c1 hB2 hb2 hm
      by_cases hu : utfS n.s = false
      · rw [show utfB (bytesOf n.s) = false from hut.trans hu]
        have E := Lib.hid (E1.out.trans (if_pos hu))
        clear hu hut
        go_wp2
        go_ret
        rw [E.out]
        exact ⟨rfl, HW.out⟩
      · rw [show utfB (bytesOf n.s) = true from hut.trans (by simpa using hu)]
        by_cases hl : (n.s.size : Int) > 255
        · have hl' : decide ((n.s.size : Int) > 255) = true := by simpa using hl
          have E := Lib.hid (show clientF n = 4 by rw [E1.out, if_neg hu, if_pos (by omega)])
          clear hl hu hut
          go_wp2
          go_ret
          rw [E.out]
          exact ⟨rfl, HW.out⟩
        · have hl' : decide ((n.s.size : Int) > 255) = false := by simpa using hl
          have E := Lib.hid (show clientF n = 0 by rw [E1.out, if_neg hu, if_neg (by omega)])
          clear hl hu hut
          go_wp2
          go_ret
          rw [E.out]
          exact ⟨rfl, HW.out⟩
    | false =>
      clear hq0
      go_enter Tryz.func145, Tryz.ntmps145
      go_wp2_with (first
        | ((with_reducible refine gate_dst (N := 1) rfl ?_); refine box_event ?hg (N := 1) ?hd (cs := #[.bool false, .string n.s]) (t := 30) ?hr ?_; (case hd => rfl); (case hg => rfl); (case hr => first | (go_simp; done) | (go_simp; rfl)); intro gb hgb w1 kgb bgb; have hg := Lib.hid kgb; have b0 := blk_cell hg.out 0; have b1 := blk_cell hg.out 1; simp at b0 b1; have HA := Lib.hid bgb; have hB2 := HB.out w1; have c1 : (Lib.bytesWorld w1 5 n.s).cell? ⟨gb, 1, none⟩ = some (.string n.s) := pw_cell_below hB2 b1; clear hgb kgb bgb)
        | fail)
      have hm : n.s.size = (bytesOf n.s).length := HL.out.symm
      rw [hm]
      refine (utf_any (Lib.bytesWorld w1 5 n.s) _ _ (bytesOf n.s) (by rw [← hm]; exact HU.out _) (by omega)).mono ?_
      rintro e w2 ⟨⟨i, rfl⟩, hb2⟩
      rw [← hm]
      have d1 : w2.cell? ⟨gb, 1, none⟩ = some (.string n.s) := pw_cell_below hb2 c1
      have HW := Lib.hid ((HA.out.trans (hB2.mono HA.out.size)).trans (hb2.mono (Nat.le_trans HA.out.size hB2.size)))
      clear b0 b1 c1 hB2 hb2 hm
      by_cases hu : utfS n.s = false
      · rw [show utfB (bytesOf n.s) = false from hut.trans hu]
        have E := Lib.hid (E1.out.trans (if_pos hu))
        clear hu hut
        go_wp2
        go_ret
        rw [E.out]
        exact ⟨rfl, HW.out⟩
      · rw [show utfB (bytesOf n.s) = true from hut.trans (by simpa using hu)]
        by_cases hl : (n.s.size : Int) > 255
        · have hl' : decide ((n.s.size : Int) > 255) = true := by simpa using hl
          have E := Lib.hid (show clientF n = 4 by rw [E1.out, if_neg hu, if_pos (by omega)])
          clear hl hu hut
          go_wp2
          go_ret
          rw [E.out]
          exact ⟨rfl, HW.out⟩
        · have hl' : decide ((n.s.size : Int) > 255) = false := by simpa using hl
          have E := Lib.hid (show clientF n = 0 by rw [E1.out, if_neg hu, if_neg (by omega)])
          clear hl hu hut
          go_wp2
          go_ret
          rw [E.out]
          exact ⟨rfl, HW.out⟩

end Go.Proofs.YteckmgmcfngddaaGreat
end

section
/- The layer of calls: a text or null is read. -/
set_option linter.unusedVariables false
set_option linter.unusedSimpArgs false
namespace Go.Proofs.YteckmgmcfngddaaGreat
open Go.RowKit Go.Proofs.YteckmgmcfngddaaGreatW.PrintWords

theorem RdAt.far {w : World} {g : Nat} {rv : Value} {b : List Int} {pos : Nat} (h : RdAt w g rv b pos) {k : Nat} {cs : Array Value} {t : TypeId} (hk : w.heap[k]? = some (.cells cs t (0, 0))) (h2 : t ≠ 288) (h3 : t ≠ 5) (i : Nat) (u : Value) : RdAt (w.setCell ⟨k, i, none⟩ u) g rv b pos :=
  ⟨blk_far h.1 (blk_ne h.1 hk h2.symm) u, own_setCell h.2.1 (own_ne h.2.1 hk h3.symm) u, h.2.2⟩
theorem RdAt.grown {w w1 : World} {g : Nat} {rv : Value} {b : List Int} {pos : Nat} (h : RdAt w g rv b pos) (hb : Below w.heap.size w w1) : RdAt w1 g rv b pos :=
  h.mod (S := fun _ => False) (Mod.of_below hb) (by simp) (by simp)
theorem rs_take (w : World) (g : Nat) (rv : Value) (d : DS) (n : Int) (h : RdAt w g rv d.b d.pos) (he : d.e = 0) (hn0 : 0 ≤ n) :
    Calls Tryz.prog 158 #[.pointer (some ⟨g, 0, none⟩), .int .i64 n] w fun e w' => ∃ A c, e = .returned (.tuple #[.slice A (d.take n).1.length c, .int .i64 (d.take n).2.e]) ∧ w'.ownsRow w.heap.size 5 1 (.slice A (d.take n).1.length c) (d.take n).1.length (nums .u8 (d.take n).1) ∧ RdAt w' g rv d.b (d.take n).2.pos ∧ Mod (· = g) w w' := by
  by_cases hn : (d.b.length : Int) - d.pos < n
  · rw [DS.take_short he hn0 hn]
    refine (rd_take_short w g rv d.b d.pos n h hn).mono ?_
    rintro e w' ⟨rfl, k, rfl⟩
    exact ⟨none, 0, rfl, own_nil _ _ _ _, h.mod (S := fun _ => False) ((Mod.refl _ _).drewN k) (by simp) (by simp), (Mod.refl _ _).drewN k⟩
  · rw [DS.take_ok he hn0 hn]
    obtain ⟨m, rfl⟩ : ∃ m : Nat, n = m := ⟨n.toNat, by omega⟩
    refine (rd_take w g rv d.b d.pos m h (by omega)).mono ?_
    rintro e w' ⟨v, rfl, ho, h2, hm⟩
    obtain ⟨A, c, rfl⟩ := own_slice ho
    exact ⟨A, c, by rw [he]; rfl, ho, h2, hm⟩

theorem below_undrew {w w1 : World} (h : Below w.drew.heap.size w.drew w1) : Below w.heap.size w w1 := ⟨h.os, h.tape, h.output, h.size, h.block⟩
theorem base_blkN {w w1 : World} {g : Nat} {o : Obj} (h : Below w.drew.heap.size w.drew w1) (hg : w.heap[g]? = some o) : w1.heap[g]? = some o := (h.block g (blk_lt hg)).trans hg
theorem far_cell {w : World} {b i g j : Nat} {u : Value} (h : b ≠ g) : (w.setCell ⟨g, j, none⟩ u).cell? ⟨b, i, none⟩ = w.cell? ⟨b, i, none⟩ := World.cell?_setCell_other _ _ _ _ (fun e => h (by injection e with e; exact e.symm))
theorem DS.take_le (d : DS) (n : Int) : (d.take n).1.length ≤ n.toNat := by
  unfold DS.take
  split
  · simp
  · split
    · simp
    · split
      · simp
      · simp; omega
def zName : Name := ⟨false, ⟨#[]⟩⟩
def callName (d : DS) : Name × DS :=
  if d.i16.2.e ≠ 0 then (zName, d.i16.2) else if d.i16.1 = -1 then (⟨true, ⟨#[]⟩⟩, d.i16.2) else if d.i16.1 < 0 then (zName, { d.i16.2 with e := 5 })
  else if d.i16.1 > 255 then (zName, { d.i16.2 with e := 4 }) else if (d.i16.2.take d.i16.1).2.e ≠ 0 then (zName, (d.i16.2.take d.i16.1).2)
  else (⟨false, strOfNums (d.i16.2.take d.i16.1).1⟩, { (d.i16.2.take d.i16.1).2 with e := clientF ⟨false, strOfNums (d.i16.2.take d.i16.1).1⟩ })
theorem callName1 {d : DS} (h : d.i16.2.e ≠ 0) : callName d = (zName, d.i16.2) := if_pos h
theorem callName2 {d : DS} (h : d.i16.2.e = 0) (h1 : d.i16.1 = -1) : callName d = (⟨true, ⟨#[]⟩⟩, d.i16.2) := by unfold callName; rw [if_neg (by simpa using h), if_pos h1]
theorem callName3 {d : DS} (h : d.i16.2.e = 0) (h1 : ¬ d.i16.1 = -1) (h2 : d.i16.1 < 0) : callName d = (zName, { d.i16.2 with e := 5 }) := by unfold callName; rw [if_neg (by simpa using h), if_neg h1, if_pos h2]
theorem callName4 {d : DS} (h : d.i16.2.e = 0) (h1 : ¬ d.i16.1 = -1) (h2 : ¬ d.i16.1 < 0) (h3 : d.i16.1 > 255) : callName d = (zName, { d.i16.2 with e := 4 }) := by unfold callName; rw [if_neg (by simpa using h), if_neg h1, if_neg h2, if_pos h3]
theorem callName5 {d : DS} (h : d.i16.2.e = 0) (h1 : ¬ d.i16.1 = -1) (h2 : ¬ d.i16.1 < 0) (h3 : ¬ d.i16.1 > 255) (h4 : (d.i16.2.take d.i16.1).2.e ≠ 0) : callName d = (zName, (d.i16.2.take d.i16.1).2) := by unfold callName; rw [if_neg (by simpa using h), if_neg h1, if_neg h2, if_neg h3, if_pos h4]
theorem callName6 {d : DS} (h : d.i16.2.e = 0) (h1 : ¬ d.i16.1 = -1) (h2 : ¬ d.i16.1 < 0) (h3 : ¬ d.i16.1 > 255) (h4 : (d.i16.2.take d.i16.1).2.e = 0) : callName d = (⟨false, strOfNums (d.i16.2.take d.i16.1).1⟩, { (d.i16.2.take d.i16.1).2 with e := clientF ⟨false, strOfNums (d.i16.2.take d.i16.1).1⟩ }) := by unfold callName; rw [if_neg (by simpa using h), if_neg h1, if_neg h2, if_neg h3, if_neg (by simpa using h4)]

def NmPost (g : Nat) (rv : Value) (r : Name × DS) (w : World) (e : Ending) (w' : World) : Prop :=
  e = .returned (.tuple #[.agg #[.bool r.1.null, .string r.1.s], .int .i64 r.2.e]) ∧ RdAt w' g rv r.2.b r.2.pos ∧ Mod (· = g) w w'

set_option maxRecDepth 100000 in
set_option maxHeartbeats 6400000 in
theorem ca_name (w : World) (g : Nat) (rv : Value) (d : DS) (h : RdAt w g rv d.b d.pos) (he : d.e = 0) :
    Calls Tryz.prog 208 #[.pointer (some ⟨g, 0, none⟩)] w (NmPost g rv (callName d) w) := by
  obtain ⟨r0, r1⟩ := d.i16_range
  have H := Lib.hid h
  clear h
  go_enter Tryz.func208, Tryz.ntmps208
  go_wp2_with (first
    | ((with_reducible refine gate_dst (N := 2) rfl ?_); refine box_event ?hg (N := 2) ?hd (cs := #[.bool false, .string ⟨#[]⟩]) (t := 30) ?hr ?_; (case hd => rfl); (case hg => rfl); (case hr => first | (go_simp; done) | (go_simp; rfl)); intro gb hgb w1 kgb bgb; have hg := Lib.hid kgb; have HB := Lib.hid bgb; have HR := Lib.hid (H.out.grown bgb); have hgw := Lib.hid hgb; clear hgb kgb bgb)
    | fail)
  refine (rs_i16 w1 g rv d HR.out he).mono ?_
  rintro e w2 ⟨rfl, h2, m2⟩
  rw [DS.i16_b] at h2
  have hng : gb ≠ g := (blk_ne HR.out.1 hg.out (by decide)).symm
  have hg2 := Lib.hid (blk_mod hg.out m2 hng)
  have M2 : Mod (· = g) w w2 := (Mod.of_below HB.out).trans (m2.mono (fun _ _ h => h))
  have ft := fun i => blk_frozen hg2.out i
  have t0 : w2.cell? ⟨gb, 0, none⟩ = _ := blk_cell hg2.out 0
  have t1 : w2.cell? ⟨gb, 1, none⟩ = _ := blk_cell hg2.out 1
  simp at t0 t1
  have hsg : Hid (w.heap.size ≤ gb) := Lib.hid (Nat.le_of_eq hgw.out.symm)
  have h2' : RdAt w2 g rv d.i16.2.b d.i16.2.pos := by rw [DS.i16_b]; exact h2
  clear h2
  have h2 := h2'
  clear h2' m2
  by_cases e1 : d.i16.2.e = 0
  · have e1' : (d.i16.2.e != 0) = false := by simp [e1]
    by_cases c1 : d.i16.1 = -1
    · have HQ := Lib.hid (callName2 e1 c1)
      have c1' : (d.i16.1 == -1) = true := by simp [c1]
      have E1 := Lib.hid e1
      clear e1 c1
      go_wp2
      refine bodyPost_ret (v := .tuple #[.agg #[.bool true, .string ⟨#[]⟩], .int .i64 0]) (by simp [results, Tryz.results208, go_sem, ft, t0, t1]) rfl ?_
      unfold NmPost
      rw [HQ.out, E1.out]
      exact ⟨rfl, (h2.far hg2.out (by decide) (by decide) 0 _).far (hid_set hg2 0 _).out (by decide) (by decide) 1 _, modFar (modFar M2 hsg 0 _) hsg 1 _⟩
    · have c1' : (d.i16.1 == -1) = false := by simp [c1]
      by_cases c2 : d.i16.1 < 0
      · have HQ := Lib.hid (callName3 e1 c1 c2)
        have c2' : decide (d.i16.1 < 0) = true := by simpa using c2
        clear e1 c1 c2
        go_wp2
        refine bodyPost_ret (v := .tuple #[.agg #[.bool false, .string ⟨#[]⟩], .int .i64 5]) (by simp [results, Tryz.results208, go_sem, ft, t0, t1]) rfl ?_
        unfold NmPost
        rw [HQ.out]
        exact ⟨rfl, (h2.far hg2.out (by decide) (by decide) 0 _).far (hid_set hg2 0 _).out (by decide) (by decide) 1 _, modFar (modFar M2 hsg 0 _) hsg 1 _⟩
      · have c2' : decide (d.i16.1 < 0) = false := by simpa using c2
        by_cases c3 : d.i16.1 > 255
        · have HQ := Lib.hid (callName4 e1 c1 c2 c3)
          have c3' : decide (d.i16.1 > 255) = true := by simpa using c3
          clear e1 c1 c2 c3
          go_wp2
          refine bodyPost_ret (v := .tuple #[.agg #[.bool false, .string ⟨#[]⟩], .int .i64 4]) (by simp [results, Tryz.results208, go_sem, ft, t0, t1]) rfl ?_
          unfold NmPost
          rw [HQ.out]
          exact ⟨rfl, (h2.far hg2.out (by decide) (by decide) 0 _).far (hid_set hg2 0 _).out (by decide) (by decide) 1 _, modFar (modFar M2 hsg 0 _) hsg 1 _⟩
        · have c3' : decide (d.i16.1 > 255) = false := by simpa using c3
          have HQ5 := Lib.hid (fun h => callName5 (d := d) e1 c1 c2 c3 h)
          have HQ6 := Lib.hid (fun h => callName6 (d := d) e1 c1 c2 c3 h)
          have HN := Lib.hid (show (0 : Int) ≤ d.i16.1 by omega)
          have HN2 := Lib.hid (show d.i16.1 ≤ 255 by omega)
          have E1 := Lib.hid e1
          clear e1 c1 c2 c3
          go_wp2_with fail
          refine (rs_take w2 g rv d.i16.2 d.i16.1 h2 E1.out HN.out).mono ?_
          rintro e w3 ⟨A, c, rfl, ho, h3, m3⟩
          have hg3 := Lib.hid (blk_mod hg2.out m3 hng)
          have M3 : Mod (· = g) w w3 := M2.trans (m3.mono (fun _ _ h => h))
          have f3 := fun i => blk_frozen hg3.out i
          have v0 : w3.cell? ⟨gb, 0, none⟩ = _ := blk_cell hg3.out 0
          have v1 : w3.cell? ⟨gb, 1, none⟩ = _ := blk_cell hg3.out 1
          simp at v0 v1
          have h3' : RdAt w3 g rv (d.i16.2.take d.i16.1).2.b (d.i16.2.take d.i16.1).2.pos := by rw [DS.take_b]; exact h3
          have hl3 : (d.i16.2.take d.i16.1).1.length ≤ 255 := Nat.le_trans (DS.take_le _ _) (by have := HN2.out; omega)
          generalize hr : d.i16.2.take d.i16.1 = r at *
          clear t0 t1 ft h2 h3 m3 M2
          by_cases e2 : r.2.e = 0
          · have e2' : (r.2.e != 0) = false := by simp [e2]
            have HQ := Lib.hid (HQ6.out e2)
            have hcv : (convert 22 9 (.slice A r.1.length c)).run Tryz.prog w3 = .ok (.string (strOfNums r.1)) w3 := string_of_reads Tryz.underlying22 Tryz.underlying5 Tryz.underlying9 (own_reads' ho)
            have hsz : (strOfNums r.1).size ≤ 140737488355328 := by rw [strOfNums_size]; omega
            clear e2 ho HQ5 HQ6
            generalize strOfNums r.1 = s at *
            have hA := (Below.refl w3.heap.size w3).alloc (Nat.le_refl _) (.cells #[.bool false, .string s] 30)
            have hxA := Lib.hid (blk_new w3 (.cells #[.bool false, .string s] 30))
            have hgA := Lib.hid (blk_old hg3.out (.cells #[.bool false, .string s] 30))
            have h3A := Lib.hid (h3'.grown hA)
            have MA : Mod (· = g) w (w3.alloc (.cells #[.bool false, .string s] 30)) := M3.alloc _
            have hne7 : w3.heap.size ≠ gb := Nat.ne_of_gt (blk_lt hg3.out)
            clear hA h3' M3 v0 v1 f3 hg3
            go_wp2_with fail
            generalize w3.alloc (.cells #[.bool false, .string s] 30) = w4 at *
            generalize w3.heap.size = g7 at *
            have u0 := blk_cell hxA.out 0
            have u1 := blk_cell hxA.out 1
            simp at u0 u1
            go_region_held3 (fun w' => w'.cell? ⟨g7, 0, none⟩ = some (.bool false) ∧ w'.cell? ⟨g7, 1, none⟩ = some (.string s)) (first | go_keep | exact ⟨y0, y1⟩ | exact ⟨(far_cell hne7).trans ((far_cell hne7).trans y0), (far_cell hne7).trans ((far_cell hne7).trans y1)⟩)
              ((go_at_call 145; refine (ca_client _ ⟨false, s⟩ hsz).mono ?_; rintro e w5 ⟨rfl, hb5⟩; have hx5 := Lib.hid (base_blkN hb5 hxA.out); have hg5 := Lib.hid (base_blkN hb5 hgA.out); have h35 := Lib.hid (h3A.out.grown (below_undrew hb5)); have M5 := MA.trans (Mod.of_below (below_undrew hb5)); have y0 := blk_cell hx5.out 0; have y1 := blk_cell hx5.out 1; have t0 : w5.cell? ⟨gb, 0, none⟩ = _ := blk_cell hg5.out 0; have t1 : w5.cell? ⟨gb, 1, none⟩ = _ := blk_cell hg5.out 1; have ft := fun i => blk_frozen hg5.out i; simp at y0 y1 t0 t1; clear hb5))
            all_goals
              go_wp2
              refine bodyPost_ret (v := .tuple #[.agg #[.bool false, .string s], .int .i64 (clientF ⟨false, s⟩)]) (by simp [results, Tryz.results208, go_sem, ft, t0, t1]) rfl ?_
              unfold NmPost
              rw [HQ.out]
              exact ⟨rfl, (h35.out.far hg5.out (by decide) (by decide) 0 _).far (hid_set hg5 0 _).out (by decide) (by decide) 1 _, modFar (modFar M5 hsg 0 _) hsg 1 _⟩
          · have e2' : (r.2.e != 0) = true := by simp [e2]
            have HQ := Lib.hid (HQ5.out e2)
            clear e2 ho HQ5 HQ6
            go_wp2
            refine bodyPost_ret (v := .tuple #[.agg #[.bool false, .string ⟨#[]⟩], .int .i64 r.2.e]) (by simp [results, Tryz.results208, go_sem, f3, v0, v1]) rfl ?_
            unfold NmPost
            rw [HQ.out]
            exact ⟨rfl, (h3'.far hg3.out (by decide) (by decide) 0 _).far (hid_set hg3 0 _).out (by decide) (by decide) 1 _, modFar (modFar M3 hsg 0 _) hsg 1 _⟩
  · have e1' : (d.i16.2.e != 0) = true := by simp [e1]
    have HQ := Lib.hid (callName1 e1)
    clear e1
    go_wp2
    refine bodyPost_ret (v := .tuple #[.agg #[.bool false, .string ⟨#[]⟩], .int .i64 d.i16.2.e]) (by simp [results, Tryz.results208, go_sem, ft, t0, t1]) rfl ?_
    unfold NmPost
    rw [HQ.out]
    exact ⟨rfl, (h2.far hg2.out (by decide) (by decide) 0 _).far (hid_set hg2 0 _).out (by decide) (by decide) 1 _, modFar (modFar M2 hsg 0 _) hsg 1 _⟩

end Go.Proofs.YteckmgmcfngddaaGreat
end

section
/- The kinds of the messages' parts: what their cells say, read (K) and made (M). -/
set_option linter.unusedVariables false
set_option linter.unusedSimpArgs false
namespace Go.Proofs.YteckmgmcfngddaaGreat
open Go.RowKit Go.Proofs.YteckmgmcfngddaaGreatW.PrintWords

structure Call where
  key : Int
  ver : Int
  corr : Int
  client : Name
  prod : ProdReq
  fetch : FetchReq
  list : ListReq
def kCall : Kd Call := Kd.iso (Kd.pair (Kd.int .i16) (Kd.pair (Kd.int .i16) (Kd.pair (Kd.int .i32) (Kd.pair kName (Kd.pair kProdReq (Kd.pair kFetchReq kListReq)))))) (fun x => (x.key, x.ver, x.corr, x.client, x.prod, x.fetch, x.list))
theorem kCall_openM {w : World} {base : Nat} {ok : Nat → Prop} {x : Call} {cs : List Value} (h : kCall.M w base ok x cs) : ∃ (A0 : Option Addr) (c0 : Nat) (A1 : Option Addr) (c1 : Nat) (A2 : Option Addr) (c2 : Nat), cs = [.int .i16 x.key, .int .i16 x.ver, .int .i32 x.corr, .bool x.client.null, .string x.client.s, .bool x.prod.txn.null, .string x.prod.txn.s, .int .i16 x.prod.acks, .int .i32 x.prod.wait, .slice A0 x.prod.topics.length c0, .int .i32 x.fetch.replica, .int .i32 x.fetch.wait, .int .i32 x.fetch.min, .int .i32 x.fetch.max, .int .i8 x.fetch.level, .slice A1 x.fetch.topics.length c1, .int .i32 x.list.replica, .int .i8 x.list.level, .slice A2 x.list.topics.length c2] ∧ kProdTopic.R 122 w base ok (.slice A0 x.prod.topics.length c0) x.prod.topics ∧ kFetchTopic.R 209 w base ok (.slice A1 x.fetch.topics.length c1) x.fetch.topics ∧ kListTopic.R 178 w base ok (.slice A2 x.list.topics.length c2) x.list.topics := by
  obtain ⟨_, _, rfl, rfl, ⟨_, _, rfl, rfl, ⟨_, _, rfl, rfl, ⟨_, _, rfl, s0, ⟨_, _, rfl, s1, ⟨_, _, rfl, s2, s3⟩⟩⟩⟩⟩⟩ := h
  obtain rfl := kName_openM s0
  obtain ⟨A0, c0, rfl, g0⟩ := kProdReq_openM s1
  obtain ⟨A1, c1, rfl, g1⟩ := kFetchReq_openM s2
  obtain ⟨A2, c2, rfl, g2⟩ := kListReq_openM s3
  exact ⟨A0, c0, A1, c1, A2, c2, rfl, g0, g1, g2⟩
theorem kCall_mkM (w : World) (base : Nat) (ok : Nat → Prop) (x : Call) {A0 : Option Addr} {c0 : Nat} {A1 : Option Addr} {c1 : Nat} {A2 : Option Addr} {c2 : Nat} (g0 : kProdTopic.R 122 w base ok (.slice A0 x.prod.topics.length c0) x.prod.topics) (g1 : kFetchTopic.R 209 w base ok (.slice A1 x.fetch.topics.length c1) x.fetch.topics) (g2 : kListTopic.R 178 w base ok (.slice A2 x.list.topics.length c2) x.list.topics) : kCall.M w base ok x [.int .i16 x.key, .int .i16 x.ver, .int .i32 x.corr, .bool x.client.null, .string x.client.s, .bool x.prod.txn.null, .string x.prod.txn.s, .int .i16 x.prod.acks, .int .i32 x.prod.wait, .slice A0 x.prod.topics.length c0, .int .i32 x.fetch.replica, .int .i32 x.fetch.wait, .int .i32 x.fetch.min, .int .i32 x.fetch.max, .int .i8 x.fetch.level, .slice A1 x.fetch.topics.length c1, .int .i32 x.list.replica, .int .i8 x.list.level, .slice A2 x.list.topics.length c2] := ⟨[.int .i16 x.key], [.int .i16 x.ver, .int .i32 x.corr, .bool x.client.null, .string x.client.s, .bool x.prod.txn.null, .string x.prod.txn.s, .int .i16 x.prod.acks, .int .i32 x.prod.wait, .slice A0 x.prod.topics.length c0, .int .i32 x.fetch.replica, .int .i32 x.fetch.wait, .int .i32 x.fetch.min, .int .i32 x.fetch.max, .int .i8 x.fetch.level, .slice A1 x.fetch.topics.length c1, .int .i32 x.list.replica, .int .i8 x.list.level, .slice A2 x.list.topics.length c2], rfl, rfl, ⟨[.int .i16 x.ver], [.int .i32 x.corr, .bool x.client.null, .string x.client.s, .bool x.prod.txn.null, .string x.prod.txn.s, .int .i16 x.prod.acks, .int .i32 x.prod.wait, .slice A0 x.prod.topics.length c0, .int .i32 x.fetch.replica, .int .i32 x.fetch.wait, .int .i32 x.fetch.min, .int .i32 x.fetch.max, .int .i8 x.fetch.level, .slice A1 x.fetch.topics.length c1, .int .i32 x.list.replica, .int .i8 x.list.level, .slice A2 x.list.topics.length c2], rfl, rfl, ⟨[.int .i32 x.corr], [.bool x.client.null, .string x.client.s, .bool x.prod.txn.null, .string x.prod.txn.s, .int .i16 x.prod.acks, .int .i32 x.prod.wait, .slice A0 x.prod.topics.length c0, .int .i32 x.fetch.replica, .int .i32 x.fetch.wait, .int .i32 x.fetch.min, .int .i32 x.fetch.max, .int .i8 x.fetch.level, .slice A1 x.fetch.topics.length c1, .int .i32 x.list.replica, .int .i8 x.list.level, .slice A2 x.list.topics.length c2], rfl, rfl, ⟨[.bool x.client.null, .string x.client.s], [.bool x.prod.txn.null, .string x.prod.txn.s, .int .i16 x.prod.acks, .int .i32 x.prod.wait, .slice A0 x.prod.topics.length c0, .int .i32 x.fetch.replica, .int .i32 x.fetch.wait, .int .i32 x.fetch.min, .int .i32 x.fetch.max, .int .i8 x.fetch.level, .slice A1 x.fetch.topics.length c1, .int .i32 x.list.replica, .int .i8 x.list.level, .slice A2 x.list.topics.length c2], rfl, (kName_mkM w base ok x.client), ⟨[.bool x.prod.txn.null, .string x.prod.txn.s, .int .i16 x.prod.acks, .int .i32 x.prod.wait, .slice A0 x.prod.topics.length c0], [.int .i32 x.fetch.replica, .int .i32 x.fetch.wait, .int .i32 x.fetch.min, .int .i32 x.fetch.max, .int .i8 x.fetch.level, .slice A1 x.fetch.topics.length c1, .int .i32 x.list.replica, .int .i8 x.list.level, .slice A2 x.list.topics.length c2], rfl, (kProdReq_mkM w base ok x.prod g0), ⟨[.int .i32 x.fetch.replica, .int .i32 x.fetch.wait, .int .i32 x.fetch.min, .int .i32 x.fetch.max, .int .i8 x.fetch.level, .slice A1 x.fetch.topics.length c1], [.int .i32 x.list.replica, .int .i8 x.list.level, .slice A2 x.list.topics.length c2], rfl, (kFetchReq_mkM w base ok x.fetch g1), (kListReq_mkM w base ok x.list g2)⟩⟩⟩⟩⟩⟩
theorem kCall_openK {w : World} {x : Call} {cs : List Value} (h : kCall.K w x cs) : ∃ (A0 : Option Addr) (c0 : Nat) (A1 : Option Addr) (c1 : Nat) (A2 : Option Addr) (c2 : Nat), cs = [.int .i16 x.key, .int .i16 x.ver, .int .i32 x.corr, .bool x.client.null, .string x.client.s, .bool x.prod.txn.null, .string x.prod.txn.s, .int .i16 x.prod.acks, .int .i32 x.prod.wait, .slice A0 x.prod.topics.length c0, .int .i32 x.fetch.replica, .int .i32 x.fetch.wait, .int .i32 x.fetch.min, .int .i32 x.fetch.max, .int .i8 x.fetch.level, .slice A1 x.fetch.topics.length c1, .int .i32 x.list.replica, .int .i8 x.list.level, .slice A2 x.list.topics.length c2] ∧ x.prod.topics.length ≤ c0 ∧ kProdTopic.C w A0 x.prod.topics.length x.prod.topics ∧ x.fetch.topics.length ≤ c1 ∧ kFetchTopic.C w A1 x.fetch.topics.length x.fetch.topics ∧ x.list.topics.length ≤ c2 ∧ kListTopic.C w A2 x.list.topics.length x.list.topics := by
  obtain ⟨_, _, rfl, rfl, ⟨_, _, rfl, rfl, ⟨_, _, rfl, rfl, ⟨_, _, rfl, s0, ⟨_, _, rfl, s1, ⟨_, _, rfl, s2, s3⟩⟩⟩⟩⟩⟩ := h
  obtain rfl := kName_openK s0
  obtain ⟨A0, c0, rfl, l0, g0⟩ := kProdReq_openK s1
  obtain ⟨A1, c1, rfl, l1, g1⟩ := kFetchReq_openK s2
  obtain ⟨A2, c2, rfl, l2, g2⟩ := kListReq_openK s3
  exact ⟨A0, c0, A1, c1, A2, c2, rfl, l0, g0, l1, g1, l2, g2⟩
theorem kCall_mkK (w : World) (x : Call) {A0 : Option Addr} {c0 : Nat} {A1 : Option Addr} {c1 : Nat} {A2 : Option Addr} {c2 : Nat} (l0 : x.prod.topics.length ≤ c0) (g0 : kProdTopic.C w A0 x.prod.topics.length x.prod.topics) (l1 : x.fetch.topics.length ≤ c1) (g1 : kFetchTopic.C w A1 x.fetch.topics.length x.fetch.topics) (l2 : x.list.topics.length ≤ c2) (g2 : kListTopic.C w A2 x.list.topics.length x.list.topics) : kCall.K w x [.int .i16 x.key, .int .i16 x.ver, .int .i32 x.corr, .bool x.client.null, .string x.client.s, .bool x.prod.txn.null, .string x.prod.txn.s, .int .i16 x.prod.acks, .int .i32 x.prod.wait, .slice A0 x.prod.topics.length c0, .int .i32 x.fetch.replica, .int .i32 x.fetch.wait, .int .i32 x.fetch.min, .int .i32 x.fetch.max, .int .i8 x.fetch.level, .slice A1 x.fetch.topics.length c1, .int .i32 x.list.replica, .int .i8 x.list.level, .slice A2 x.list.topics.length c2] := ⟨[.int .i16 x.key], [.int .i16 x.ver, .int .i32 x.corr, .bool x.client.null, .string x.client.s, .bool x.prod.txn.null, .string x.prod.txn.s, .int .i16 x.prod.acks, .int .i32 x.prod.wait, .slice A0 x.prod.topics.length c0, .int .i32 x.fetch.replica, .int .i32 x.fetch.wait, .int .i32 x.fetch.min, .int .i32 x.fetch.max, .int .i8 x.fetch.level, .slice A1 x.fetch.topics.length c1, .int .i32 x.list.replica, .int .i8 x.list.level, .slice A2 x.list.topics.length c2], rfl, rfl, ⟨[.int .i16 x.ver], [.int .i32 x.corr, .bool x.client.null, .string x.client.s, .bool x.prod.txn.null, .string x.prod.txn.s, .int .i16 x.prod.acks, .int .i32 x.prod.wait, .slice A0 x.prod.topics.length c0, .int .i32 x.fetch.replica, .int .i32 x.fetch.wait, .int .i32 x.fetch.min, .int .i32 x.fetch.max, .int .i8 x.fetch.level, .slice A1 x.fetch.topics.length c1, .int .i32 x.list.replica, .int .i8 x.list.level, .slice A2 x.list.topics.length c2], rfl, rfl, ⟨[.int .i32 x.corr], [.bool x.client.null, .string x.client.s, .bool x.prod.txn.null, .string x.prod.txn.s, .int .i16 x.prod.acks, .int .i32 x.prod.wait, .slice A0 x.prod.topics.length c0, .int .i32 x.fetch.replica, .int .i32 x.fetch.wait, .int .i32 x.fetch.min, .int .i32 x.fetch.max, .int .i8 x.fetch.level, .slice A1 x.fetch.topics.length c1, .int .i32 x.list.replica, .int .i8 x.list.level, .slice A2 x.list.topics.length c2], rfl, rfl, ⟨[.bool x.client.null, .string x.client.s], [.bool x.prod.txn.null, .string x.prod.txn.s, .int .i16 x.prod.acks, .int .i32 x.prod.wait, .slice A0 x.prod.topics.length c0, .int .i32 x.fetch.replica, .int .i32 x.fetch.wait, .int .i32 x.fetch.min, .int .i32 x.fetch.max, .int .i8 x.fetch.level, .slice A1 x.fetch.topics.length c1, .int .i32 x.list.replica, .int .i8 x.list.level, .slice A2 x.list.topics.length c2], rfl, (kName_mkK w x.client), ⟨[.bool x.prod.txn.null, .string x.prod.txn.s, .int .i16 x.prod.acks, .int .i32 x.prod.wait, .slice A0 x.prod.topics.length c0], [.int .i32 x.fetch.replica, .int .i32 x.fetch.wait, .int .i32 x.fetch.min, .int .i32 x.fetch.max, .int .i8 x.fetch.level, .slice A1 x.fetch.topics.length c1, .int .i32 x.list.replica, .int .i8 x.list.level, .slice A2 x.list.topics.length c2], rfl, (kProdReq_mkK w x.prod l0 g0), ⟨[.int .i32 x.fetch.replica, .int .i32 x.fetch.wait, .int .i32 x.fetch.min, .int .i32 x.fetch.max, .int .i8 x.fetch.level, .slice A1 x.fetch.topics.length c1], [.int .i32 x.list.replica, .int .i8 x.list.level, .slice A2 x.list.topics.length c2], rfl, (kFetchReq_mkK w x.fetch l1 g1), (kListReq_mkK w x.list l2 g2)⟩⟩⟩⟩⟩⟩

structure Reply where
  key : Int
  ver : Int
  corr : Int
  prod : ProdRep
  fetch : FetchRep
  list : ListRep
def kReply : Kd Reply := Kd.iso (Kd.pair (Kd.int .i16) (Kd.pair (Kd.int .i16) (Kd.pair (Kd.int .i32) (Kd.pair kProdRep (Kd.pair kFetchRep kListRep))))) (fun x => (x.key, x.ver, x.corr, x.prod, x.fetch, x.list))
theorem kReply_openM {w : World} {base : Nat} {ok : Nat → Prop} {x : Reply} {cs : List Value} (h : kReply.M w base ok x cs) : ∃ (A0 : Option Addr) (c0 : Nat) (A1 : Option Addr) (c1 : Nat) (A2 : Option Addr) (c2 : Nat), cs = [.int .i16 x.key, .int .i16 x.ver, .int .i32 x.corr, .slice A0 x.prod.topics.length c0, .int .i32 x.prod.throttle, .int .i32 x.fetch.throttle, .slice A1 x.fetch.topics.length c1, .int .i32 x.list.throttle, .slice A2 x.list.topics.length c2] ∧ kProdGone.R 162 w base ok (.slice A0 x.prod.topics.length c0) x.prod.topics ∧ kFetchGone.R 222 w base ok (.slice A1 x.fetch.topics.length c1) x.fetch.topics ∧ kListGone.R 192 w base ok (.slice A2 x.list.topics.length c2) x.list.topics := by
  obtain ⟨_, _, rfl, rfl, ⟨_, _, rfl, rfl, ⟨_, _, rfl, rfl, ⟨_, _, rfl, s0, ⟨_, _, rfl, s1, s2⟩⟩⟩⟩⟩ := h
  obtain ⟨A0, c0, rfl, g0⟩ := kProdRep_openM s0
  obtain ⟨A1, c1, rfl, g1⟩ := kFetchRep_openM s1
  obtain ⟨A2, c2, rfl, g2⟩ := kListRep_openM s2
  exact ⟨A0, c0, A1, c1, A2, c2, rfl, g0, g1, g2⟩
theorem kReply_mkM (w : World) (base : Nat) (ok : Nat → Prop) (x : Reply) {A0 : Option Addr} {c0 : Nat} {A1 : Option Addr} {c1 : Nat} {A2 : Option Addr} {c2 : Nat} (g0 : kProdGone.R 162 w base ok (.slice A0 x.prod.topics.length c0) x.prod.topics) (g1 : kFetchGone.R 222 w base ok (.slice A1 x.fetch.topics.length c1) x.fetch.topics) (g2 : kListGone.R 192 w base ok (.slice A2 x.list.topics.length c2) x.list.topics) : kReply.M w base ok x [.int .i16 x.key, .int .i16 x.ver, .int .i32 x.corr, .slice A0 x.prod.topics.length c0, .int .i32 x.prod.throttle, .int .i32 x.fetch.throttle, .slice A1 x.fetch.topics.length c1, .int .i32 x.list.throttle, .slice A2 x.list.topics.length c2] := ⟨[.int .i16 x.key], [.int .i16 x.ver, .int .i32 x.corr, .slice A0 x.prod.topics.length c0, .int .i32 x.prod.throttle, .int .i32 x.fetch.throttle, .slice A1 x.fetch.topics.length c1, .int .i32 x.list.throttle, .slice A2 x.list.topics.length c2], rfl, rfl, ⟨[.int .i16 x.ver], [.int .i32 x.corr, .slice A0 x.prod.topics.length c0, .int .i32 x.prod.throttle, .int .i32 x.fetch.throttle, .slice A1 x.fetch.topics.length c1, .int .i32 x.list.throttle, .slice A2 x.list.topics.length c2], rfl, rfl, ⟨[.int .i32 x.corr], [.slice A0 x.prod.topics.length c0, .int .i32 x.prod.throttle, .int .i32 x.fetch.throttle, .slice A1 x.fetch.topics.length c1, .int .i32 x.list.throttle, .slice A2 x.list.topics.length c2], rfl, rfl, ⟨[.slice A0 x.prod.topics.length c0, .int .i32 x.prod.throttle], [.int .i32 x.fetch.throttle, .slice A1 x.fetch.topics.length c1, .int .i32 x.list.throttle, .slice A2 x.list.topics.length c2], rfl, (kProdRep_mkM w base ok x.prod g0), ⟨[.int .i32 x.fetch.throttle, .slice A1 x.fetch.topics.length c1], [.int .i32 x.list.throttle, .slice A2 x.list.topics.length c2], rfl, (kFetchRep_mkM w base ok x.fetch g1), (kListRep_mkM w base ok x.list g2)⟩⟩⟩⟩⟩
theorem kReply_openK {w : World} {x : Reply} {cs : List Value} (h : kReply.K w x cs) : ∃ (A0 : Option Addr) (c0 : Nat) (A1 : Option Addr) (c1 : Nat) (A2 : Option Addr) (c2 : Nat), cs = [.int .i16 x.key, .int .i16 x.ver, .int .i32 x.corr, .slice A0 x.prod.topics.length c0, .int .i32 x.prod.throttle, .int .i32 x.fetch.throttle, .slice A1 x.fetch.topics.length c1, .int .i32 x.list.throttle, .slice A2 x.list.topics.length c2] ∧ x.prod.topics.length ≤ c0 ∧ kProdGone.C w A0 x.prod.topics.length x.prod.topics ∧ x.fetch.topics.length ≤ c1 ∧ kFetchGone.C w A1 x.fetch.topics.length x.fetch.topics ∧ x.list.topics.length ≤ c2 ∧ kListGone.C w A2 x.list.topics.length x.list.topics := by
  obtain ⟨_, _, rfl, rfl, ⟨_, _, rfl, rfl, ⟨_, _, rfl, rfl, ⟨_, _, rfl, s0, ⟨_, _, rfl, s1, s2⟩⟩⟩⟩⟩ := h
  obtain ⟨A0, c0, rfl, l0, g0⟩ := kProdRep_openK s0
  obtain ⟨A1, c1, rfl, l1, g1⟩ := kFetchRep_openK s1
  obtain ⟨A2, c2, rfl, l2, g2⟩ := kListRep_openK s2
  exact ⟨A0, c0, A1, c1, A2, c2, rfl, l0, g0, l1, g1, l2, g2⟩
theorem kReply_mkK (w : World) (x : Reply) {A0 : Option Addr} {c0 : Nat} {A1 : Option Addr} {c1 : Nat} {A2 : Option Addr} {c2 : Nat} (l0 : x.prod.topics.length ≤ c0) (g0 : kProdGone.C w A0 x.prod.topics.length x.prod.topics) (l1 : x.fetch.topics.length ≤ c1) (g1 : kFetchGone.C w A1 x.fetch.topics.length x.fetch.topics) (l2 : x.list.topics.length ≤ c2) (g2 : kListGone.C w A2 x.list.topics.length x.list.topics) : kReply.K w x [.int .i16 x.key, .int .i16 x.ver, .int .i32 x.corr, .slice A0 x.prod.topics.length c0, .int .i32 x.prod.throttle, .int .i32 x.fetch.throttle, .slice A1 x.fetch.topics.length c1, .int .i32 x.list.throttle, .slice A2 x.list.topics.length c2] := ⟨[.int .i16 x.key], [.int .i16 x.ver, .int .i32 x.corr, .slice A0 x.prod.topics.length c0, .int .i32 x.prod.throttle, .int .i32 x.fetch.throttle, .slice A1 x.fetch.topics.length c1, .int .i32 x.list.throttle, .slice A2 x.list.topics.length c2], rfl, rfl, ⟨[.int .i16 x.ver], [.int .i32 x.corr, .slice A0 x.prod.topics.length c0, .int .i32 x.prod.throttle, .int .i32 x.fetch.throttle, .slice A1 x.fetch.topics.length c1, .int .i32 x.list.throttle, .slice A2 x.list.topics.length c2], rfl, rfl, ⟨[.int .i32 x.corr], [.slice A0 x.prod.topics.length c0, .int .i32 x.prod.throttle, .int .i32 x.fetch.throttle, .slice A1 x.fetch.topics.length c1, .int .i32 x.list.throttle, .slice A2 x.list.topics.length c2], rfl, rfl, ⟨[.slice A0 x.prod.topics.length c0, .int .i32 x.prod.throttle], [.int .i32 x.fetch.throttle, .slice A1 x.fetch.topics.length c1, .int .i32 x.list.throttle, .slice A2 x.list.topics.length c2], rfl, (kProdRep_mkK w x.prod l0 g0), ⟨[.int .i32 x.fetch.throttle, .slice A1 x.fetch.topics.length c1], [.int .i32 x.list.throttle, .slice A2 x.list.topics.length c2], rfl, (kFetchRep_mkK w x.fetch l1 g1), (kListRep_mkK w x.list l2 g2)⟩⟩⟩⟩⟩

end Go.Proofs.YteckmgmcfngddaaGreat
end
