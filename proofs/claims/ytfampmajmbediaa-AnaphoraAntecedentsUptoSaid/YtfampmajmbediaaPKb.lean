/- What reads as data has a plain form: for whole numbers, bools, strings, slices, structs and types nested in themselves; its numbers are in range, and its bulk is at most the datum's. By the session; a template, its names filled in by wip/tools/xprint.py. -/
import Derived.Test.YtfampmajmbediaaRows
import Derived.Test.YtfampmajmbediaaWWords
import Derived.Test.YtfampmajmbediaaPx0
import Derived.ChangeArms
import Derived.DataReads
import Derived.DataElems
import Derived.ChangeOld
import Derived.Carry
import Derived.WalkKit
import Derived.ProofKit
namespace Go.Proofs.Ytfampmajmbediaa.P
open Go.RowKit Go.Proofs.YtfampmajmbediaaW.PrintWords
set_option linter.unusedVariables false
set_option linter.unusedSimpArgs false
set_option maxRecDepth 100000

/-- Read with this fuel, what reads as data of type t has a plain form of the kind d. -/
def At (f : Nat) {α : Type} (P : Program) (t : TypeId) (d : Kd α) (wf : α → Prop) (bulk : α → Nat) : Prop :=
  ∀ (H : Type) (enc : TypeId × Value → H) (w : World) (base : Nat) (spare : Nat → Bool) (held : Bool) (cs : List Value) (x : DataW H × List MemPlace),
    DataW.trod enc P w base spare held f t cs = some x → ∃ a : α, d.K w a cs ∧ wf a ∧ bulk a ≤ Rows.uptoBulk x.1
theorem At.int {P : Program} {t : TypeId} {k : IntKind} (ht : P.underlying t = some (.int k)) (f : Nat) : At f P t (Kd.int k) (fun a => (Lit.int k a).wf = true) (fun _ => 1) := by
  intro H enc w base spare held cs x h
  obtain ⟨n, rfl, rfl, hw⟩ := DataW.trod_int ht h
  exact ⟨n, rfl, hw, by simp [Rows.uptoBulk]⟩
theorem At.bool {P : Program} {t : TypeId} (ht : P.underlying t = some .bool) (f : Nat) : At f P t Kd.bool (fun _ => True) (fun _ => 1) := by
  intro H enc w base spare held cs x h
  obtain ⟨n, rfl, rfl⟩ := DataW.trod_bool ht h
  exact ⟨n, rfl, trivial, by simp [Rows.uptoBulk]⟩
theorem At.string {P : Program} {t : TypeId} (ht : P.underlying t = some .string) (f : Nat) : At f P t Kd.string (fun s => s.size ≤ 9223372036854775807) (fun s => s.size + 1) := by
  intro H enc w base spare held cs x h
  obtain ⟨s, rfl, rfl, hs⟩ := DataW.trod_string ht h
  refine ⟨s, rfl, by simpa [maxLen] using hs, ?_⟩
  have e : s.data.toList.length = s.size := by rw [Array.length_toList]; rfl
  simp only [Rows.uptoBulk, e]
  exact Nat.le_refl _
/-- A list out of its elements. -/
theorem listed {α : Type} {p : Nat → α → Prop} : ∀ n : Nat, (∀ i, i < n → ∃ a, p i a) → ∃ l : List α, l.length = n ∧ ∀ (i : Nat) (a : α), l[i]? = some a → p i a
  | 0, _ => ⟨[], rfl, fun i a h => by simp at h⟩
  | n + 1, h => by
    obtain ⟨l, hl, hp⟩ := listed n (fun i hi => h i (by omega))
    obtain ⟨a, ha⟩ := h n (by omega)
    refine ⟨l ++ [a], by simp [hl], fun i b hb => ?_⟩
    by_cases hi : i < n
    · exact hp i b (by rwa [List.getElem?_append_left (by omega)] at hb)
    · have hin : i = n := by
        have := (List.getElem?_eq_some_iff.1 hb).1
        simp at this
        omega
      subst hin
      rw [List.getElem?_append_right (by omega), hl] at hb
      simp at hb
      exact hb ▸ ha
theorem bulkAll_le {H α : Type} {bulk : α → Nat} : ∀ (l : List α) (ds : List (DataW H)), l.length = ds.length → (∀ (i : Nat) (a : α) (d : DataW H), l[i]? = some a → ds[i]? = some d → bulk a ≤ Rows.uptoBulk d) → (l.map bulk).sum ≤ Rows.uptoBulkAll ds
  | [], ds, _, _ => by simp
  | a :: l, [], h, _ => by simp at h
  | a :: l, d :: ds, h, hh => by
    have h1 := hh 0 a d rfl rfl
    have h2 := bulkAll_le l ds (by simpa using h) (fun i b e hb he => hh (i + 1) b e (by simpa using hb) (by simpa using he))
    simp only [List.map_cons, List.sum_cons, Rows.uptoBulkAll]
    omega
theorem At.slice {P : Program} {t e : TypeId} {f : Nat} {α : Type} {d : Kd α} {wf : α → Prop} {bulk : α → Nat} (ht : P.underlying t = some (.slice e)) (hsz : P.cellsOf e = d.sz) (hd : ∀ n, n < f → At n P e d wf bulk) :
    At f P t (Kd.slice e d) (fun l => ∀ a ∈ l, wf a) (fun l => (l.map bulk).sum + 1) := by
  intro H enc w base spare held cs x h
  rcases DataW.trod_slice ht h with ⟨rfl, rfl⟩ | ⟨a, len, cap, elems, rest, n, rfl, rfl, rfl, hb, hl, hm, hlen, hel, hsp, hns⟩
  · refine ⟨[], ⟨none, 0, rfl, Nat.le_refl _, rfl, by simp, fun h => absurd h (by simp)⟩, by simp, by simp [Rows.uptoBulk]⟩
  · obtain ⟨l, hll, hp⟩ := listed (α := α) (p := fun i b => ∃ cs', w.cells? base (a.add (i * P.cellsOf e)) (P.cellsOf e) = some cs' ∧ d.K w b cs' ∧ wf b ∧ ∀ y, elems[i]? = some y → bulk b ≤ Rows.uptoBulk y.1) len (fun i hi => by
      have h1 := hel i hi
      rw [List.getElem?_eq_getElem (by omega)] at h1
      obtain ⟨cs', hc, ht'⟩ := Option.bind_eq_some_iff.1 h1
      obtain ⟨b, hK, hw, hbk⟩ := hd n (by omega) H enc w base spare held cs' _ ht'
      refine ⟨b, cs', hc, hK, hw, fun y hy => ?_⟩
      rw [List.getElem?_eq_getElem (by omega)] at hy
      injection hy with hy
      exact hy ▸ hbk)
    refine ⟨l, ⟨some a, cap, by rw [hll], by omega, hll.symm ▸ rfl, by simp only [maxLen] at hm; omega, fun _ => ⟨a, rfl, fun j b hj => ?_⟩⟩, fun b hb => ?_, ?_⟩
    · obtain ⟨cs', hc, hK, _⟩ := hp j b hj
      obtain ⟨_, hcl, hcell⟩ := World.cells?_some hc
      refine ⟨cs', hcl.trans hsz, hK, fun i u hu => ?_⟩
      have hi : i < P.cellsOf e := by rw [← hcl]; exact (List.getElem?_eq_some_iff.1 hu).1
      rw [← hsz, ← Addr.add_add]
      exact (hcell i hi).trans hu
    · obtain ⟨j, hj⟩ := List.getElem?_of_mem hb
      exact (hp j b hj).choose_spec.2.2.1
    · have := bulkAll_le (bulk := bulk) l (elems.map (·.1)) (by simp [hll, hlen]) (fun i b y hb hy => by
        obtain ⟨_, _, _, _, h4⟩ := hp i b hb
        rw [List.getElem?_map] at hy
        obtain ⟨z, hz, rfl⟩ := Option.map_eq_some_iff.1 hy
        exact h4 z hz)
      simp only [Rows.uptoBulk]
      omega
theorem pairK {α β : Type} {a : Kd α} {b : Kd β} {w : World} {x : α} {y : β} {cs : List Value} (o s : Nat) (h0 : a.K w x ((cs.drop o).take s)) (h1 : b.K w y (cs.drop (o + s))) : (Kd.pair a b).K w (x, y) (cs.drop o) :=
  ⟨_, _, by rw [← List.drop_drop, List.take_append_drop], h0, h1⟩
theorem lastK {α : Type} {a : Kd α} {w : World} {x : α} {cs : List Value} (o s : Nat) (hl : cs.length = o + s) (h0 : a.K w x ((cs.drop o).take s)) : a.K w x (cs.drop o) := by
  rwa [List.take_of_length_le (by rw [List.length_drop]; omega)] at h0
theorem bulkList {H : Type} (ds : List (DataW H)) (n : Nat) (h : n ≤ Rows.uptoBulkAll ds) : n + 1 ≤ Rows.uptoBulk (.agg ds) := by simp only [Rows.uptoBulk]; omega
/-- A struct's cells, out of the machine's value. -/
theorem okWide_agg {P : Program} {w : World} {r : Reach} {base : Nat} {t : TypeId} {v : Value} {fs : Array Field} (ht : P.underlying t = some (.struct fs)) (h : Value.okWide P w r base t v) : ∃ cs, v = .agg cs := by
  unfold Value.okWide at h
  rw [ht] at h
  obtain ⟨cs, hv, _⟩ := h
  exact ⟨cs, hv⟩
/-- A value of any type, by its reading. -/
theorem At.here {α : Type} {P : Program} {t : TypeId} {d : Kd α} {wf : α → Prop} {bulk : α → Nat} (hd : ∀ f, At f P t d wf bulk) {H : Type} {enc : TypeId × Value → H} {w : World} {base : Nat} {spare : Nat → Bool} {held : Bool} {v : Value} {x : DataW H} {ps : List MemPlace}
    (h : DataW.Trod enc P w base spare held t v x ps) : ∃ a : α, d.K w a v.cells.toList ∧ wf a ∧ bulk a ≤ Rows.uptoBulk x := by
  obtain ⟨f, hf⟩ := h
  exact hd f H enc w base spare held _ _ hf
theorem cells_one {v : Value} {u : Value} (h : v.cells.toList = [u]) (hn : ∀ cs, v ≠ .agg cs) : v = u := by
  cases v <;> simp_all [Value.cells]
theorem At.up27 {m n : Nat} (h : At m Try.prog 27 (Kd.upto F27 3 [3, 27] m) wf27 bulk27) (hmn : m ≤ n) : At m Try.prog 27 (Kd.upto F27 3 [3, 27] n) wf27 bulk27 := fun H enc w base spare held cs x hx => let ⟨a, hK, hw⟩ := h H enc w base spare held cs x hx; ⟨a, Kd.upto_K_le mono27 sz27 hmn hK, hw⟩
theorem atU27_27 (f : Nat) : At f Try.prog 27 (Kd.upto F27 3 [3, 27] f) wf27 bulk27 := by
  induction f using Nat.strongRecOn with | _ f ih =>
  intro H enc w base spare held cs x h
  obtain ⟨xs, n, rfl, rfl, hl, hlen, hf⟩ := DataW.trod_struct Try.underlying27 h
  have hl' : cs.length = 3 := hl.trans (by kernel_rfl)
  match xs, hlen with
  | [y0, y1, y2], _ =>
    obtain ⟨a0, K0, w0, b0⟩ := ((At.string Try.underlying9) n) H enc w base spare held _ y0 (hf 0 _ rfl)
    replace b0 : (a0.size + 1) ≤ Rows.uptoBulk y0.1 := b0
    replace K0 := (show (Kd.string).K w a0 ((cs.drop 0).take 1) from K0)
    obtain ⟨a1, K1, w1, b1⟩ := ((fun f_ => At.slice Try.underlying25 (show Try.prog.cellsOf 3 = 1 from by kernel_rfl) (fun n_ _ => (At.int Try.underlying3) n_)) n) H enc w base spare held _ y1 (hf 1 _ rfl)
    replace b1 : ((a1.map (fun _ => 1)).sum + 1) ≤ Rows.uptoBulk y1.1 := b1
    replace K1 := (show ((Kd.slice 3 (Kd.int .i64))).K w a1 ((cs.drop 1).take 1) from K1)
    obtain ⟨a2, K2, w2, b2⟩ := ((At.slice (d := Kd.upto F27 3 [3, 27] n) Try.underlying22 (by rw [sz27 n]; kernel_rfl) (fun m hm => At.up27 (ih m (by omega)) (by omega)) : At n _ _ _ _ _)) H enc w base spare held _ y2 (hf 2 _ rfl)
    replace b2 : ((a2.map bulk27).sum + 1) ≤ Rows.uptoBulk y2.1 := b2
    replace K2 := (show (Kd.slice 27 (Kd.upto F27 3 [3, 27] n)).K w a2 ((cs.drop 2).take 1) from K2)
    refine ⟨⟨a0, a1, a2⟩, pairK 0 1 K0 (pairK 1 1 K1 (lastK 2 1 (by omega) K2)), (by unfold wf27; exact ⟨w0, w1, (wfL27_iff _).2 w2⟩), bulkList _ _ ?_⟩
    try unfold bulk27
    simp only [bulkL27_eq, Rows.uptoBulkAll, List.map]
    omega
theorem at27_27 (f : Nat) : At f Try.prog 27 k27 wf27 bulk27 := fun H enc w base spare held cs x hx => let ⟨a, hK, hw⟩ := atU27_27 f H enc w base spare held cs x hx; ⟨a, ⟨f, hK⟩, hw⟩
end Go.Proofs.Ytfampmajmbediaa.P
