import Derived.Test.YtolpckflofjfhaaDoorRows
import Derived.Test.YtolpckflofjfhaaDoorWAll
import Derived.Test.YtolpckflofjfhaaDoorPx0
import Derived.ChangeArms
import Derived.DataReads
import Derived.DataElems
import Derived.ChangeOld
import Derived.Carry
import Derived.WalkKit
import Derived.ProofKit
namespace Go.Proofs.YtolpckflofjfhaaDoor.P
open Go.RowKit Go.Proofs.YtolpckflofjfhaaDoorW.PrintWords
set_option linter.unusedVariables false
set_option linter.unusedSimpArgs false
set_option maxRecDepth 100000
def At (f : Nat) {α : Type} (P : Program) (t : TypeId) (d : Kd α) (wf : α → Prop) (bulk : α → Nat) : Prop :=
  ∀ (H : Type) (enc : TypeId × Value → H) (w : World) (base : Nat) (spare : Nat → Bool) (held : Bool) (cs : List Value) (x : DataW H × List MemPlace),
    DataW.trod enc P w base spare held f t cs = some x → ∃ a : α, d.K w a cs ∧ wf a ∧ bulk a ≤ Rows.uptoBulk x.1
theorem At.int {P : Program} {t : TypeId} {k : IntKind} (ht : P.underlying t = some (.int k)) (f : Nat) : At f P t (Kd.int k) (fun a => (Lit.int k a).wf = true) (fun _ => 1) := by
  intro H enc w base spare held cs x h
  obtain ⟨n, rfl, rfl, hw⟩ := DataW.trod_int ht h
  exact ⟨n, rfl, hw, by simp [Rows.uptoBulk]⟩
theorem At.bool {P : Program} {t : TypeId} (ht : P.underlying t = some .bool) (f : Nat) : At f P t Kd.bool (fun _ => True) (fun _ => 1) := by
  intro H enc w base spare held cs x h
  obtain ⟨n, rfl, rfl⟩ := DataW.trod_bool ht h
  exact ⟨n, rfl, trivial, by simp [Rows.uptoBulk]⟩
theorem At.string {P : Program} {t : TypeId} (ht : P.underlying t = some .string) (f : Nat) : At f P t Kd.string (fun s => s.size ≤ 9223372036854775807) (fun s => s.size + 1) := by
  intro H enc w base spare held cs x h
  obtain ⟨s, rfl, rfl, hs⟩ := DataW.trod_string ht h
  refine ⟨s, rfl, by simpa [maxLen] using hs, ?_⟩
  have e : s.data.toList.length = s.size := by rw [Array.length_toList]; rfl
  simp only [Rows.uptoBulk, e]
  exact Nat.le_refl _
theorem listed {α : Type} {p : Nat → α → Prop} : ∀ n : Nat, (∀ i, i < n → ∃ a, p i a) → ∃ l : List α, l.length = n ∧ ∀ (i : Nat) (a : α), l[i]? = some a → p i a
  | 0, _ => ⟨[], rfl, fun i a h => by simp at h⟩
  | n + 1, h => by
    obtain ⟨l, hl, hp⟩ := listed n (fun i hi => h i (by omega))
    obtain ⟨a, ha⟩ := h n (by omega)
    refine ⟨l ++ [a], by simp [hl], fun i b hb => ?_⟩
    by_cases hi : i < n
    · exact hp i b (by rwa [List.getElem?_append_left (by omega)] at hb)
    · have hin : i = n := by
        have := (List.getElem?_eq_some_iff.1 hb).1
        simp at this
        omega
      subst hin
      rw [List.getElem?_append_right (by omega), hl] at hb
      simp at hb
      exact hb ▸ ha
theorem bulkAll_le {H α : Type} {bulk : α → Nat} : ∀ (l : List α) (ds : List (DataW H)), l.length = ds.length → (∀ (i : Nat) (a : α) (d : DataW H), l[i]? = some a → ds[i]? = some d → bulk a ≤ Rows.uptoBulk d) → (l.map bulk).sum ≤ Rows.uptoBulkAll ds
  | [], ds, _, _ => by simp
  | a :: l, [], h, _ => by simp at h
  | a :: l, d :: ds, h, hh => by
    have h1 := hh 0 a d rfl rfl
    have h2 := bulkAll_le l ds (by simpa using h) (fun i b e hb he => hh (i + 1) b e (by simpa using hb) (by simpa using he))
    simp only [List.map_cons, List.sum_cons, Rows.uptoBulkAll]
    omega
theorem At.slice {P : Program} {t e : TypeId} {f : Nat} {α : Type} {d : Kd α} {wf : α → Prop} {bulk : α → Nat} (ht : P.underlying t = some (.slice e)) (hsz : P.cellsOf e = d.sz) (hd : ∀ n, n < f → At n P e d wf bulk) :
    At f P t (Kd.slice e d) (fun l => ∀ a ∈ l, wf a) (fun l => (l.map bulk).sum + 1) := by
  intro H enc w base spare held cs x h
  rcases DataW.trod_slice ht h with ⟨rfl, rfl⟩ | ⟨a, len, cap, elems, rest, n, rfl, rfl, rfl, hb, hl, hm, hlen, hel, hsp, hns⟩
  · refine ⟨[], ⟨none, 0, rfl, Nat.le_refl _, rfl, by simp, fun h => absurd h (by simp)⟩, by simp, by simp [Rows.uptoBulk]⟩
  · obtain ⟨l, hll, hp⟩ := listed (α := α) (p := fun i b => ∃ cs', w.cells? base (a.add (i * P.cellsOf e)) (P.cellsOf e) = some cs' ∧ d.K w b cs' ∧ wf b ∧ ∀ y, elems[i]? = some y → bulk b ≤ Rows.uptoBulk y.1) len (fun i hi => by
      have h1 := hel i hi
      rw [List.getElem?_eq_getElem (by omega)] at h1
      obtain ⟨cs', hc, ht'⟩ := Option.bind_eq_some_iff.1 h1
      obtain ⟨b, hK, hw, hbk⟩ := hd n (by omega) H enc w base spare held cs' _ ht'
      refine ⟨b, cs', hc, hK, hw, fun y hy => ?_⟩
      rw [List.getElem?_eq_getElem (by omega)] at hy
      injection hy with hy
      exact hy ▸ hbk)
    refine ⟨l, ⟨some a, cap, by rw [hll], by omega, hll.symm ▸ rfl, by simp only [maxLen] at hm; omega, fun _ => ⟨a, rfl, fun j b hj => ?_⟩⟩, fun b hb => ?_, ?_⟩
    · obtain ⟨cs', hc, hK, _⟩ := hp j b hj
      obtain ⟨_, hcl, hcell⟩ := World.cells?_some hc
      refine ⟨cs', hcl.trans hsz, hK, fun i u hu => ?_⟩
      have hi : i < P.cellsOf e := by rw [← hcl]; exact (List.getElem?_eq_some_iff.1 hu).1
      rw [← hsz, ← Addr.add_add]
      exact (hcell i hi).trans hu
    · obtain ⟨j, hj⟩ := List.getElem?_of_mem hb
      exact (hp j b hj).choose_spec.2.2.1
    · have := bulkAll_le (bulk := bulk) l (elems.map (·.1)) (by simp [hll, hlen]) (fun i b y hb hy => by
        obtain ⟨_, _, _, _, h4⟩ := hp i b hb
        rw [List.getElem?_map] at hy
        obtain ⟨z, hz, rfl⟩ := Option.map_eq_some_iff.1 hy
        exact h4 z hz)
      simp only [Rows.uptoBulk]
      omega
theorem pairK {α β : Type} {a : Kd α} {b : Kd β} {w : World} {x : α} {y : β} {cs : List Value} (o s : Nat) (h0 : a.K w x ((cs.drop o).take s)) (h1 : b.K w y (cs.drop (o + s))) : (Kd.pair a b).K w (x, y) (cs.drop o) :=
  ⟨_, _, by rw [← List.drop_drop, List.take_append_drop], h0, h1⟩
theorem lastK {α : Type} {a : Kd α} {w : World} {x : α} {cs : List Value} (o s : Nat) (hl : cs.length = o + s) (h0 : a.K w x ((cs.drop o).take s)) : a.K w x (cs.drop o) := by
  rwa [List.take_of_length_le (by rw [List.length_drop]; omega)] at h0
theorem bulkList {H : Type} (ds : List (DataW H)) (n : Nat) (h : n ≤ Rows.uptoBulkAll ds) : n + 1 ≤ Rows.uptoBulk (.agg ds) := by simp only [Rows.uptoBulk]; omega
theorem okWide_agg {P : Program} {w : World} {r : Reach} {base : Nat} {t : TypeId} {v : Value} {fs : Array Field} (ht : P.underlying t = some (.struct fs)) (h : Value.okWide P w r base t v) : ∃ cs, v = .agg cs := by
  unfold Value.okWide at h
  rw [ht] at h
  obtain ⟨cs, hv, _⟩ := h
  exact ⟨cs, hv⟩
theorem At.here {α : Type} {P : Program} {t : TypeId} {d : Kd α} {wf : α → Prop} {bulk : α → Nat} (hd : ∀ f, At f P t d wf bulk) {H : Type} {enc : TypeId × Value → H} {w : World} {base : Nat} {spare : Nat → Bool} {held : Bool} {v : Value} {x : DataW H} {ps : List MemPlace}
    (h : DataW.Trod enc P w base spare held t v x ps) : ∃ a : α, d.K w a v.cells.toList ∧ wf a ∧ bulk a ≤ Rows.uptoBulk x := by
  obtain ⟨f, hf⟩ := h
  exact hd f H enc w base spare held _ _ hf
theorem at73_73 (f : Nat) : At f Tryd.prog 73 k73 wf73 bulk73 := by
  intro H enc w base spare held cs x h
  obtain ⟨xs, n, rfl, rfl, hl, hlen, hf⟩ := DataW.trod_struct Tryd.underlying73 h
  have hl' : cs.length = 2 := hl.trans (by kernel_rfl)
  match xs, hlen with
  | [y0, y1], _ =>
    obtain ⟨a0, K0, w0, b0⟩ := ((At.string Tryd.underlying9) n) H enc w base spare held _ y0 (hf 0 _ rfl)
    replace b0 : (a0.size + 1) ≤ Rows.uptoBulk y0.1 := b0
    replace K0 := (show (Kd.string).K w a0 ((cs.drop 0).take 1) from K0)
    obtain ⟨a1, K1, w1, b1⟩ := ((fun f_ => At.slice Tryd.underlying60 (show Tryd.prog.cellsOf 9 = 1 from by kernel_rfl) (fun n_ _ => (At.string Tryd.underlying9) n_)) n) H enc w base spare held _ y1 (hf 1 _ rfl)
    replace b1 : ((a1.map (fun s => s.size + 1)).sum + 1) ≤ Rows.uptoBulk y1.1 := b1
    replace K1 := (show ((Kd.slice 9 Kd.string)).K w a1 ((cs.drop 1).take 1) from K1)
    refine ⟨⟨a0, a1⟩, pairK 0 1 K0 (lastK 1 1 (by omega) K1), ⟨w0, w1⟩, bulkList _ _ ?_⟩
    simp only [Rows.uptoBulkAll, List.map]
    omega
theorem at25_25 (f : Nat) : At f Tryd.prog 25 k25 wf25 bulk25 := by
  intro H enc w base spare held cs x h
  obtain ⟨xs, n, rfl, rfl, hl, hlen, hf⟩ := DataW.trod_struct Tryd.underlying25 h
  have hl' : cs.length = 3 := hl.trans (by kernel_rfl)
  match xs, hlen with
  | [y0, y1, y2], _ =>
    obtain ⟨a0, K0, w0, b0⟩ := ((fun f_ => At.slice Tryd.underlying22 (show Tryd.prog.cellsOf 73 = 2 from by kernel_rfl) (fun n_ _ => (at73_73) n_)) n) H enc w base spare held _ y0 (hf 0 _ rfl)
    replace b0 : ((a0.map bulk73).sum + 1) ≤ Rows.uptoBulk y0.1 := b0
    replace K0 := (show ((Kd.slice 73 k73)).K w a0 ((cs.drop 0).take 1) from K0)
    obtain ⟨a1, K1, w1, b1⟩ := ((fun f_ => At.slice Tryd.underlying23 (show Tryd.prog.cellsOf 3 = 1 from by kernel_rfl) (fun n_ _ => (At.int Tryd.underlying3) n_)) n) H enc w base spare held _ y1 (hf 1 _ rfl)
    replace b1 : ((a1.map (fun _ => 1)).sum + 1) ≤ Rows.uptoBulk y1.1 := b1
    replace K1 := (show ((Kd.slice 3 (Kd.int .i64))).K w a1 ((cs.drop 1).take 1) from K1)
    obtain ⟨a2, K2, w2, b2⟩ := ((At.int Tryd.underlying3) n) H enc w base spare held _ y2 (hf 2 _ rfl)
    replace b2 : 1 ≤ Rows.uptoBulk y2.1 := b2
    replace K2 := (show ((Kd.int .i64)).K w a2 ((cs.drop 2).take 1) from K2)
    refine ⟨⟨a0, a1, a2⟩, pairK 0 1 K0 (pairK 1 1 K1 (lastK 2 1 (by omega) K2)), ⟨w0, w1, w2⟩, bulkList _ _ ?_⟩
    simp only [Rows.uptoBulkAll, List.map]
    omega
theorem at62_62 (f : Nat) : At f Tryd.prog 62 k62 wf62 bulk62 := by
  intro H enc w base spare held cs x h
  obtain ⟨xs, n, rfl, rfl, hl, hlen, hf⟩ := DataW.trod_struct Tryd.underlying62 h
  have hl' : cs.length = 4 := hl.trans (by kernel_rfl)
  match xs, hlen with
  | [y0, y1, y2, y3], _ =>
    obtain ⟨a0, K0, w0, b0⟩ := ((At.string Tryd.underlying9) n) H enc w base spare held _ y0 (hf 0 _ rfl)
    replace b0 : (a0.size + 1) ≤ Rows.uptoBulk y0.1 := b0
    replace K0 := (show (Kd.string).K w a0 ((cs.drop 0).take 1) from K0)
    obtain ⟨a1, K1, w1, b1⟩ := ((fun f_ => At.slice Tryd.underlying60 (show Tryd.prog.cellsOf 9 = 1 from by kernel_rfl) (fun n_ _ => (At.string Tryd.underlying9) n_)) n) H enc w base spare held _ y1 (hf 1 _ rfl)
    replace b1 : ((a1.map (fun s => s.size + 1)).sum + 1) ≤ Rows.uptoBulk y1.1 := b1
    replace K1 := (show ((Kd.slice 9 Kd.string)).K w a1 ((cs.drop 1).take 1) from K1)
    obtain ⟨a2, K2, w2, b2⟩ := ((At.int Tryd.underlying3) n) H enc w base spare held _ y2 (hf 2 _ rfl)
    replace b2 : 1 ≤ Rows.uptoBulk y2.1 := b2
    replace K2 := (show ((Kd.int .i64)).K w a2 ((cs.drop 2).take 1) from K2)
    obtain ⟨a3, K3, w3, b3⟩ := ((At.int Tryd.underlying3) n) H enc w base spare held _ y3 (hf 3 _ rfl)
    replace b3 : 1 ≤ Rows.uptoBulk y3.1 := b3
    replace K3 := (show ((Kd.int .i64)).K w a3 ((cs.drop 3).take 1) from K3)
    refine ⟨⟨a0, a1, a2, a3⟩, pairK 0 1 K0 (pairK 1 1 K1 (pairK 2 1 K2 (lastK 3 1 (by omega) K3))), ⟨w0, w1, w2, w3⟩, bulkList _ _ ?_⟩
    simp only [Rows.uptoBulkAll, List.map]
    omega
theorem at28_28 (f : Nat) : At f Tryd.prog 28 k28 wf28 bulk28 := by
  intro H enc w base spare held cs x h
  obtain ⟨xs, n, rfl, rfl, hl, hlen, hf⟩ := DataW.trod_struct Tryd.underlying28 h
  have hl' : cs.length = 4 := hl.trans (by kernel_rfl)
  match xs, hlen with
  | [y0, y1], _ =>
    obtain ⟨a0, K0, w0, b0⟩ := ((at25_25) n) H enc w base spare held _ y0 (hf 0 _ rfl)
    replace b0 : bulk25 a0 ≤ Rows.uptoBulk y0.1 := b0
    replace K0 := (show (k25).K w a0 ((cs.drop 0).take 3) from K0)
    obtain ⟨a1, K1, w1, b1⟩ := ((fun f_ => At.slice Tryd.underlying26 (show Tryd.prog.cellsOf 62 = 4 from by kernel_rfl) (fun n_ _ => (at62_62) n_)) n) H enc w base spare held _ y1 (hf 1 _ rfl)
    replace b1 : ((a1.map bulk62).sum + 1) ≤ Rows.uptoBulk y1.1 := b1
    replace K1 := (show ((Kd.slice 62 k62)).K w a1 ((cs.drop 3).take 1) from K1)
    refine ⟨⟨a0, a1⟩, pairK 0 3 K0 (lastK 3 1 (by omega) K1), ⟨w0, w1⟩, bulkList _ _ ?_⟩
    simp only [Rows.uptoBulkAll, List.map]
    omega
theorem at92_92 (f : Nat) : At f Tryd.prog 92 k92 wf92 bulk92 := by
  intro H enc w base spare held cs x h
  obtain ⟨xs, n, rfl, rfl, hl, hlen, hf⟩ := DataW.trod_struct Tryd.underlying92 h
  have hl' : cs.length = 3 := hl.trans (by kernel_rfl)
  match xs, hlen with
  | [y0, y1, y2], _ =>
    obtain ⟨a0, K0, w0, b0⟩ := ((At.int Tryd.underlying3) n) H enc w base spare held _ y0 (hf 0 _ rfl)
    replace b0 : 1 ≤ Rows.uptoBulk y0.1 := b0
    replace K0 := (show ((Kd.int .i64)).K w a0 ((cs.drop 0).take 1) from K0)
    obtain ⟨a1, K1, w1, b1⟩ := ((At.int Tryd.underlying3) n) H enc w base spare held _ y1 (hf 1 _ rfl)
    replace b1 : 1 ≤ Rows.uptoBulk y1.1 := b1
    replace K1 := (show ((Kd.int .i64)).K w a1 ((cs.drop 1).take 1) from K1)
    obtain ⟨a2, K2, w2, b2⟩ := ((At.string Tryd.underlying9) n) H enc w base spare held _ y2 (hf 2 _ rfl)
    replace b2 : (a2.size + 1) ≤ Rows.uptoBulk y2.1 := b2
    replace K2 := (show (Kd.string).K w a2 ((cs.drop 2).take 1) from K2)
    refine ⟨⟨a0, a1, a2⟩, pairK 0 1 K0 (pairK 1 1 K1 (lastK 2 1 (by omega) K2)), ⟨w0, w1, w2⟩, bulkList _ _ ?_⟩
    simp only [Rows.uptoBulkAll, List.map]
    omega
theorem At.up32 {m n : Nat} (h : At m Tryd.prog 32 (Kd.upto F32 6 [32, 92] m) wf32 bulk32) (hmn : m ≤ n) : At m Tryd.prog 32 (Kd.upto F32 6 [32, 92] n) wf32 bulk32 := fun H enc w base spare held cs x hx => let ⟨a, hK, hw⟩ := h H enc w base spare held cs x hx; ⟨a, Kd.upto_K_le mono32 sz32 hmn hK, hw⟩
theorem atU32_32 (f : Nat) : At f Tryd.prog 32 (Kd.upto F32 6 [32, 92] f) wf32 bulk32 := by
  induction f using Nat.strongRecOn with | _ f ih =>
  intro H enc w base spare held cs x h
  obtain ⟨xs, n, rfl, rfl, hl, hlen, hf⟩ := DataW.trod_struct Tryd.underlying32 h
  have hl' : cs.length = 6 := hl.trans (by kernel_rfl)
  match xs, hlen with
  | [y0, y1, y2, y3, y4, y5], _ =>
    obtain ⟨a0, K0, w0, b0⟩ := ((At.int Tryd.underlying3) n) H enc w base spare held _ y0 (hf 0 _ rfl)
    replace b0 : 1 ≤ Rows.uptoBulk y0.1 := b0
    replace K0 := (show ((Kd.int .i64)).K w a0 ((cs.drop 0).take 1) from K0)
    obtain ⟨a1, K1, w1, b1⟩ := ((At.string Tryd.underlying9) n) H enc w base spare held _ y1 (hf 1 _ rfl)
    replace b1 : (a1.size + 1) ≤ Rows.uptoBulk y1.1 := b1
    replace K1 := (show (Kd.string).K w a1 ((cs.drop 1).take 1) from K1)
    obtain ⟨a2, K2, w2, b2⟩ := ((fun f_ => At.slice Tryd.underlying29 (show Tryd.prog.cellsOf 92 = 3 from by kernel_rfl) (fun n_ _ => (at92_92) n_)) n) H enc w base spare held _ y2 (hf 2 _ rfl)
    replace b2 : ((a2.map bulk92).sum + 1) ≤ Rows.uptoBulk y2.1 := b2
    replace K2 := (show ((Kd.slice 92 k92)).K w a2 ((cs.drop 2).take 1) from K2)
    obtain ⟨a3, K3, w3, b3⟩ := ((At.int Tryd.underlying3) n) H enc w base spare held _ y3 (hf 3 _ rfl)
    replace b3 : 1 ≤ Rows.uptoBulk y3.1 := b3
    replace K3 := (show ((Kd.int .i64)).K w a3 ((cs.drop 3).take 1) from K3)
    obtain ⟨a4, K4, w4, b4⟩ := ((At.int Tryd.underlying3) n) H enc w base spare held _ y4 (hf 4 _ rfl)
    replace b4 : 1 ≤ Rows.uptoBulk y4.1 := b4
    replace K4 := (show ((Kd.int .i64)).K w a4 ((cs.drop 4).take 1) from K4)
    obtain ⟨a5, K5, w5, b5⟩ := ((At.slice (d := Kd.upto F32 6 [32, 92] n) Tryd.underlying30 (by rw [sz32 n]; kernel_rfl) (fun m hm => At.up32 (ih m (by omega)) (by omega)) : At n _ _ _ _ _)) H enc w base spare held _ y5 (hf 5 _ rfl)
    replace b5 : ((a5.map bulk32).sum + 1) ≤ Rows.uptoBulk y5.1 := b5
    replace K5 := (show (Kd.slice 32 (Kd.upto F32 6 [32, 92] n)).K w a5 ((cs.drop 5).take 1) from K5)
    refine ⟨⟨a0, a1, a2, a3, a4, a5⟩, pairK 0 1 K0 (pairK 1 1 K1 (pairK 2 1 K2 (pairK 3 1 K3 (pairK 4 1 K4 (lastK 5 1 (by omega) K5))))), (by unfold wf32; exact ⟨w0, w1, w2, w3, w4, (wfL32_iff _).2 w5⟩), bulkList _ _ ?_⟩
    try unfold bulk32
    simp only [bulkL32_eq, Rows.uptoBulkAll, List.map]
    omega
theorem at32_32 (f : Nat) : At f Tryd.prog 32 k32 wf32 bulk32 := fun H enc w base spare held cs x hx => let ⟨a, hK, hw⟩ := atU32_32 f H enc w base spare held cs x hx; ⟨a, ⟨f, hK⟩, hw⟩
end Go.Proofs.YtolpckflofjfhaaDoor.P
