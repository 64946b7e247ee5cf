import Derived.Test.YtolpckflofjfhaaDoorProg
import Derived.Below
import Derived.Deep.Draws
import Derived.Deep.AppendLies
import Derived.Maps.AppendAt
import Derived.OwnWalk
import Derived.Laws.BytesArg
import Derived.Laws.MakeOwn
import Derived.Laws.OwnMore
import Derived.Deep.OwnRows
import Derived.Tactics
import Derived.Lib.ConvBytes
import Derived.Laws.Slices
import Derived.WalkKit
import Derived.KernelRfl
import Derived.RowKit3
import Derived.Deep.LoopGhost
import Derived.Deep.QuietTactic
import Derived.BigQuiet
import Derived.WideLaws
import Derived.Deep.DeepCutAuto
import Derived.Deep.CutBlock
import Derived.Deep.RegionHeld3
import Derived.Laws.Rows
import Derived.Lib.AppendStr
import Derived.ArgAppend
import Derived.Laws.IdiomCopy
import Derived.OrdersHeld
import Derived.Laws.BitsLemmas
import Derived.RowKit
import Derived.Laws.Cover1
import Derived.Test.YtolpckflofjfhaaDoorXWords
import Derived.Test.YtolpckflofjfhaaDoorXReg
import Derived.Test.YtolpckflofjfhaaDoorPIt
import Derived.Test.YtolpckflofjfhaaDoorPMp
import Derived.Test.YtolpckflofjfhaaDoorWAll
namespace Go.Proofs.YtolpckflofjfhaaDoor.P
open Go.RowKit Go.Proofs.YtolpckflofjfhaaDoorW.PrintWords Go.Proofs.YtolpckflofjfhaaDoorW.PrintLast Go.Proofs.YtolpckflofjfhaaDoorW.PrintMore
attribute [local go_sem] max2_int min2_int max_two min_two max_three min_three max_four min_four
set_option linter.unusedVariables false
set_option linter.unusedSimpArgs false
def errW : Option Int → Value
 | none => .nilIface
 | some c => .iface 0 (.int .i64 c)
theorem errW_none : errW none = .nilIface := rfl
theorem errW_some (c : Int) : errW (some c) = .iface 0 (.int .i64 c) := rfl
theorem info3 : (Tryd.prog.info? 3).map (fun i => (i.zero, i.size, i.bytes)) = some (some (.int .i64 0), 1, 8) := by kernel_rfl
theorem info9 : (Tryd.prog.info? 9).map (fun i => (i.zero, i.size, i.bytes)) = some (some (.string ⟨#[]⟩), 1, 16) := by kernel_rfl
theorem info32 : (Tryd.prog.info? 32).map (fun i => (i.zero, i.size, i.bytes)) = some (some (.agg #[(.int .i64 0), (.string ⟨#[]⟩), (.slice none 0 0), (.int .i64 0), (.int .i64 0), (.slice none 0 0)]), 6, 88) := by kernel_rfl
structure S73 where
 f0 : ByteArray
 f1 : (List ByteArray)
def z73 : S73 := ⟨(⟨#[]⟩ : ByteArray), ([] : List ByteArray)⟩
def k73 : Kd S73 := Kd.iso (Kd.pair Kd.string (Kd.slice 9 Kd.string)) (fun x : S73 => (x.f0, x.f1))
theorem k73_heap : Kd.Heap k73 := Kd.heap_iso _ (Kd.heap_pair Kd.heap_string (Kd.heap_slice 9 Kd.heap_string))
theorem k73_open {w : World} {x : S73} {cs : List Value} (h : k73.K w x cs) : ∃ A1 c1, cs = [.string x.f0, .slice A1 x.f1.length c1] ∧ x.f1.length ≤ c1 ∧ Kd.string.C w A1 x.f1.length x.f1 := by
 obtain ⟨_, _, rfl, rfl, ⟨A1, c1, rfl, l1, g1⟩⟩ := h
 exact ⟨A1, c1, rfl, l1, g1⟩
theorem k73_mk (w : World) (x : S73) {A1 : Option Addr} {c1 : Nat} (l1 : x.f1.length ≤ c1) (g1 : Kd.string.C w A1 x.f1.length x.f1) : k73.K w x [.string x.f0, .slice A1 x.f1.length c1] := ⟨[.string x.f0], [.slice A1 x.f1.length c1], rfl, rfl, ⟨A1, c1, rfl, l1, g1⟩⟩
theorem k73_openF {W : World} {ok : Nat → Prop} {x : S73} {cs : List Value} (h : Kd.FK k73 W ok x cs) : ∃ A1 c1, cs = [.string x.f0, .slice A1 x.f1.length c1] ∧ x.f1.length ≤ c1 ∧ Kd.F Kd.string W ok A1 x.f1.length x.f1 := by
 obtain ⟨A1, c1, rfl, l1, _⟩ := k73_open (Kd.FK_now h)
 exact ⟨A1, c1, rfl, l1, (fun W' hW => by obtain ⟨A1_, c1_, he, l1_, g1_⟩ := k73_open (h W' hW); injection (Option.some.inj (show some (Value.slice A1 x.f1.length c1) = some (Value.slice A1_ x.f1.length c1_) from congrArg (fun l => l[1]?) he)) with ha_ _ _; rw [ha_]; exact g1_)⟩
theorem k73_mkF (W : World) (ok : Nat → Prop) (x : S73) {A1 : Option Addr} {c1 : Nat} (l1 : x.f1.length ≤ c1) (g1 : Kd.F Kd.string W ok A1 x.f1.length x.f1) : Kd.FK k73 W ok x [.string x.f0, .slice A1 x.f1.length c1] := fun W2 hW => k73_mk W2 x l1 (g1 W2 hW)
def rd_T73 (xs : List S73) (i : Int) : S73 := xs.getD i.toNat z73
theorem at_T73 {w : World} {A : Option Addr} {n : Nat} {xs : List S73} (h : Kd.C k73 w A n xs) (i : Int) (h0 : 0 ≤ i) (h1 : i < n) : ∃ ad A1 c1, A = some ad ∧ w.cell? (ad.add (i.toNat * 2)) = some (.string (rd_T73 xs i).f0) ∧ w.cell? ⟨(ad.add (i.toNat * 2)).block, (ad.add (i.toNat * 2)).off + 1, none⟩ = some (.slice A1 (rd_T73 xs i).f1.length c1) ∧ (rd_T73 xs i).f1.length ≤ c1 ∧ Kd.string.C w A1 (rd_T73 xs i).f1.length (rd_T73 xs i).f1 := by
 obtain ⟨ad, c, e, _, hK, hc0⟩ := Kd.C_get h z73 i h0 h1
 have hc : ∀ j u, c[j]? = some u → w.cell? (ad.add (i.toNat * 2 + j)) = some u := hc0
 obtain ⟨A1, c1, rfl, l1, g1⟩ := k73_open hK
 exact ⟨ad, A1, c1, e, hc 0 _ rfl, by rw [← add_field _ _ 1 (by omega)]; exact hc 1 _ rfl, l1, g1⟩
structure S25 where
 f0 : (List S73)
 f1 : (List Int)
 f2 : Int
def k25 : Kd S25 := Kd.iso (Kd.pair (Kd.slice 73 k73) (Kd.pair (Kd.slice 3 (Kd.int .i64)) (Kd.int .i64))) (fun x : S25 => (x.f0, x.f1, x.f2))
theorem k25_open {w : World} {x : S25} {cs : List Value} (h : k25.K w x cs) : ∃ A0 c0 A1 c1, cs = [.slice A0 x.f0.length c0, .slice A1 x.f1.length c1, .int .i64 x.f2] ∧ x.f0.length ≤ c0 ∧ k73.C w A0 x.f0.length x.f0 ∧ x.f1.length ≤ c1 ∧ (Kd.int .i64).C w A1 x.f1.length x.f1 := by
 obtain ⟨_, _, rfl, ⟨A0, c0, rfl, l0, g0⟩, ⟨_, _, rfl, ⟨A1, c1, rfl, l1, g1⟩, rfl⟩⟩ := h
 exact ⟨A0, c0, A1, c1, rfl, l0, g0, l1, g1⟩
structure S92 where
 f0 : Int
 f1 : Int
 f2 : ByteArray
def z92 : S92 := ⟨(0 : Int), (0 : Int), (⟨#[]⟩ : ByteArray)⟩
def k92 : Kd S92 := Kd.iso (Kd.pair (Kd.int .i64) (Kd.pair (Kd.int .i64) Kd.string)) (fun x : S92 => (x.f0, x.f1, x.f2))
theorem k92_open {w : World} {x : S92} {cs : List Value} (h : k92.K w x cs) : cs = [.int .i64 x.f0, .int .i64 x.f1, .string x.f2] := by
 obtain ⟨_, _, rfl, rfl, ⟨_, _, rfl, rfl, rfl⟩⟩ := h
 exact rfl
theorem k92_mkM (w : World) (base : Nat) (ok : Nat → Prop) (x : S92)  : k92.M w base ok x [.int .i64 x.f0, .int .i64 x.f1, .string x.f2] := ⟨[.int .i64 x.f0], [.int .i64 x.f1, .string x.f2], rfl, rfl, ⟨[.int .i64 x.f1], [.string x.f2], rfl, rfl, rfl⟩⟩
def rd_T92 (xs : List S92) (i : Int) : S92 := xs.getD i.toNat z92
theorem at_T92 {w : World} {A : Option Addr} {n : Nat} {xs : List S92} (h : Kd.C k92 w A n xs) (i : Int) (h0 : 0 ≤ i) (h1 : i < n) : ∃ ad , A = some ad ∧ w.cell? (ad.add (i.toNat * 3)) = some (.int .i64 (rd_T92 xs i).f0) ∧ w.cell? ⟨(ad.add (i.toNat * 3)).block, (ad.add (i.toNat * 3)).off + 1, none⟩ = some (.int .i64 (rd_T92 xs i).f1) ∧ w.cell? ⟨(ad.add (i.toNat * 3)).block, (ad.add (i.toNat * 3)).off + 2, none⟩ = some (.string (rd_T92 xs i).f2) := by
 obtain ⟨ad, c, e, _, hK, hc0⟩ := Kd.C_get h z92 i h0 h1
 have hc : ∀ j u, c[j]? = some u → w.cell? (ad.add (i.toNat * 3 + j)) = some u := hc0
 obtain rfl := k92_open hK
 exact ⟨ad, e, hc 0 _ rfl, by rw [← add_field _ _ 1 (by omega)]; exact hc 1 _ rfl, by rw [← add_field _ _ 2 (by omega)]; exact hc 2 _ rfl⟩
structure S32 where
 f0 : Int
 f1 : ByteArray
 f2 : (List S92)
 f3 : Int
 f4 : Int
 f5 : (List S32)
def z32 : S32 := ⟨(0 : Int), (⟨#[]⟩ : ByteArray), ([] : List S92), (0 : Int), (0 : Int), ([] : List S32)⟩
def F32 (d : Kd S32) : Kd S32 := Kd.iso (Kd.pair (Kd.int .i64) (Kd.pair Kd.string (Kd.pair (Kd.slice 92 k92) (Kd.pair (Kd.int .i64) (Kd.pair (Kd.int .i64) (Kd.slice 32 d)))))) (fun x : S32 => (x.f0, x.f1, x.f2, x.f3, x.f4, x.f5))
theorem mono32 : Kd.Mono F32 := Kd.mono_iso _ (Kd.mono_pair (Kd.mono_const _) (Kd.mono_pair (Kd.mono_const _) (Kd.mono_pair (Kd.mono_const _) (Kd.mono_pair (Kd.mono_const _) (Kd.mono_pair (Kd.mono_const _) (Kd.mono_slice 32 Kd.mono_id))))))
theorem sub32 : Kd.Sub F32 [32, 92] := Kd.sub_iso _ (Kd.sub_pair (Kd.sub_const _ (by decide)) (Kd.sub_pair (Kd.sub_const _ (by decide)) (Kd.sub_pair (Kd.sub_const _ (by decide)) (Kd.sub_pair (Kd.sub_const _ (by decide)) (Kd.sub_pair (Kd.sub_const _ (by decide)) (Kd.sub_slice 32 (by decide) Kd.sub_id))))))
theorem sz32 : ∀ n, (Kd.upto F32 6 [32, 92] n).sz = 6 := Kd.upto_sz (fun _ => rfl)
def k32 : Kd S32 := Kd.fix F32 6 [32, 92] sz32 (Kd.upto_E sub32)
theorem k32_open {w : World} {x : S32} {cs : List Value} (h : k32.K w x cs) : ∃ A2 c2 A5 c5, cs = [.int .i64 x.f0, .string x.f1, .slice A2 x.f2.length c2, .int .i64 x.f3, .int .i64 x.f4, .slice A5 x.f5.length c5] ∧ x.f2.length ≤ c2 ∧ k92.C w A2 x.f2.length x.f2 ∧ x.f5.length ≤ c5 ∧ k32.C w A5 x.f5.length x.f5 := by
 obtain ⟨n, h⟩ := h
 cases n with
 | zero => exact h.elim
 | succ n =>
  obtain ⟨_, _, rfl, rfl, ⟨_, _, rfl, rfl, ⟨_, _, rfl, ⟨A2, c2, rfl, l2, g2⟩, ⟨_, _, rfl, rfl, ⟨_, _, rfl, rfl, ⟨A5, c5, rfl, l5, g5⟩⟩⟩⟩⟩⟩ := h
  exact ⟨A2, c2, A5, c5, rfl, l2, g2, l5, Kd.fix_C g5⟩
theorem k32_mk (w : World) (x : S32) {A2 : Option Addr} {c2 : Nat} (l2 : x.f2.length ≤ c2) (g2 : k92.C w A2 x.f2.length x.f2) {A5 : Option Addr} {c5 : Nat} (l5 : x.f5.length ≤ c5) (g5 : k32.C w A5 x.f5.length x.f5) : k32.K w x [.int .i64 x.f0, .string x.f1, .slice A2 x.f2.length c2, .int .i64 x.f3, .int .i64 x.f4, .slice A5 x.f5.length c5] := by
 obtain ⟨n5, q5⟩ := Kd.fix_C_back mono32 g5
 have r5 := Kd.upto_C_le mono32 sz32 (show n5 ≤ n5 by omega) q5
 exact ⟨n5 + 1, ⟨[.int .i64 x.f0], [.string x.f1, .slice A2 x.f2.length c2, .int .i64 x.f3, .int .i64 x.f4, .slice A5 x.f5.length c5], rfl, rfl, ⟨[.string x.f1], [.slice A2 x.f2.length c2, .int .i64 x.f3, .int .i64 x.f4, .slice A5 x.f5.length c5], rfl, rfl, ⟨[.slice A2 x.f2.length c2], [.int .i64 x.f3, .int .i64 x.f4, .slice A5 x.f5.length c5], rfl, ⟨A2, c2, rfl, l2, g2⟩, ⟨[.int .i64 x.f3], [.int .i64 x.f4, .slice A5 x.f5.length c5], rfl, rfl, ⟨[.int .i64 x.f4], [.slice A5 x.f5.length c5], rfl, rfl, ⟨A5, c5, rfl, l5, r5⟩⟩⟩⟩⟩⟩⟩
theorem k32_openF {W : World} {ok : Nat → Prop} {x : S32} {cs : List Value} (h : Kd.FK k32 W ok x cs) : ∃ A2 c2 A5 c5, cs = [.int .i64 x.f0, .string x.f1, .slice A2 x.f2.length c2, .int .i64 x.f3, .int .i64 x.f4, .slice A5 x.f5.length c5] ∧ x.f2.length ≤ c2 ∧ Kd.F k92 W ok A2 x.f2.length x.f2 ∧ x.f5.length ≤ c5 ∧ Kd.F k32 W ok A5 x.f5.length x.f5 := by
 obtain ⟨A2, c2, A5, c5, rfl, l2, _, l5, _⟩ := k32_open (Kd.FK_now h)
 exact ⟨A2, c2, A5, c5, rfl, l2, (fun W' hW => by obtain ⟨A2_, c2_, A5_, c5_, he, l2_, g2_, l5_, g5_⟩ := k32_open (h W' hW); injection (Option.some.inj (show some (Value.slice A2 x.f2.length c2) = some (Value.slice A2_ x.f2.length c2_) from congrArg (fun l => l[2]?) he)) with ha_ _ _; rw [ha_]; exact g2_), l5, (fun W' hW => by obtain ⟨A2_, c2_, A5_, c5_, he, l2_, g2_, l5_, g5_⟩ := k32_open (h W' hW); injection (Option.some.inj (show some (Value.slice A5 x.f5.length c5) = some (Value.slice A5_ x.f5.length c5_) from congrArg (fun l => l[5]?) he)) with ha_ _ _; rw [ha_]; exact g5_)⟩
theorem k32_mkF (W : World) (ok : Nat → Prop) (x : S32) {A2 : Option Addr} {c2 : Nat} (l2 : x.f2.length ≤ c2) (g2 : Kd.F k92 W ok A2 x.f2.length x.f2) {A5 : Option Addr} {c5 : Nat} (l5 : x.f5.length ≤ c5) (g5 : Kd.F k32 W ok A5 x.f5.length x.f5) : Kd.FK k32 W ok x [.int .i64 x.f0, .string x.f1, .slice A2 x.f2.length c2, .int .i64 x.f3, .int .i64 x.f4, .slice A5 x.f5.length c5] := fun W2 hW => k32_mk W2 x l2 (g2 W2 hW) l5 (g5 W2 hW)
def rd_T32 (xs : List S32) (i : Int) : S32 := xs.getD i.toNat z32
theorem at_T32 {w : World} {A : Option Addr} {n : Nat} {xs : List S32} (h : Kd.C k32 w A n xs) (i : Int) (h0 : 0 ≤ i) (h1 : i < n) : ∃ ad A2 c2 A5 c5, A = some ad ∧ w.cell? (ad.add (i.toNat * 6)) = some (.int .i64 (rd_T32 xs i).f0) ∧ w.cell? ⟨(ad.add (i.toNat * 6)).block, (ad.add (i.toNat * 6)).off + 1, none⟩ = some (.string (rd_T32 xs i).f1) ∧ w.cell? ⟨(ad.add (i.toNat * 6)).block, (ad.add (i.toNat * 6)).off + 2, none⟩ = some (.slice A2 (rd_T32 xs i).f2.length c2) ∧ w.cell? ⟨(ad.add (i.toNat * 6)).block, (ad.add (i.toNat * 6)).off + 3, none⟩ = some (.int .i64 (rd_T32 xs i).f3) ∧ w.cell? ⟨(ad.add (i.toNat * 6)).block, (ad.add (i.toNat * 6)).off + 4, none⟩ = some (.int .i64 (rd_T32 xs i).f4) ∧ w.cell? ⟨(ad.add (i.toNat * 6)).block, (ad.add (i.toNat * 6)).off + 5, none⟩ = some (.slice A5 (rd_T32 xs i).f5.length c5) ∧ (rd_T32 xs i).f2.length ≤ c2 ∧ k92.C w A2 (rd_T32 xs i).f2.length (rd_T32 xs i).f2 ∧ (rd_T32 xs i).f5.length ≤ c5 ∧ k32.C w A5 (rd_T32 xs i).f5.length (rd_T32 xs i).f5 := by
 obtain ⟨ad, c, e, _, hK, hc0⟩ := Kd.C_get h z32 i h0 h1
 have hc : ∀ j u, c[j]? = some u → w.cell? (ad.add (i.toNat * 6 + j)) = some u := hc0
 obtain ⟨A2, c2, A5, c5, rfl, l2, g2, l5, g5⟩ := k32_open hK
 exact ⟨ad, A2, c2, A5, c5, e, hc 0 _ rfl, by rw [← add_field _ _ 1 (by omega)]; exact hc 1 _ rfl, by rw [← add_field _ _ 2 (by omega)]; exact hc 2 _ rfl, by rw [← add_field _ _ 3 (by omega)]; exact hc 3 _ rfl, by rw [← add_field _ _ 4 (by omega)]; exact hc 4 _ rfl, by rw [← add_field _ _ 5 (by omega)]; exact hc 5 _ rfl, l2, g2, l5, g5⟩
structure S62 where
 f0 : ByteArray
 f1 : (List ByteArray)
 f2 : Int
 f3 : Int
def z62 : S62 := ⟨(⟨#[]⟩ : ByteArray), ([] : List ByteArray), (0 : Int), (0 : Int)⟩
def k62 : Kd S62 := Kd.iso (Kd.pair Kd.string (Kd.pair (Kd.slice 9 Kd.string) (Kd.pair (Kd.int .i64) (Kd.int .i64)))) (fun x : S62 => (x.f0, x.f1, x.f2, x.f3))
theorem k62_open {w : World} {x : S62} {cs : List Value} (h : k62.K w x cs) : ∃ A1 c1, cs = [.string x.f0, .slice A1 x.f1.length c1, .int .i64 x.f2, .int .i64 x.f3] ∧ x.f1.length ≤ c1 ∧ Kd.string.C w A1 x.f1.length x.f1 := by
 obtain ⟨_, _, rfl, rfl, ⟨_, _, rfl, ⟨A1, c1, rfl, l1, g1⟩, ⟨_, _, rfl, rfl, rfl⟩⟩⟩ := h
 exact ⟨A1, c1, rfl, l1, g1⟩
theorem k62_mk (w : World) (x : S62) {A1 : Option Addr} {c1 : Nat} (l1 : x.f1.length ≤ c1) (g1 : Kd.string.C w A1 x.f1.length x.f1) : k62.K w x [.string x.f0, .slice A1 x.f1.length c1, .int .i64 x.f2, .int .i64 x.f3] := ⟨[.string x.f0], [.slice A1 x.f1.length c1, .int .i64 x.f2, .int .i64 x.f3], rfl, rfl, ⟨[.slice A1 x.f1.length c1], [.int .i64 x.f2, .int .i64 x.f3], rfl, ⟨A1, c1, rfl, l1, g1⟩, ⟨[.int .i64 x.f2], [.int .i64 x.f3], rfl, rfl, rfl⟩⟩⟩
theorem k62_mkF (W : World) (ok : Nat → Prop) (x : S62) {A1 : Option Addr} {c1 : Nat} (l1 : x.f1.length ≤ c1) (g1 : Kd.F Kd.string W ok A1 x.f1.length x.f1) : Kd.FK k62 W ok x [.string x.f0, .slice A1 x.f1.length c1, .int .i64 x.f2, .int .i64 x.f3] := fun W2 hW => k62_mk W2 x l1 (g1 W2 hW)
def rd_T62 (xs : List S62) (i : Int) : S62 := xs.getD i.toNat z62
theorem at_T62 {w : World} {A : Option Addr} {n : Nat} {xs : List S62} (h : Kd.C k62 w A n xs) (i : Int) (h0 : 0 ≤ i) (h1 : i < n) : ∃ ad A1 c1, A = some ad ∧ w.cell? (ad.add (i.toNat * 4)) = some (.string (rd_T62 xs i).f0) ∧ w.cell? ⟨(ad.add (i.toNat * 4)).block, (ad.add (i.toNat * 4)).off + 1, none⟩ = some (.slice A1 (rd_T62 xs i).f1.length c1) ∧ w.cell? ⟨(ad.add (i.toNat * 4)).block, (ad.add (i.toNat * 4)).off + 2, none⟩ = some (.int .i64 (rd_T62 xs i).f2) ∧ w.cell? ⟨(ad.add (i.toNat * 4)).block, (ad.add (i.toNat * 4)).off + 3, none⟩ = some (.int .i64 (rd_T62 xs i).f3) ∧ (rd_T62 xs i).f1.length ≤ c1 ∧ Kd.string.C w A1 (rd_T62 xs i).f1.length (rd_T62 xs i).f1 := by
 obtain ⟨ad, c, e, _, hK, hc0⟩ := Kd.C_get h z62 i h0 h1
 have hc : ∀ j u, c[j]? = some u → w.cell? (ad.add (i.toNat * 4 + j)) = some u := hc0
 obtain ⟨A1, c1, rfl, l1, g1⟩ := k62_open hK
 exact ⟨ad, A1, c1, e, hc 0 _ rfl, by rw [← add_field _ _ 1 (by omega)]; exact hc 1 _ rfl, by rw [← add_field _ _ 2 (by omega)]; exact hc 2 _ rfl, by rw [← add_field _ _ 3 (by omega)]; exact hc 3 _ rfl, l1, g1⟩
structure S28 where
 f0 : S25
 f1 : (List S62)
def k28 : Kd S28 := Kd.iso (Kd.pair k25 (Kd.slice 62 k62)) (fun x : S28 => (x.f0, x.f1))
theorem k28_open {w : World} {x : S28} {cs : List Value} (h : k28.K w x cs) : ∃ A0 c0 A1 c1 A3 c3, cs = [.slice A0 x.f0.f0.length c0, .slice A1 x.f0.f1.length c1, .int .i64 x.f0.f2, .slice A3 x.f1.length c3] ∧ x.f0.f0.length ≤ c0 ∧ k73.C w A0 x.f0.f0.length x.f0.f0 ∧ x.f0.f1.length ≤ c1 ∧ (Kd.int .i64).C w A1 x.f0.f1.length x.f0.f1 ∧ x.f1.length ≤ c3 ∧ k62.C w A3 x.f1.length x.f1 := by
 obtain ⟨_, _, rfl, s0, ⟨A3, c3, rfl, l3, g3⟩⟩ := h
 obtain ⟨A0, c0, A1, c1, rfl, l0, g0, l1, g1⟩ := k25_open s0
 exact ⟨A0, c0, A1, c1, A3, c3, rfl, l0, g0, l1, g1, l3, g3⟩
def wf73 (x : S73) : Prop := x.f0.size ≤ 9223372036854775807 ∧ (∀ a ∈ x.f1, a.size ≤ 9223372036854775807)
def bulk73 (x : S73) : Nat := (x.f0.size + 1) + ((x.f1.map (fun s => s.size + 1)).sum + 1) + 1
def wf25 (x : S25) : Prop := (∀ a ∈ x.f0, wf73 a) ∧ (∀ a ∈ x.f1, (Lit.int .i64 a).wf = true) ∧ (Lit.int .i64 x.f2).wf = true
def bulk25 (x : S25) : Nat := ((x.f0.map bulk73).sum + 1) + ((x.f1.map (fun _ => 1)).sum + 1) + 1 + 1
def wf92 (x : S92) : Prop := (Lit.int .i64 x.f0).wf = true ∧ (Lit.int .i64 x.f1).wf = true ∧ x.f2.size ≤ 9223372036854775807
def bulk92 (x : S92) : Nat := 1 + 1 + (x.f2.size + 1) + 1
mutual
def wf32 : S32 → Prop
 | ⟨f0, f1, f2, f3, f4, f5⟩ => (Lit.int .i64 f0).wf = true ∧ f1.size ≤ 9223372036854775807 ∧ (∀ a ∈ f2, wf92 a) ∧ (Lit.int .i64 f3).wf = true ∧ (Lit.int .i64 f4).wf = true ∧ wfL32 f5
def wfL32 : List S32 → Prop
 | [] => True
 | a :: l => wf32 a ∧ wfL32 l
end
mutual
def bulk32 : S32 → Nat
 | ⟨f0, f1, f2, f3, f4, f5⟩ => 1 + (f1.size + 1) + ((f2.map bulk92).sum + 1) + 1 + 1 + (bulkL32 f5 + 1) + 1
def bulkL32 : List S32 → Nat
 | [] => 0
 | a :: l => bulk32 a + bulkL32 l
end
theorem wfL32_iff : ∀ l : List S32, wfL32 l ↔ ∀ a ∈ l, wf32 a
 | [] => by simp [wfL32]
 | a :: l => by simp [wfL32, wfL32_iff l]
theorem bulkL32_eq : ∀ l : List S32, bulkL32 l = (l.map bulk32).sum
 | [] => by simp [bulkL32]
 | a :: l => by simp [bulkL32, bulkL32_eq l]
def wf62 (x : S62) : Prop := x.f0.size ≤ 9223372036854775807 ∧ (∀ a ∈ x.f1, a.size ≤ 9223372036854775807) ∧ (Lit.int .i64 x.f2).wf = true ∧ (Lit.int .i64 x.f3).wf = true
def bulk62 (x : S62) : Nat := (x.f0.size + 1) + ((x.f1.map (fun s => s.size + 1)).sum + 1) + 1 + 1 + 1
def wf28 (x : S28) : Prop := wf25 x.f0 ∧ (∀ a ∈ x.f1, wf62 a)
def bulk28 (x : S28) : Nat := bulk25 x.f0 + ((x.f1.map bulk62).sum + 1) + 1
end Go.Proofs.YtolpckflofjfhaaDoor.P
