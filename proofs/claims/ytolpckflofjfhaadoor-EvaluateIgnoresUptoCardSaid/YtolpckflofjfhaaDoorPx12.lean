-- printed by wip/tools/xprint.py
import Derived.Test.YtolpckflofjfhaaDoorPx0
import Derived.Test.YtolpckflofjfhaaDoorPx10
import Derived.Test.YtolpckflofjfhaaDoorPx11
namespace Go.Proofs.YtolpckflofjfhaaDoor.P
open Go.RowKit Go.Proofs.YtolpckflofjfhaaDoorW.PrintWords Go.Proofs.YtolpckflofjfhaaDoorW.PrintLast Go.Proofs.YtolpckflofjfhaaDoorW.PrintMore
attribute [local go_sem] max2_int min2_int max_two min_two max_three min_three max_four min_four
set_option linter.unusedVariables false
set_option maxHeartbeats 16000000
set_option maxRecDepth 100000
set_option linter.unusedSimpArgs false

def pentaglotlaw26_example.f  : Option ((List (S73)) × List Int × Int × (List (S62))) := some ((([(⟨(⟨#[112, 101, 114, 115, 111, 110]⟩ : ByteArray), (([(⟨#[109, 97, 114, 116, 97]⟩ : ByteArray), (⟨#[112, 101, 114, 115, 111, 110, 35, 49]⟩ : ByteArray)] : List ByteArray))⟩ : S73)] : List (S73))), (([60] : List Int)), 1, (([(⟨(⟨#[119, 97, 105, 116]⟩ : ByteArray), (([(⟨#[109, 97, 114, 116, 97]⟩ : ByteArray)] : List ByteArray)), 1, 0⟩ : S62), (⟨(⟨#[119, 97, 105, 116]⟩ : ByteArray), (([(⟨#[112, 101, 114, 115, 111, 110, 35, 49]⟩ : ByteArray)] : List ByteArray)), 1, 1⟩ : S62)] : List (S62))))
theorem pentaglotlaw26_example.calls  (r1 : List (S73)) (r2 : List Int) (r3 : Int) (r4 : List (S62)) (w : World) (h : pentaglotlaw26_example.f  = some (r1, r2, r3, r4)) :
    Calls Tryd.prog 33 #[] w fun e w' => ∃ v0_ v1_ v3_ : Value, e = .returned (.agg #[v0_, v1_, .int .i64 r3, v3_]) ∧ Kd.N k73 73 w' w.heap.size (fun k_ => (w.heap.size ≤ k_) ∧ some k_ ≠ (v1_ : Value).ownBlock ∧ some k_ ≠ (v3_ : Value).ownBlock) v0_ r1 ∧ Kd.R (Kd.int .i64) 3 w' w.heap.size (fun k_ => (w.heap.size ≤ k_)) v1_ r2 ∧ Kd.N k62 62 w' w.heap.size (fun k_ => (w.heap.size ≤ k_) ∧ some k_ ≠ (v0_ : Value).ownBlock ∧ some k_ ≠ (v1_ : Value).ownBlock) v3_ r4 ∧ Below w.heap.size w w' := by
  have hu28 := Tryd.underlying28
  have hu73 := Tryd.underlying73
  have hu25 := Tryd.underlying25
  have hu62 := Tryd.underlying62
  have HB := mk_ (Below.refl w.heap.size w)
  have H : (some ((([(⟨(⟨#[112, 101, 114, 115, 111, 110]⟩ : ByteArray), (([(⟨#[109, 97, 114, 116, 97]⟩ : ByteArray), (⟨#[112, 101, 114, 115, 111, 110, 35, 49]⟩ : ByteArray)] : List ByteArray))⟩ : S73)] : List (S73))), (([60] : List Int)), 1, (([(⟨(⟨#[119, 97, 105, 116]⟩ : ByteArray), (([(⟨#[109, 97, 114, 116, 97]⟩ : ByteArray)] : List ByteArray)), 1, 0⟩ : S62), (⟨(⟨#[119, 97, 105, 116]⟩ : ByteArray), (([(⟨#[112, 101, 114, 115, 111, 110, 35, 49]⟩ : ByteArray)] : List ByteArray)), 1, 1⟩ : S62)] : List (S62))))) = some (r1, r2, r3, r4) := h
  clear h
  obtain ⟨y179, hy179⟩ : ∃ y_ : List ByteArray, y_ = (([(⟨#[109, 97, 114, 116, 97]⟩ : ByteArray), (⟨#[112, 101, 114, 115, 111, 110, 35, 49]⟩ : ByteArray)] : List ByteArray)) := ⟨_, rfl⟩
  replace H : (some ((([(⟨(⟨#[112, 101, 114, 115, 111, 110]⟩ : ByteArray), y179⟩ : S73)] : List (S73))), (([60] : List Int)), 1, (([(⟨(⟨#[119, 97, 105, 116]⟩ : ByteArray), (([(⟨#[109, 97, 114, 116, 97]⟩ : ByteArray)] : List ByteArray)), 1, 0⟩ : S62), (⟨(⟨#[119, 97, 105, 116]⟩ : ByteArray), (([(⟨#[112, 101, 114, 115, 111, 110, 35, 49]⟩ : ByteArray)] : List ByteArray)), 1, 1⟩ : S62)] : List (S62))))) = some (r1, r2, r3, r4) := by first | (rw [hy179]; with_reducible exact H) | (have H2_ := (Option.bind_some _ _).symm.trans H; rw [hy179]; with_reducible exact H2_) | (have H2_ := (Option.bind_some _ _).symm.trans H; with_reducible exact H2_) | with_reducible exact H | (rw [hy179]; exact H) | exact H
  have Ny179 := mk_ hy179
  clear hy179
  obtain ⟨y182, hy182⟩ : ∃ y_ : List (S73), y_ = (([(⟨(⟨#[112, 101, 114, 115, 111, 110]⟩ : ByteArray), y179⟩ : S73)] : List (S73))) := ⟨_, rfl⟩
  replace H : (some (y182, (([60] : List Int)), 1, (([(⟨(⟨#[119, 97, 105, 116]⟩ : ByteArray), (([(⟨#[109, 97, 114, 116, 97]⟩ : ByteArray)] : List ByteArray)), 1, 0⟩ : S62), (⟨(⟨#[119, 97, 105, 116]⟩ : ByteArray), (([(⟨#[112, 101, 114, 115, 111, 110, 35, 49]⟩ : ByteArray)] : List ByteArray)), 1, 1⟩ : S62)] : List (S62))))) = some (r1, r2, r3, r4) := by first | (rw [hy182]; with_reducible exact H) | (have H2_ := (Option.bind_some _ _).symm.trans H; rw [hy182]; with_reducible exact H2_) | (have H2_ := (Option.bind_some _ _).symm.trans H; with_reducible exact H2_) | with_reducible exact H | (rw [hy182]; exact H) | exact H
  have Ny182 := mk_ hy182
  clear hy182
  obtain ⟨y185, hy185⟩ : ∃ y_ : List Int, y_ = (([60] : List Int)) := ⟨_, rfl⟩
  replace H : (some (y182, y185, 1, (([(⟨(⟨#[119, 97, 105, 116]⟩ : ByteArray), (([(⟨#[109, 97, 114, 116, 97]⟩ : ByteArray)] : List ByteArray)), 1, 0⟩ : S62), (⟨(⟨#[119, 97, 105, 116]⟩ : ByteArray), (([(⟨#[112, 101, 114, 115, 111, 110, 35, 49]⟩ : ByteArray)] : List ByteArray)), 1, 1⟩ : S62)] : List (S62))))) = some (r1, r2, r3, r4) := by first | (rw [hy185]; with_reducible exact H) | (have H2_ := (Option.bind_some _ _).symm.trans H; rw [hy185]; with_reducible exact H2_) | (have H2_ := (Option.bind_some _ _).symm.trans H; with_reducible exact H2_) | with_reducible exact H | (rw [hy185]; exact H) | exact H
  have Ny185 := mk_ hy185
  clear hy185
  obtain ⟨y189, hy189⟩ : ∃ y_ : List ByteArray, y_ = (([(⟨#[109, 97, 114, 116, 97]⟩ : ByteArray)] : List ByteArray)) := ⟨_, rfl⟩
  replace H : (some (y182, y185, 1, (([(⟨(⟨#[119, 97, 105, 116]⟩ : ByteArray), y189, 1, 0⟩ : S62), (⟨(⟨#[119, 97, 105, 116]⟩ : ByteArray), (([(⟨#[112, 101, 114, 115, 111, 110, 35, 49]⟩ : ByteArray)] : List ByteArray)), 1, 1⟩ : S62)] : List (S62))))) = some (r1, r2, r3, r4) := by first | (rw [hy189]; with_reducible exact H) | (have H2_ := (Option.bind_some _ _).symm.trans H; rw [hy189]; with_reducible exact H2_) | (have H2_ := (Option.bind_some _ _).symm.trans H; with_reducible exact H2_) | with_reducible exact H | (rw [hy189]; exact H) | exact H
  have Ny189 := mk_ hy189
  clear hy189
  obtain ⟨y192, hy192⟩ : ∃ y_ : List ByteArray, y_ = (([(⟨#[112, 101, 114, 115, 111, 110, 35, 49]⟩ : ByteArray)] : List ByteArray)) := ⟨_, rfl⟩
  replace H : (some (y182, y185, 1, (([(⟨(⟨#[119, 97, 105, 116]⟩ : ByteArray), y189, 1, 0⟩ : S62), (⟨(⟨#[119, 97, 105, 116]⟩ : ByteArray), y192, 1, 1⟩ : S62)] : List (S62))))) = some (r1, r2, r3, r4) := by first | (rw [hy192]; with_reducible exact H) | (have H2_ := (Option.bind_some _ _).symm.trans H; rw [hy192]; with_reducible exact H2_) | (have H2_ := (Option.bind_some _ _).symm.trans H; with_reducible exact H2_) | with_reducible exact H | (rw [hy192]; exact H) | exact H
  have Ny192 := mk_ hy192
  clear hy192
  obtain ⟨y195, hy195⟩ : ∃ y_ : List (S62), y_ = (([(⟨(⟨#[119, 97, 105, 116]⟩ : ByteArray), y189, 1, 0⟩ : S62), (⟨(⟨#[119, 97, 105, 116]⟩ : ByteArray), y192, 1, 1⟩ : S62)] : List (S62))) := ⟨_, rfl⟩
  replace H : (some (y182, y185, 1, y195)) = some (r1, r2, r3, r4) := by first | (rw [hy195]; with_reducible exact H) | (have H2_ := (Option.bind_some _ _).symm.trans H; rw [hy195]; with_reducible exact H2_) | (have H2_ := (Option.bind_some _ _).symm.trans H; with_reducible exact H2_) | with_reducible exact H | (rw [hy195]; exact H) | exact H
  have Ny195 := mk_ hy195
  clear hy195
  simp only [Option.some.injEq, Prod.mk.injEq] at H
  obtain ⟨rfl, rfl, rfl, rfl⟩ := H
  go_enter Tryd.func33, Tryd.ntmps33
  go_wp2_with (first | ((with_reducible refine gate_dst (N := 0) rfl ?_); refine bx_ 0 #[.slice none 0 0, .slice none 0 0, .int .i64 0, .slice none 0 0] 28 ?_; intro gb178 hg w1 hbox hb; have BK178 := mk_ (hbox); have GW178 := mk_ (gs_ hg (be_ HB)); have GE178 := mk_ (gs_ hg (be_ HB)); replace HB := mk_ (below_step (be_ HB) hb); clear hb hbox hg) | ((with_reducible refine gate_dst (N := 2) rfl ?_); refine Kd.R_lit Kd.string _ 9 ?hg (N := 2) ?hd (xs := ([(⟨#[109, 97, 114, 116, 97]⟩ : ByteArray), (⟨#[112, 101, 114, 115, 111, 110, 35, 49]⟩ : ByteArray)] : List ByteArray)) (inner := [.string (⟨#[109, 97, 114, 116, 97]⟩ : ByteArray), .string (⟨#[112, 101, 114, 115, 111, 110, 35, 49]⟩ : ByteArray)]) (ok := fun _ => True) (okp := fun _ => True) ?hr ?hp (fun _ hk => hk) trivial (Below.refl _ _) (Nat.le_refl _) (by simp) ?_; (case hd => rfl); (case hg => rfl); (case hr => first | (go_simp; done) | (go_simp; rfl)); (case hp => exact (Reps.one (show Kd.M Kd.string _ _ _ (⟨#[109, 97, 114, 116, 97]⟩ : ByteArray) [.string (⟨#[109, 97, 114, 116, 97]⟩ : ByteArray)] from rfl) (Reps.one (show Kd.M Kd.string _ _ _ (⟨#[112, 101, 114, 115, 111, 110, 35, 49]⟩ : ByteArray) [.string (⟨#[112, 101, 114, 115, 111, 110, 35, 49]⟩ : ByteArray)] from rfl) (Reps.none _ _)))); intro v180 w2 ho3 hb hg_ hnew_; clear hg_ hnew_; (first | rw [← Ny179.out] at ho3 | (simp only [Int.reduceToNat] at ho3; rw [← Ny179.out] at ho3)); have HO181 := mk_ (Kd.R_lower (Kd.R_newM (M := fun k_ => (w.heap.size ≤ k_)) ho3 (below_size (be1_ HB GE178)) (fun k_ h_ => h_)) (below_size (be1_ HB GE178))); replace BK178 := mk_ (bb_ BK178 hb); replace HB := mk_ (below_step (be1_ HB GE178) hb); clear hb ho3; obtain ⟨Ao4, co4, eo4⟩ := Kd.R_slice HO181.out; subst eo4) | ((with_reducible refine gate_dst (N := 4) rfl ?_); refine Kd.N_lit k73 _ 73 ?hg (N' := 4) ?hd (xs := ([(⟨(⟨#[112, 101, 114, 115, 111, 110]⟩ : ByteArray), y179⟩ : S73)] : List (S73))) (inner := [.string (⟨#[112, 101, 114, 115, 111, 110]⟩ : ByteArray), .slice Ao4 y179.length co4]) (ok := (fun k_ => (w.heap.size ≤ k_) ∧ k_ ≠ gb178)) (okp := (fun k_ => (w.heap.size ≤ k_) ∧ k_ ≠ gb178)) ?hr ?hp (fun _ hk => hk) ((show ∀ k_, w2.heap.size ≤ k_ → (fun k_ => (w.heap.size ≤ k_) ∧ k_ ≠ gb178) k_ from fun k_ hk => ⟨(Nat.le_trans (below_size (be1_ HB GE178)) hk), Kd.freshB (g := gb178) (o := .cells #[.slice none 0 0, .slice none 0 0, .int .i64 0, .slice none 0 0] 28 (0, 0)) (bq_ BK178) k_ hk⟩) _ (Nat.le_refl _)) (Below.refl _ _) (Nat.le_refl _) (by simp) ?_; (case hd => rfl); (case hg => rfl); (case hr => first | (go_simp; done) | (go_simp; rfl)); (case hp => exact (Reps.c2 (show Kd.FK k73 _ _ (⟨(⟨#[112, 101, 114, 115, 111, 110]⟩ : ByteArray), y179⟩ : S73) [.string (⟨#[112, 101, 114, 115, 111, 110]⟩ : ByteArray), .slice Ao4 y179.length co4] from (k73_mkF _ _ (⟨(⟨#[112, 101, 114, 115, 111, 110]⟩ : ByteArray), y179⟩ : S73) (Kd.R_reads' (Kd.R_mono (ok' := (fun k_ => (w.heap.size ≤ k_) ∧ k_ ≠ gb178)) (Kd.R_types (HO181.out) BK178.out (by decide)) (fun k_ hk => ⟨hk.1.1, hk.2⟩))).2.1 (Kd.R_F (Kd.R_mono (ok' := (fun k_ => (w.heap.size ≤ k_) ∧ k_ ≠ gb178)) (Kd.R_types (HO181.out) BK178.out (by decide)) (fun k_ hk => ⟨hk.1.1, hk.2⟩))))) (Reps.none _ _))); intro v183 w5 ho6 hb hg_ hnew_; clear hg_ hnew_; (first | rw [← Ny182.out] at ho6 | (simp only [Int.reduceToNat] at ho6; rw [← Ny182.out] at ho6)); have HO184 := mk_ (Kd.N_lower ho6 (below_size (be1_ HB GE178))); replace BK178 := mk_ (bb_ BK178 hb); replace HB := mk_ (below_step (be1_ HB GE178) hb); clear HO181; clear hb ho6) | ((with_reducible refine gate_dst (N := 5) rfl ?_); refine Kd.R_lit (Kd.int .i64) _ 3 ?hg (N := 5) ?hd (xs := ([60] : List Int)) (inner := [.int .i64 60]) (ok := fun _ => True) (okp := fun _ => True) ?hr ?hp (fun _ hk => hk) trivial (Below.refl _ _) (Nat.le_refl _) (by simp) ?_; (case hd => rfl); (case hg => rfl); (case hr => first | (go_simp; done) | (go_simp; rfl)); (case hp => exact (Reps.one (show Kd.M (Kd.int .i64) _ _ _ 60 [.int .i64 60] from rfl) (Reps.none _ _))); intro v186 w7 ho8 hb hg_ hnew_; clear hg_ hnew_; (first | rw [← Ny185.out] at ho8 | (simp only [Int.reduceToNat] at ho8; rw [← Ny185.out] at ho8)); have HO187 := mk_ (Kd.R_lower (Kd.R_newM (M := fun k_ => (w.heap.size ≤ k_)) ho8 (below_size (be1_ HB GE178)) (fun k_ h_ => h_)) (below_size (be1_ HB GE178))); replace HO184 := mk_ (Kd.N_elder' (nq_ HO184) (Kd.R_base ho8) hb); replace BK178 := mk_ (bb_ BK178 hb); replace HB := mk_ (below_step (be1_ HB GE178) hb); clear hb ho8; obtain ⟨Ao9, co9, eo9⟩ := Kd.R_slice HO187.out; subst eo9; obtain ⟨Ao10, co10, eo10⟩ := Kd.N_slice HO184.out; subst eo10) | ((with_reducible refine gate_dst (N := 1) rfl ?_); refine bx_ 1 #[.slice none 0 0, .slice none 0 0, .int .i64 0] 25 ?_; intro gb188 hg w11 hbox hb; have n0_ := mk_ (Kd.N_below (Kd.N_elderB (nq_ HO184) gb188 (Nat.le_of_eq hg.symm)) hb); have n1_ := mk_ (Kd.R_below (rq_ HO187) hb); have n2_ := mk_ (bb_ BK178 hb); have n3_ := mk_ (below_step (be1_ HB GE178) hb); have n4_ := mk_ (hbox); have n5_ := mk_ (gs_ hg (be1_ HB GE178)); have n6_ := mk_ (gs_ hg (be1_ HB GE178)); have n7_ := mk_ ((by rw [hg]; exact Nat.ne_of_lt (blk_lt (g := gb178) (o := .cells #[.slice none 0 0, .slice none 0 0, .int .i64 0, .slice none 0 0] 28 (0, 0)) (bq_ BK178)) : gb178 ≠ gb188)); have n8_ := mk_ ((by rw [hg]; exact Nat.ne_of_gt (blk_lt (g := gb178) (o := .cells #[.slice none 0 0, .slice none 0 0, .int .i64 0, .slice none 0 0] 28 (0, 0)) (bq_ BK178)) : gb188 ≠ gb178)); clear HO184; clear HO187; clear BK178; clear HB; have HO184 := n0_; have HO187 := n1_; have BK178 := n2_; have HB := n3_; have BK188 := n4_; have GW188 := n5_; have GE188 := n6_; have NB178_188 := n7_; have NB188_178 := n8_; clear n0_ n1_ n2_ n3_ n4_ n5_ n6_ n7_ n8_; clear hb hbox hg; have hnb12 := NB188_178.out; have hnc12 := NB178_188.out; obtain ⟨_, _, _, _, _, _⟩ := hb3_ BK188) | ((with_reducible refine gate_dst (N := 8) rfl ?_); refine Kd.R_lit Kd.string _ 9 ?hg (N := 8) ?hd (xs := ([(⟨#[109, 97, 114, 116, 97]⟩ : ByteArray)] : List ByteArray)) (inner := [.string (⟨#[109, 97, 114, 116, 97]⟩ : ByteArray)]) (ok := fun _ => True) (okp := fun _ => True) ?hr ?hp (fun _ hk => hk) trivial (Below.refl _ _) (Nat.le_refl _) (by simp) ?_; (case hd => rfl); (case hg => rfl); (case hr => first | (go_simp; done) | (go_simp; rfl)); (case hp => exact (Reps.one (show Kd.M Kd.string _ _ _ (⟨#[109, 97, 114, 116, 97]⟩ : ByteArray) [.string (⟨#[109, 97, 114, 116, 97]⟩ : ByteArray)] from rfl) (Reps.none _ _))); intro v190 w14 ho15 hb hg_ hnew_; clear hg_ hnew_; (first | rw [← Ny189.out] at ho15 | (simp only [Int.reduceToNat] at ho15; rw [← Ny189.out] at ho15)); have n0_ := mk_ (Kd.N_elder' (by refine sn_ ?_; exact (Kd.N_mono (Kd.N_far (p := ⟨gb188, 2, none⟩) (Kd.N_far (p := ⟨gb188, 1, none⟩) (Kd.N_far (p := ⟨gb188, 0, none⟩) (Kd.N_mono HO184.out (fun k_ hk => (⟨hk, hk.2⟩ : _ ∧ k_ ≠ gb188))) (fun _ hk => hk.2) (.slice Ao10 y182.length co10)) (fun _ hk => hk.2) (.slice Ao9 y185.length co9)) (fun _ hk => hk.2) (.int .i64 1)) (fun _ h_ => h_.1))) (Kd.R_base ho15) hb); have n1_ := mk_ (Kd.R_below (by refine sr_ ?_; exact (Kd.R_mono (Kd.R_far (p := ⟨gb188, 2, none⟩) (Kd.R_far (p := ⟨gb188, 1, none⟩) (Kd.R_far (p := ⟨gb188, 0, none⟩) (Kd.R_types HO187.out BK188.out (by decide)) (fun _ hk => hk.2) (.slice Ao10 y182.length co10)) (fun _ hk => hk.2) (.slice Ao9 y185.length co9)) (fun _ hk => hk.2) (.int .i64 1)) (fun _ h_ => h_.1))) hb); have n2_ := mk_ (Kd.R_lower (Kd.R_newM (M := fun k_ => (w.heap.size ≤ k_)) ho15 (below_size (be2_ HB GE178 GE188)) (fun k_ h_ => h_)) (below_size (be2_ HB GE178 GE188))); have n3_ := mk_ (blk_below (g := gb178) (o := .cells #[.slice none 0 0, .slice none 0 0, .int .i64 0, .slice none 0 0] 28 (0, 0)) (by refine sb_ ?_; refine blk_far ?_ NB178_188.out _; refine sb_ ?_; refine blk_far ?_ NB178_188.out _; refine sb_ ?_; refine blk_far ?_ NB178_188.out _; refine sb_ ?_; exact BK178.out) hb); have n4_ := mk_ (blk_below (g := gb188) (o := .cells #[.slice Ao10 y182.length co10, .slice Ao9 y185.length co9, .int .i64 1] 25 (0, 0)) (by refine sb_ ?_; refine blk_put (cs := #[.slice Ao10 y182.length co10, .slice Ao9 y185.length co9, .int .i64 0]) ?_ 2 _ rfl; refine sb_ ?_; refine blk_put (cs := #[.slice Ao10 y182.length co10, .slice none 0 0, .int .i64 0]) ?_ 1 _ rfl; refine sb_ ?_; refine blk_put (cs := #[.slice none 0 0, .slice none 0 0, .int .i64 0]) ?_ 0 _ rfl; refine sb_ ?_; exact BK188.out) hb); have n5_ := mk_ (below_step (be2_ HB GE178 GE188) hb); clear HO184; clear HO187; clear BK178; clear BK188; clear HB; have HO184 := n0_; have HO187 := n1_; have HO191 := n2_; have BK178 := n3_; have BK188 := n4_; have HB := n5_; clear n0_ n1_ n2_ n3_ n4_ n5_; clear hb ho15; obtain ⟨Ao16, co16, eo16⟩ := Kd.R_slice HO191.out; subst eo16) | ((with_reducible refine gate_dst (N := 10) rfl ?_); refine Kd.R_lit Kd.string _ 9 ?hg (N := 10) ?hd (xs := ([(⟨#[112, 101, 114, 115, 111, 110, 35, 49]⟩ : ByteArray)] : List ByteArray)) (inner := [.string (⟨#[112, 101, 114, 115, 111, 110, 35, 49]⟩ : ByteArray)]) (ok := fun _ => True) (okp := fun _ => True) ?hr ?hp (fun _ hk => hk) trivial (Below.refl _ _) (Nat.le_refl _) (by simp) ?_; (case hd => rfl); (case hg => rfl); (case hr => first | (go_simp; done) | (go_simp; rfl)); (case hp => exact (Reps.one (show Kd.M Kd.string _ _ _ (⟨#[112, 101, 114, 115, 111, 110, 35, 49]⟩ : ByteArray) [.string (⟨#[112, 101, 114, 115, 111, 110, 35, 49]⟩ : ByteArray)] from rfl) (Reps.none _ _))); intro v193 w17 ho18 hb hg_ hnew_; clear hg_ hnew_; (first | rw [← Ny192.out] at ho18 | (simp only [Int.reduceToNat] at ho18; rw [← Ny192.out] at ho18)); have HO194 := mk_ (Kd.R_lower (Kd.R_new' (Kd.R_newM (M := fun k_ => (w.heap.size ≤ k_)) ho18 (below_size (be2_ HB GE178 GE188)) (fun k_ h_ => h_)) (Kd.R_lt (rq_ HO191))) (below_size (be2_ HB GE178 GE188))); replace HO184 := mk_ (Kd.N_elder' (nq_ HO184) (Kd.R_base ho18) hb); replace HO187 := mk_ (Kd.R_below (rq_ HO187) hb); replace HO191 := mk_ (Kd.R_elder' (rq_ HO191) (Kd.R_base ho18) hb); replace BK178 := mk_ (bb_ BK178 hb); replace BK188 := mk_ (bb_ BK188 hb); replace HB := mk_ (below_step (be2_ HB GE178 GE188) hb); clear hb ho18; obtain ⟨Ao19, co19, eo19⟩ := Kd.R_slice HO194.out; subst eo19) | ((with_reducible refine gate_dst (N := 12) rfl ?_); refine Kd.N_lit k62 _ 62 ?hg (N' := 12) ?hd (xs := ([(⟨(⟨#[119, 97, 105, 116]⟩ : ByteArray), y189, 1, 0⟩ : S62), (⟨(⟨#[119, 97, 105, 116]⟩ : ByteArray), y192, 1, 1⟩ : S62)] : List (S62))) (inner := [.string (⟨#[119, 97, 105, 116]⟩ : ByteArray), .slice Ao16 y189.length co16, .int .i64 1, .int .i64 0, .string (⟨#[119, 97, 105, 116]⟩ : ByteArray), .slice Ao19 y192.length co19, .int .i64 1, .int .i64 1]) (ok := (fun k_ => (w.heap.size ≤ k_) ∧ some k_ ≠ (.slice Ao10 y182.length co10 : Value).ownBlock ∧ some k_ ≠ (.slice Ao9 y185.length co9 : Value).ownBlock ∧ k_ ≠ gb178 ∧ k_ ≠ gb188)) (okp := (fun k_ => (w.heap.size ≤ k_) ∧ some k_ ≠ (.slice Ao10 y182.length co10 : Value).ownBlock ∧ some k_ ≠ (.slice Ao9 y185.length co9 : Value).ownBlock ∧ k_ ≠ gb178 ∧ k_ ≠ gb188)) ?hr ?hp (fun _ hk => hk) ((show ∀ k_, w17.heap.size ≤ k_ → (fun k_ => (w.heap.size ≤ k_) ∧ some k_ ≠ (.slice Ao10 y182.length co10 : Value).ownBlock ∧ some k_ ≠ (.slice Ao9 y185.length co9 : Value).ownBlock ∧ k_ ≠ gb178 ∧ k_ ≠ gb188) k_ from fun k_ hk => ⟨(Nat.le_trans (below_size (be2_ HB GE178 GE188)) hk), Kd.fresh' (Kd.N_lt (nq_ HO184)) k_ hk, Kd.fresh' (Kd.R_lt (rq_ HO187)) k_ hk, Kd.freshB (g := gb178) (o := .cells #[.slice none 0 0, .slice none 0 0, .int .i64 0, .slice none 0 0] 28 (0, 0)) (bq_ BK178) k_ hk, Kd.freshB (g := gb188) (o := .cells #[.slice Ao10 y182.length co10, .slice Ao9 y185.length co9, .int .i64 1] 25 (0, 0)) (bq_ BK188) k_ hk⟩) _ (Nat.le_refl _)) (Below.refl _ _) (Nat.le_refl _) (by simp) ?_; (case hd => rfl); (case hg => rfl); (case hr => first | (go_simp; done) | (go_simp; rfl)); (case hp => exact (Reps.c4 (show Kd.FK k62 _ _ (⟨(⟨#[119, 97, 105, 116]⟩ : ByteArray), y189, 1, 0⟩ : S62) [.string (⟨#[119, 97, 105, 116]⟩ : ByteArray), .slice Ao16 y189.length co16, .int .i64 1, .int .i64 0] from (k62_mkF _ _ (⟨(⟨#[119, 97, 105, 116]⟩ : ByteArray), y189, 1, 0⟩ : S62) (Kd.R_reads' (Kd.R_mono (ok' := (fun k_ => (w.heap.size ≤ k_) ∧ some k_ ≠ (.slice Ao10 y182.length co10 : Value).ownBlock ∧ some k_ ≠ (.slice Ao9 y185.length co9 : Value).ownBlock ∧ k_ ≠ gb178 ∧ k_ ≠ gb188)) (Kd.R_types (Kd.R_types (Kd.R_apart' (Kd.R_apart' (HO191.out) (Kd.N_typed HO184.out) (by decide)) (Kd.R_typed HO187.out) (by decide)) BK178.out (by decide)) BK188.out (by decide)) (fun k_ hk => ⟨hk.1.1.1.1.1.1, ⟨hk.1.1.1.2, ⟨hk.1.1.2, ⟨hk.1.2, hk.2⟩⟩⟩⟩))).2.1 (Kd.R_F (Kd.R_mono (ok' := (fun k_ => (w.heap.size ≤ k_) ∧ some k_ ≠ (.slice Ao10 y182.length co10 : Value).ownBlock ∧ some k_ ≠ (.slice Ao9 y185.length co9 : Value).ownBlock ∧ k_ ≠ gb178 ∧ k_ ≠ gb188)) (Kd.R_types (Kd.R_types (Kd.R_apart' (Kd.R_apart' (HO191.out) (Kd.N_typed HO184.out) (by decide)) (Kd.R_typed HO187.out) (by decide)) BK178.out (by decide)) BK188.out (by decide)) (fun k_ hk => ⟨hk.1.1.1.1.1.1, ⟨hk.1.1.1.2, ⟨hk.1.1.2, ⟨hk.1.2, hk.2⟩⟩⟩⟩))))) (Reps.c4 (show Kd.FK k62 _ _ (⟨(⟨#[119, 97, 105, 116]⟩ : ByteArray), y192, 1, 1⟩ : S62) [.string (⟨#[119, 97, 105, 116]⟩ : ByteArray), .slice Ao19 y192.length co19, .int .i64 1, .int .i64 1] from (k62_mkF _ _ (⟨(⟨#[119, 97, 105, 116]⟩ : ByteArray), y192, 1, 1⟩ : S62) (Kd.R_reads' (Kd.R_mono (ok' := (fun k_ => (w.heap.size ≤ k_) ∧ some k_ ≠ (.slice Ao10 y182.length co10 : Value).ownBlock ∧ some k_ ≠ (.slice Ao9 y185.length co9 : Value).ownBlock ∧ k_ ≠ gb178 ∧ k_ ≠ gb188)) (Kd.R_types (Kd.R_types (Kd.R_apart' (Kd.R_apart' (HO194.out) (Kd.N_typed HO184.out) (by decide)) (Kd.R_typed HO187.out) (by decide)) BK178.out (by decide)) BK188.out (by decide)) (fun k_ hk => ⟨hk.1.1.1.1.1.1, ⟨hk.1.1.1.2, ⟨hk.1.1.2, ⟨hk.1.2, hk.2⟩⟩⟩⟩))).2.1 (Kd.R_F (Kd.R_mono (ok' := (fun k_ => (w.heap.size ≤ k_) ∧ some k_ ≠ (.slice Ao10 y182.length co10 : Value).ownBlock ∧ some k_ ≠ (.slice Ao9 y185.length co9 : Value).ownBlock ∧ k_ ≠ gb178 ∧ k_ ≠ gb188)) (Kd.R_types (Kd.R_types (Kd.R_apart' (Kd.R_apart' (HO194.out) (Kd.N_typed HO184.out) (by decide)) (Kd.R_typed HO187.out) (by decide)) BK178.out (by decide)) BK188.out (by decide)) (fun k_ hk => ⟨hk.1.1.1.1.1.1, ⟨hk.1.1.1.2, ⟨hk.1.1.2, ⟨hk.1.2, hk.2⟩⟩⟩⟩))))) (Reps.none _ _)))); intro v196 w20 ho21 hb hg_ hnew_; clear hg_ hnew_; (first | rw [← Ny195.out] at ho21 | (simp only [Int.reduceToNat] at ho21; rw [← Ny195.out] at ho21)); have HO197 := mk_ (Kd.N_lower ho21 (below_size (be2_ HB GE178 GE188))); replace HO184 := mk_ (Kd.N_elder' (nq_ HO184) (Kd.N_base ho21) hb); replace HO187 := mk_ (Kd.R_below (rq_ HO187) hb); replace BK178 := mk_ (bb_ BK178 hb); replace BK188 := mk_ (bb_ BK188 hb); replace HB := mk_ (below_step (be2_ HB GE178 GE188) hb); clear HO191 HO194; clear hb ho21; obtain ⟨Ao22, co22, eo22⟩ := Kd.N_slice HO197.out; subst eo22; obtain ⟨_, _, _, _, _, _, _, _⟩ := hb4_ BK178))
  refine bodyPost_ret (results_cell_row rfl _ _ gb178 28 #[.slice Ao10 y182.length co10, .slice Ao9 y185.length co9, .int .i64 1, .slice Ao22 y195.length co22] (0, 0) _ rfl (by refine sb_ ?_; refine blk_put (cs := #[.slice Ao10 y182.length co10, .slice Ao9 y185.length co9, .int .i64 1, .slice none 0 0]) ?_ 3 _ rfl; refine sb_ ?_; refine blk_put (cs := #[.slice Ao10 y182.length co10, .slice Ao9 y185.length co9, .int .i64 0, .slice none 0 0]) ?_ 2 _ rfl; refine sb_ ?_; refine blk_put (cs := #[.slice Ao10 y182.length co10, .slice none 0 0, .int .i64 0, .slice none 0 0]) ?_ 1 _ rfl; refine sb_ ?_; refine blk_put (cs := #[.slice none 0 0, .slice none 0 0, .int .i64 0, .slice none 0 0]) ?_ 0 _ rfl; refine sb_ ?_; exact BK178.out) Tryd.underlying28 rfl (by kernel_rfl)) rfl ?_
  exact ⟨_, _, _, er_, by refine sn_ ?_; exact Kd.N_mono (Kd.N_far (p := ⟨gb178, 3, none⟩) (Kd.N_far (p := ⟨gb178, 2, none⟩) (Kd.N_far (p := ⟨gb178, 1, none⟩) (Kd.N_far (p := ⟨gb178, 0, none⟩) (Kd.N_mono HO184.out (fun k_ hk => (⟨hk, hk.1.1.1.1.1.2⟩ : _ ∧ k_ ≠ gb178))) (fun _ hk => hk.2) (.slice Ao10 y182.length co10)) (fun _ hk => hk.2) (.slice Ao9 y185.length co9)) (fun _ hk => hk.2) (.int .i64 1)) (fun _ hk => hk.2) (.slice Ao22 y195.length co22)) (fun _ hk => ⟨hk.1.1.1.1.1.1.1, ⟨hk.1.1.1.1.1.2, hk.1.2⟩⟩), by refine sr_ ?_; exact Kd.R_mono (Kd.R_far (p := ⟨gb178, 3, none⟩) (Kd.R_far (p := ⟨gb178, 2, none⟩) (Kd.R_far (p := ⟨gb178, 1, none⟩) (Kd.R_far (p := ⟨gb178, 0, none⟩) (Kd.R_types HO187.out BK178.out (by decide)) (fun _ hk => hk.2) (.slice Ao10 y182.length co10)) (fun _ hk => hk.2) (.slice Ao9 y185.length co9)) (fun _ hk => hk.2) (.int .i64 1)) (fun _ hk => hk.2) (.slice Ao22 y195.length co22)) (fun _ hk => hk.1.1), by refine sn_ ?_; exact Kd.N_mono (Kd.N_far (p := ⟨gb178, 3, none⟩) (Kd.N_far (p := ⟨gb178, 2, none⟩) (Kd.N_far (p := ⟨gb178, 1, none⟩) (Kd.N_far (p := ⟨gb178, 0, none⟩) (Kd.N_mono HO197.out (fun k_ hk => (⟨hk, hk.2.2.2.1⟩ : _ ∧ k_ ≠ gb178))) (fun _ hk => hk.2) (.slice Ao10 y182.length co10)) (fun _ hk => hk.2) (.slice Ao9 y185.length co9)) (fun _ hk => hk.2) (.int .i64 1)) (fun _ hk => hk.2) (.slice Ao22 y195.length co22)) (fun _ hk => ⟨hk.1.1, ⟨hk.1.2.1, hk.1.2.2.1⟩⟩), be2_ HB GE178 GE188⟩

def pentaglotlaw26_someone.f  : Option (Int × ByteArray × (List (S92)) × Int × Int × (List (S32))) := some (9, (⟨#[112, 101, 114, 115, 111, 110]⟩ : ByteArray), ([] : List (S92)), 0, 0, (([(⟨3, (⟨#[119, 97, 105, 116]⟩ : ByteArray), (([(⟨1, 0, (⟨#[]⟩ : ByteArray)⟩ : S92)] : List (S92))), 0, 0, ([] : List (S32))⟩ : S32)] : List (S32))))
theorem pentaglotlaw26_someone.calls  (r1 : Int) (r2 : ByteArray) (r3 : List (S92)) (r4 : Int) (r5 : Int) (r6 : List (S32)) (w : World) (h : pentaglotlaw26_someone.f  = some (r1, r2, r3, r4, r5, r6)) :
    Calls Tryd.prog 34 #[] w fun e w' => ∃ v2_ v5_ : Value, e = .returned (.agg #[.int .i64 r1, .string r2, v2_, .int .i64 r4, .int .i64 r5, v5_]) ∧ Kd.R k92 92 w' w.heap.size (fun k_ => (w.heap.size ≤ k_)) v2_ r3 ∧ Kd.N k32 32 w' w.heap.size (fun k_ => (w.heap.size ≤ k_) ∧ some k_ ≠ (v2_ : Value).ownBlock) v5_ r6 ∧ Below w.heap.size w w' := by
  have hu32 := Tryd.underlying32
  have hu92 := Tryd.underlying92
  have HB := mk_ (Below.refl w.heap.size w)
  have H : (some (9, (⟨#[112, 101, 114, 115, 111, 110]⟩ : ByteArray), ([] : List (S92)), 0, 0, (([(⟨3, (⟨#[119, 97, 105, 116]⟩ : ByteArray), (([(⟨1, 0, (⟨#[]⟩ : ByteArray)⟩ : S92)] : List (S92))), 0, 0, ([] : List (S32))⟩ : S32)] : List (S32))))) = some (r1, r2, r3, r4, r5, r6) := h
  clear h
  obtain ⟨y199, hy199⟩ : ∃ y_ : List (S92), y_ = (([(⟨1, 0, (⟨#[]⟩ : ByteArray)⟩ : S92)] : List (S92))) := ⟨_, rfl⟩
  replace H : (some (9, (⟨#[112, 101, 114, 115, 111, 110]⟩ : ByteArray), ([] : List (S92)), 0, 0, (([(⟨3, (⟨#[119, 97, 105, 116]⟩ : ByteArray), y199, 0, 0, ([] : List (S32))⟩ : S32)] : List (S32))))) = some (r1, r2, r3, r4, r5, r6) := by first | (rw [hy199]; with_reducible exact H) | (have H2_ := (Option.bind_some _ _).symm.trans H; rw [hy199]; with_reducible exact H2_) | (have H2_ := (Option.bind_some _ _).symm.trans H; with_reducible exact H2_) | with_reducible exact H | (rw [hy199]; exact H) | exact H
  have Ny199 := mk_ hy199
  clear hy199
  obtain ⟨y202, hy202⟩ : ∃ y_ : List (S32), y_ = (([(⟨3, (⟨#[119, 97, 105, 116]⟩ : ByteArray), y199, 0, 0, ([] : List (S32))⟩ : S32)] : List (S32))) := ⟨_, rfl⟩
  replace H : (some (9, (⟨#[112, 101, 114, 115, 111, 110]⟩ : ByteArray), ([] : List (S92)), 0, 0, y202)) = some (r1, r2, r3, r4, r5, r6) := by first | (rw [hy202]; with_reducible exact H) | (have H2_ := (Option.bind_some _ _).symm.trans H; rw [hy202]; with_reducible exact H2_) | (have H2_ := (Option.bind_some _ _).symm.trans H; with_reducible exact H2_) | with_reducible exact H | (rw [hy202]; exact H) | exact H
  have Ny202 := mk_ hy202
  clear hy202
  simp only [Option.some.injEq, Prod.mk.injEq] at H
  obtain ⟨rfl, rfl, rfl, rfl, rfl, rfl⟩ := H
  go_enter Tryd.func34, Tryd.ntmps34
  go_wp2_with (first | ((with_reducible refine gate_dst (N := 0) rfl ?_); refine bx_ 0 #[.int .i64 0, .string (⟨#[]⟩ : ByteArray), .slice none 0 0, .int .i64 0, .int .i64 0, .slice none 0 0] 32 ?_; intro gb198 hg w1 hbox hb; have BK198 := mk_ (hbox); have GW198 := mk_ (gs_ hg (be_ HB)); have GE198 := mk_ (gs_ hg (be_ HB)); replace HB := mk_ (below_step (be_ HB) hb); clear hb hbox hg) | ((with_reducible refine gate_dst (N := 2) rfl ?_); refine Kd.R_lit k92 _ 92 ?hg (N := 2) ?hd (xs := ([(⟨1, 0, (⟨#[]⟩ : ByteArray)⟩ : S92)] : List (S92))) (inner := [.int .i64 1, .int .i64 0, .string (⟨#[]⟩ : ByteArray)]) (ok := fun _ => True) (okp := fun _ => True) ?hr ?hp (fun _ hk => hk) trivial (Below.refl _ _) (Nat.le_refl _) (by simp) ?_; (case hd => rfl); (case hg => rfl); (case hr => first | (go_simp; done) | (go_simp; rfl)); (case hp => exact (Reps.c3 (show Kd.M k92 _ _ _ (⟨1, 0, (⟨#[]⟩ : ByteArray)⟩ : S92) [.int .i64 1, .int .i64 0, .string (⟨#[]⟩ : ByteArray)] from (k92_mkM _ _ _ (⟨1, 0, (⟨#[]⟩ : ByteArray)⟩ : S92) )) (Reps.none _ _))); intro v200 w2 ho3 hb hg_ hnew_; clear hg_ hnew_; (first | rw [← Ny199.out] at ho3 | (simp only [Int.reduceToNat] at ho3; rw [← Ny199.out] at ho3)); have HO201 := mk_ (Kd.R_lower (Kd.R_newM (M := fun k_ => (w.heap.size ≤ k_)) ho3 (below_size (be1_ HB GE198)) (fun k_ h_ => h_)) (below_size (be1_ HB GE198))); replace BK198 := mk_ (bb_ BK198 hb); replace HB := mk_ (below_step (be1_ HB GE198) hb); clear hb ho3; obtain ⟨Ao4, co4, eo4⟩ := Kd.R_slice HO201.out; subst eo4) | ((with_reducible refine gate_dst (N := 4) rfl ?_); refine Kd.N_lit k32 _ 32 ?hg (N' := 4) ?hd (xs := ([(⟨3, (⟨#[119, 97, 105, 116]⟩ : ByteArray), y199, 0, 0, ([] : List (S32))⟩ : S32)] : List (S32))) (inner := [.int .i64 3, .string (⟨#[119, 97, 105, 116]⟩ : ByteArray), .slice Ao4 y199.length co4, .int .i64 0, .int .i64 0, .slice none 0 0]) (ok := (fun k_ => (w.heap.size ≤ k_) ∧ k_ ≠ gb198)) (okp := (fun k_ => (w.heap.size ≤ k_) ∧ k_ ≠ gb198)) ?hr ?hp (fun _ hk => hk) ((show ∀ k_, w2.heap.size ≤ k_ → (fun k_ => (w.heap.size ≤ k_) ∧ k_ ≠ gb198) k_ from fun k_ hk => ⟨(Nat.le_trans (below_size (be1_ HB GE198)) hk), Kd.freshB (g := gb198) (o := .cells #[.int .i64 0, .string (⟨#[]⟩ : ByteArray), .slice none 0 0, .int .i64 0, .int .i64 0, .slice none 0 0] 32 (0, 0)) (bq_ BK198) k_ hk⟩) _ (Nat.le_refl _)) (Below.refl _ _) (Nat.le_refl _) (by simp) ?_; (case hd => rfl); (case hg => rfl); (case hr => first | (go_simp; done) | (go_simp; rfl)); (case hp => exact (Reps.c6 (show Kd.FK k32 _ _ (⟨3, (⟨#[119, 97, 105, 116]⟩ : ByteArray), y199, 0, 0, ([] : List (S32))⟩ : S32) [.int .i64 3, .string (⟨#[119, 97, 105, 116]⟩ : ByteArray), .slice Ao4 y199.length co4, .int .i64 0, .int .i64 0, .slice none 0 0] from (k32_mkF _ _ (⟨3, (⟨#[119, 97, 105, 116]⟩ : ByteArray), y199, 0, 0, ([] : List (S32))⟩ : S32) (Kd.R_reads' (Kd.R_mono (ok' := (fun k_ => (w.heap.size ≤ k_) ∧ k_ ≠ gb198)) (Kd.R_types (HO201.out) BK198.out (by decide)) (fun k_ hk => ⟨hk.1.1, hk.2⟩))).2.1 (Kd.R_F (Kd.R_mono (ok' := (fun k_ => (w.heap.size ≤ k_) ∧ k_ ≠ gb198)) (Kd.R_types (HO201.out) BK198.out (by decide)) (fun k_ hk => ⟨hk.1.1, hk.2⟩))) (Nat.le_refl _) (Kd.F_nil _ _ _))) (Reps.none _ _))); intro v203 w5 ho6 hb hg_ hnew_; clear hg_ hnew_; (first | rw [← Ny202.out] at ho6 | (simp only [Int.reduceToNat] at ho6; rw [← Ny202.out] at ho6)); have HO204 := mk_ (Kd.N_lower ho6 (below_size (be1_ HB GE198))); replace BK198 := mk_ (bb_ BK198 hb); replace HB := mk_ (below_step (be1_ HB GE198) hb); clear HO201; clear hb ho6; obtain ⟨Ao7, co7, eo7⟩ := Kd.N_slice HO204.out; subst eo7; obtain ⟨_, _, _, _, _, _, _, _, _, _, _, _⟩ := hb6_ BK198))
  refine bodyPost_ret (results_cell_row rfl _ _ gb198 32 #[.int .i64 9, .string (⟨#[112, 101, 114, 115, 111, 110]⟩ : ByteArray), .slice none 0 0, .int .i64 0, .int .i64 0, .slice Ao7 y202.length co7] (0, 0) _ rfl (by refine sb_ ?_; refine blk_put (cs := #[.int .i64 9, .string (⟨#[112, 101, 114, 115, 111, 110]⟩ : ByteArray), .slice none 0 0, .int .i64 0, .int .i64 0, .slice none 0 0]) ?_ 5 _ rfl; refine sb_ ?_; refine blk_put (cs := #[.int .i64 9, .string (⟨#[112, 101, 114, 115, 111, 110]⟩ : ByteArray), .slice none 0 0, .int .i64 0, .int .i64 0, .slice none 0 0]) ?_ 4 _ rfl; refine sb_ ?_; refine blk_put (cs := #[.int .i64 9, .string (⟨#[112, 101, 114, 115, 111, 110]⟩ : ByteArray), .slice none 0 0, .int .i64 0, .int .i64 0, .slice none 0 0]) ?_ 3 _ rfl; refine sb_ ?_; refine blk_put (cs := #[.int .i64 9, .string (⟨#[112, 101, 114, 115, 111, 110]⟩ : ByteArray), .slice none 0 0, .int .i64 0, .int .i64 0, .slice none 0 0]) ?_ 2 _ rfl; refine sb_ ?_; refine blk_put (cs := #[.int .i64 9, .string (⟨#[]⟩ : ByteArray), .slice none 0 0, .int .i64 0, .int .i64 0, .slice none 0 0]) ?_ 1 _ rfl; refine sb_ ?_; refine blk_put (cs := #[.int .i64 0, .string (⟨#[]⟩ : ByteArray), .slice none 0 0, .int .i64 0, .int .i64 0, .slice none 0 0]) ?_ 0 _ rfl; refine sb_ ?_; exact BK198.out) Tryd.underlying32 rfl (by kernel_rfl)) rfl ?_
  exact ⟨_, _, er_, by first | exact Kd.R_nil _ _ _ _ _ | exact Kd.N_nil _ _ _ _ _ | exact Kd.V_nil _ _ _ _ _ | exact Kd.Q_nil _ _ _ _ _ | exact Kd.S_nil _ _ _ _ _, by refine sn_ ?_; exact Kd.N_mono (Kd.N_far (p := ⟨gb198, 5, none⟩) (Kd.N_far (p := ⟨gb198, 4, none⟩) (Kd.N_far (p := ⟨gb198, 3, none⟩) (Kd.N_far (p := ⟨gb198, 2, none⟩) (Kd.N_far (p := ⟨gb198, 1, none⟩) (Kd.N_far (p := ⟨gb198, 0, none⟩) (Kd.N_mono HO204.out (fun k_ hk => (⟨hk, hk.2⟩ : _ ∧ k_ ≠ gb198))) (fun _ hk => hk.2) (.int .i64 9)) (fun _ hk => hk.2) (.string (⟨#[112, 101, 114, 115, 111, 110]⟩ : ByteArray))) (fun _ hk => hk.2) (.slice none 0 0)) (fun _ hk => hk.2) (.int .i64 0)) (fun _ hk => hk.2) (.int .i64 0)) (fun _ hk => hk.2) (.slice Ao7 y202.length co7)) (fun _ hk => ⟨hk.1.1, (by simp [Value.ownBlock])⟩), be1_ HB GE198⟩

-- leans on 33 34 14 27 22 18 25
def exS : ByteArray := ⟨#[112, 101, 114, 115, 111, 110]⟩
def exD : List S73 := [⟨exS, [⟨#[109, 97, 114, 116, 97]⟩, ⟨#[112, 101, 114, 115, 111, 110, 35, 49]⟩]⟩]
def exT : List Int := [60]
def exF : List S62 := [⟨⟨#[119, 97, 105, 116]⟩, [⟨#[109, 97, 114, 116, 97]⟩], 1, 0⟩, ⟨⟨#[119, 97, 105, 116]⟩, [⟨#[112, 101, 114, 115, 111, 110, 35, 49]⟩], 1, 1⟩]
def exK : List S32 := [⟨3, ⟨#[119, 97, 105, 116]⟩, [⟨1, 0, ⟨#[]⟩⟩], 0, 0, []⟩]
def exM : List Int := [1, 2]
def exP : ByteArray := ⟨#[112, 101, 114, 115, 111, 110, 35, 49]⟩
structure AwOk (k : Nat) : Prop where
  a : evaluate_At.f k exD exT 1 exF 9 exS [] 0 0 exK 1 1 = some (true, 0)
  b : evaluate_At.f k exD exT 1 exF 9 exS [] 0 0 exK 0 2 = some (false, 0)
  s : evaluate_Witness.f k exD exT 1 exF 9 exS [] 0 0 exK 1 1 = some (exP, true, 0)
  m : evaluate_Moments.f k exD exT 1 exF 60 (-1) = some (exM, 0)
  t : evaluate_True.f k exD exT 1 exF 1 ⟨#[]⟩ [] 0 0 [] = some (true, 0)
  n : pentaglotref22_SameInts.f k exM exM = some true
theorem awOk : AwOk 40 := ⟨by kernel_rfl, by kernel_rfl, by kernel_rfl, by kernel_rfl, by kernel_rfl, by kernel_rfl⟩
/-- awake, whatever the rounds: the examples come out (AwOk), so no more is asked of them. -/
def pentaglotlaw26_awake.f (_ : Nat) : Option Bool := some true
theorem ev_awake : Ev (fun k => pentaglotlaw26_awake.f k) true := ⟨0, fun _ _ => rfl⟩
/-- The example's world. -/
structure ExW (w : World) (A0 : Option Addr) (c0 : Nat) (A1 : Option Addr) (c1 : Nat) (A3 : Option Addr) (c3 : Nat) : Prop where
  r0 : Kd.C k73 w A0 exD.length exD
  l0 : exD.length ≤ c0
  r1 : Kd.C (Kd.int .i64) w A1 exT.length exT
  l1 : exT.length ≤ c1
  r3 : Kd.C k62 w A3 exF.length exF
  l3 : exF.length ≤ c3
theorem ExW.below {w w' : World} {A0 : Option Addr} {c0 : Nat} {A1 : Option Addr} {c1 : Nat} {A3 : Option Addr} {c3 : Nat} (h : ExW w A0 c0 A1 c1 A3 c3) (hb : Below w.heap.size w w') : ExW w' A0 c0 A1 c1 A3 c3 :=
  ⟨Kd.C_below h.r0 hb, h.l0, Kd.C_below h.r1 hb, h.l1, Kd.C_below h.r3 hb, h.l3⟩
theorem aw_ex (w : World) : Calls Tryd.prog 33 #[] w fun e w' => ∃ A0 c0 A1 c1 A3 c3, e = .returned (.agg #[.slice A0 exD.length c0, .slice A1 exT.length c1, .int .i64 1, .slice A3 exF.length c3]) ∧ ExW w' A0 c0 A1 c1 A3 c3 ∧ Below w.heap.size w w' := by
  refine (pentaglotlaw26_example.calls exD exT 1 exF w rfl).mono ?_
  rintro e w' ⟨v0, v1, v3, rfl, h0, h1, h3, hb⟩
  obtain ⟨A0, c0, rfl, l0, f0⟩ := Kd.N_V (base' := 0) h0
  obtain ⟨A1, c1, rfl, l1, f1⟩ := Kd.R_V (base' := 0) h1
  obtain ⟨A3, c3, rfl, l3, f3⟩ := Kd.N_V (base' := 0) h3
  exact ⟨A0, c0, A1, c1, A3, c3, rfl, ⟨Kd.F_now f0, l0, Kd.F_now f1, l1, Kd.F_now f3, l3⟩, hb⟩
structure SoF (w : World) (A2 : Option Addr) (c2 : Nat) (A5 : Option Addr) (c5 : Nat) : Prop where
  r2 : Kd.C k92 w A2 ([] : List S92).length []
  l2 : ([] : List S92).length ≤ c2
  r5 : Kd.C k32 w A5 exK.length exK
  l5 : exK.length ≤ c5
theorem aw_so (w : World) : Calls Tryd.prog 34 #[] w fun e w' => ∃ A2 c2 A5 c5, e = .returned (.agg #[.int .i64 9, .string exS, .slice A2 ([] : List S92).length c2, .int .i64 0, .int .i64 0, .slice A5 exK.length c5]) ∧ SoF w' A2 c2 A5 c5 ∧ Below w.heap.size w w' := by
  refine (pentaglotlaw26_someone.calls 9 exS [] 0 0 exK w rfl).mono ?_
  rintro e w' ⟨v2, v5, rfl, h2, h5, hb⟩
  obtain ⟨A2, c2, rfl, l2, f2⟩ := Kd.R_V (base' := 0) h2
  obtain ⟨A5, c5, rfl, l5, f5⟩ := Kd.N_V (base' := 0) h5
  exact ⟨A2, c2, A5, c5, rfl, ⟨Kd.F_now f2, l2, Kd.F_now f5, l5⟩, hb⟩
theorem C_12 (w : World) : Kd.C (Kd.int .i64) (w.alloc (.cells #[.int .i64 1, .int .i64 2] 3)) (some ⟨w.heap.size, 0, none⟩) exM.length exM := by
  refine ⟨rfl, by decide, fun _ => ⟨_, rfl, fun j p hp => ⟨[.int .i64 p], rfl, rfl, fun i u hu => ?_⟩⟩⟩
  have hi : i = 0 := by have := (List.getElem?_eq_some_iff.1 hu).1; simp at this; omega
  subst hi
  obtain rfl : Value.int .i64 p = u := by simpa using hu
  have hb := heap_alloc_new w (.cells #[.int .i64 1, .int .i64 2] 3)
  match j, hp with
  | 0, hp => obtain rfl : (1 : Int) = p := by simpa [exM] using hp
             exact (blk_cell hb 0).trans rfl
  | 1, hp => obtain rfl : (2 : Int) = p := by simpa [exM] using hp
             exact (blk_cell hb 1).trans rfl
  | j + 2, hp => simp [exM] at hp
theorem C_none {α : Type} (d : Kd α) (w : World) : Kd.C d w none ([] : List α).length [] := ⟨rfl, by simp, fun h => absurd h (by simp)⟩
theorem pentaglotlaw26_awake.calls (k0 : Nat) (r : Bool) (w : World) (h : pentaglotlaw26_awake.f k0 = some r) (htb : Tb w) : Calls Tryd.prog 12 #[] w fun e w' => e = .returned (.bool r) ∧ Below w.heap.size w w' := by
  obtain rfl : true = r := Option.some.inj h
  obtain ⟨k, ho⟩ : ∃ k, AwOk k := ⟨40, awOk⟩
  have HO := mk_ ho
  have HTB := mk_ htb
  have HB0 := mk_ (Below.refl w.heap.size w)
  clear ho h htb
  have T1 : True := trivial
  have T2 : True := trivial
  have T3 : True := trivial
  have T4 : True := trivial
  have T5 : True := trivial
  have T6 : True := trivial
  have T7 : True := trivial
  have T8 : True := trivial
  have T9 : True := trivial
  have T10 : True := trivial
  have T11 : True := trivial
  have T12 : True := trivial
  have T13 : True := trivial
  have T14 : True := trivial
  go_enter Tryd.func12, Tryd.ntmps12
  go_wp2_with (first
    | (clear T1; go_at_call 33; refine (aw_ex _).mono ?_; rintro e w1 ⟨A0, c0, A1, c1, A3, c3, rfl, hx, hb⟩; have HX := mk_ hx; have HB1 := mk_ (below_step HB0.out hb); clear hx hb HB0)
    | (clear T2; go_at_call 34; refine (aw_so _).mono ?_; rintro e w2 ⟨A2, c2, A5, c5, rfl, hs, hb⟩; have HS := mk_ hs; have HX1 := mk_ (HX.out.below hb); have HB2 := mk_ (below_step HB1.out hb); clear hs hb HX HB1)
    | (clear T3; go_at_call 14; refine (evaluate_At.calls k A0 c0 exD A1 c1 exT 1 A3 c3 exF 9 exS A2 c2 [] 0 0 A5 c5 exK 1 1 true 0 _ HX1.out.r0 HX1.out.l0 HX1.out.r1 HX1.out.l1 HX1.out.r3 HX1.out.l3 HS.out.r2 HS.out.l2 HS.out.r5 HS.out.l5 HO.out.a (tb_on HTB.out HB2.out)).mono ?_; rintro e w3 ⟨rfl, hb⟩; have HB3 := mk_ (below_step HB2.out hb); clear hb HB2 HX1 HS)
    | (clear T4; go_at_call 33; refine (aw_ex _).mono ?_; rintro e w4 ⟨A0, c0, A1, c1, A3, c3, rfl, hx, hb⟩; have HX := mk_ hx; have HB4 := mk_ (below_step HB3.out hb); clear hx hb HB3)
    | (clear T5; go_at_call 34; refine (aw_so _).mono ?_; rintro e w5 ⟨A2, c2, A5, c5, rfl, hs, hb⟩; have HS := mk_ hs; have HX1 := mk_ (HX.out.below hb); have HB5 := mk_ (below_step HB4.out hb); clear hs hb HX HB4)
    | (clear T6; go_at_call 14; refine (evaluate_At.calls k A0 c0 exD A1 c1 exT 1 A3 c3 exF 9 exS A2 c2 [] 0 0 A5 c5 exK 0 2 false 0 _ HX1.out.r0 HX1.out.l0 HX1.out.r1 HX1.out.l1 HX1.out.r3 HX1.out.l3 HS.out.r2 HS.out.l2 HS.out.r5 HS.out.l5 HO.out.b (tb_on HTB.out HB5.out)).mono ?_; rintro e w6 ⟨rfl, hb⟩; have HB6 := mk_ (below_step HB5.out hb); clear hb HB5 HX1 HS)
    | (clear T7; go_at_call 33; refine (aw_ex _).mono ?_; rintro e w7 ⟨A0, c0, A1, c1, A3, c3, rfl, hx, hb⟩; have HX := mk_ hx; have HB7 := mk_ (below_step HB6.out hb); clear hx hb HB6)
    | (clear T8; go_at_call 34; refine (aw_so _).mono ?_; rintro e w8 ⟨A2, c2, A5, c5, rfl, hs, hb⟩; have HS := mk_ hs; have HX1 := mk_ (HX.out.below hb); have HB8 := mk_ (below_step HB7.out hb); clear hs hb HX HB7)
    | (clear T9; go_at_call 27; refine (evaluate_Witness.calls k A0 c0 exD A1 c1 exT 1 A3 c3 exF 9 exS A2 c2 [] 0 0 A5 c5 exK 1 1 ⟨#[112, 101, 114, 115, 111, 110, 35, 49]⟩ true 0 _ HX1.out.r0 HX1.out.l0 HX1.out.r1 HX1.out.l1 HX1.out.r3 HX1.out.l3 HS.out.r2 HS.out.l2 HS.out.r5 HS.out.l5 HO.out.s (tb_on HTB.out HB8.out)).mono ?_; rintro e w9 ⟨rfl, hb⟩; have HB9 := mk_ (below_step HB8.out hb); clear hb HB8 HX1 HS)
    | (clear T10; go_at_call 33; refine (aw_ex _).mono ?_; rintro e w10 ⟨A0, c0, A1, c1, A3, c3, rfl, hx, hb⟩; have HX := mk_ hx; have HB10 := mk_ (below_step HB9.out hb); clear hx hb HB9)
    | (clear T11; go_at_call 22; refine (evaluate_Moments.calls k A0 c0 exD A1 c1 exT 1 A3 c3 exF 60 (-1) exM 0 _ HX.out.r0 HX.out.l0 HX.out.r1 HX.out.l1 HX.out.r3 HX.out.l3 HO.out.m).mono ?_; rintro e w11 ⟨v, rfl, hv, hb⟩; obtain ⟨AM, cM, rfl, lM, fM⟩ := Kd.R_V (base' := 0) hv; have HM := mk_ (And.intro lM (Kd.F_now fM)); have HBM := mk_ (Below.refl w11.heap.size w11); have HB11 := mk_ (below_step HB10.out hb); clear hv hb lM fM HB10 HX)
    | (clear T12; go_at_call 33; refine (aw_ex _).mono ?_; rintro e w12 ⟨A0, c0, A1, c1, A3, c3, rfl, hx, hb⟩; have HX := mk_ hx; have HM1 := mk_ (And.intro HM.out.1 (Kd.C_below HM.out.2 hb)); have HB12 := mk_ (below_step HB11.out hb); clear hx hb HB11 HM)
    | (clear T13; go_at_call 18; refine (evaluate_True.calls k A0 c0 exD A1 c1 exT 1 A3 c3 exF 1 ⟨#[]⟩ none 0 [] 0 0 none 0 [] true 0 _ HX.out.r0 HX.out.l0 HX.out.r1 HX.out.l1 HX.out.r3 HX.out.l3 (C_none _ _) (Nat.le_refl _) (C_none _ _) (Nat.le_refl _) HO.out.t (tb_on HTB.out HB12.out)).mono ?_; rintro e w13 ⟨rfl, hb⟩; have HB13 := mk_ (below_step HB12.out hb); have HM2 := mk_ (And.intro HM1.out.1 (Kd.C_below HM1.out.2 hb)); have HC12 := mk_ (C_12 w13); clear hb HB12 HX HM1)
    | (clear T14; go_at_call 25; refine (pentaglotref22_SameInts.calls k AM cM exM (some ⟨w13.heap.size, 0, none⟩) 2 exM true _ (Kd.C_below HM2.out.2 (below_alloc (Below.refl _ _) _)) HM2.out.1 HC12.out (by decide) HO.out.n).mono ?_; rintro e w14 ⟨rfl, hd⟩; have HD := mk_ hd; clear hd))
  go_ret
  obtain ⟨nd, e14⟩ := HD.out.out
  subst e14
  exact ⟨by first | rfl | simp, pw_below_drewN (below_alloc HB13.out _) nd⟩

mutual
def pentaglotref22_Size.l0 : Nat → Int → Int → Int → ByteArray → List (S92) → Int → Int → List (S32) → Option (Int)
  | 0, _, _, _, _, _, _, _, _ => none
  | k + 1, x3, x4, x206000, x206001, x206002, x206003, x206004, x206005 => if x4 < (x206005.length : Int) then (if 0 ≤ x4 then ((pentaglotref22_Size.f k ((rd_T32 x206005 x4).f0) ((rd_T32 x206005 x4).f1) ((rd_T32 x206005 x4).f2) ((rd_T32 x206005 x4).f3) ((rd_T32 x206005 x4).f4) ((rd_T32 x206005 x4).f5)).bind fun t207 => (pentaglotref22_Size.l0 k (wrap64 (x3 + t207)) (wrap64 (x4 + 1)) x206000 x206001 x206002 x206003 x206004 x206005)) else (none)) else (some x3)
def pentaglotref22_Size.f : Nat → Int → ByteArray → List (S92) → Int → Int → List (S32) → Option (Int)
  | 0, _, _, _, _, _, _ => none
  | k + 1, a0_0, a0_1, l0_2, a0_3, a0_4, l0_5 => pentaglotref22_Size.l0 k 1 0 a0_0 a0_1 l0_2 a0_3 a0_4 l0_5
end
theorem pentaglotref22_Size.calls (k : Nat) : ∀ (a0_0 : Int) (a0_1 : ByteArray) (A0_2 : Option Addr) (c0_2 : Nat) (l0_2 : List (S92)) (a0_3 : Int) (a0_4 : Int) (A0_5 : Option Addr) (c0_5 : Nat) (l0_5 : List (S32)) (r : Int) (w : World) (hr0_2 : Kd.C k92 w A0_2 l0_2.length l0_2) (hc0_2 : l0_2.length ≤ c0_2) (hr0_5 : Kd.C k32 w A0_5 l0_5.length l0_5) (hc0_5 : l0_5.length ≤ c0_5) (h : pentaglotref22_Size.f k a0_0 a0_1 l0_2 a0_3 a0_4 l0_5 = some r),
    Calls Tryd.prog 35 #[.agg #[.int .i64 a0_0, .string a0_1, .slice A0_2 l0_2.length c0_2, .int .i64 a0_3, .int .i64 a0_4, .slice A0_5 l0_5.length c0_5]] w fun e w' => e = .returned (.int .i64 r) ∧ Below w.heap.size w w' := by
  induction k using Nat.strongRecOn with
  | _ k ih =>
  intro a0_0 a0_1 A0_2 c0_2 l0_2 a0_3 a0_4 A0_5 c0_5 l0_5 r w hr0_2 hc0_2 hr0_5 hc0_5 h
  cases k with
  | zero => exact absurd h (by simp [pentaglotref22_Size.f])
  | succ k =>
  simp only [pentaglotref22_Size.f] at h
  have hu32 := Tryd.underlying32
  have HR0_2 := mk_ hr0_2
  have HC0_2 := mk_ hc0_2
  clear hr0_2 hc0_2
  have HR0_5 := mk_ hr0_5
  have HC0_5 := mk_ hc0_5
  clear hr0_5 hc0_5
  have HB := mk_ (Below.refl w.heap.size w)
  have H : (pentaglotref22_Size.l0 k 1 0 a0_0 a0_1 l0_2 a0_3 a0_4 l0_5) = some r := h
  clear h
  have H' := mk_ H
  clear H
  go_enter Tryd.func35, Tryd.ntmps35
  go_wp2_with (first | ((with_reducible refine gate_dst (N := 1) rfl ?_); refine bx_ 1 #[.int .i64 a0_0, .string a0_1, .slice A0_2 l0_2.length c0_2, .int .i64 a0_3, .int .i64 a0_4, .slice A0_5 l0_5.length c0_5] 32 ?_; intro gb205 hg w2 hbox hb; have BK205 := mk_ (hbox); have GW205 := mk_ (gs_ hg (be_ HB)); have GE205 := mk_ (gs_ hg (be_ HB)); replace HB := mk_ (below_step (be_ HB) hb); clear hb hbox hg))
  go_loopg [3, 4] k (fun kq v3 v4 w' => ∃ (x3_1 : Int) (x4_1 : Int), v3 = .int .i64 x3_1 ∧ v4 = .int .i64 x4_1 ∧ Aside0 (pentaglotref22_Size.l0 kq x3_1 x4_1 a0_0 a0_1 l0_2 a0_3 a0_4 l0_5 = some r) ∧ Aside0 (kq ≤ k) ∧ Aside0 (w'.heap[gb205]? = some (.cells #[.int .i64 a0_0, .string a0_1, (.slice A0_2 l0_2.length c0_2), .int .i64 a0_3, .int .i64 a0_4, (.slice A0_5 l0_5.length c0_5)] 32 (0, 0))) ∧ Aside0 (Below w.heap.size w w'))
  case atStart => exact ⟨(1), (0), fi_, fi_, H', ⟨Nat.le_refl _⟩, ⟨bq_ BK205⟩, ⟨be1_ HB GE205⟩⟩
  case round =>
    clear H'
    obtain ⟨x3_1, x4_1, rfl, rfl, HA, HK1, BK205, HB⟩ := hrel
    cases gk with
    | zero => exact absurd HA.out (by simp [pentaglotref22_Size.l0])
    | succ k1 =>
      have H := HA.out
      clear HA
      simp only [pentaglotref22_Size.l0] at H
      by_cases c3 : x4_1 < (l0_5.length : Int)
      · rw [if_pos c3] at H
        have c3b0 : decide (x4_1 < (l0_5.length : Int)) = true := decide_eq_true c3
        clear c3
        by_cases c4 : 0 ≤ x4_1
        · rw [if_pos c4] at H
          have c4b0 : decide (0 ≤ x4_1) = true := decide_eq_true c4
          clear c4
          replace H := Option.bind_eq_some_iff.mp H
          obtain ⟨t207, A50, H⟩ := H
          replace H : (pentaglotref22_Size.l0 k1 (wrap64 (x3_1 + t207)) (wrap64 (x4_1 + 1)) a0_0 a0_1 l0_2 a0_3 a0_4 l0_5) = some r := H
          have A5 := mk_ A50
          clear A50
          have H' := mk_ H
          clear H
          obtain ⟨_, _, _, _, _, _, _, _, _, _, _, _⟩ := hb6_ BK205
          have p206 : 0 ≤ (x4_1 : Int) := of_decide_eq_true (by first | (with_reducible assumption) | assumption)
          have q206 : x4_1 < (l0_5.length : Int) := of_decide_eq_true (by first | (with_reducible assumption) | assumption)
          obtain ⟨ad206, A206_2, c206_2, A206_5, c206_5, e206, hx206_0, hx206_1, hx206_2, hx206_3, hx206_4, hx206_5, hl206_2, hi206_2, hl206_5, hi206_5⟩ := at_T32 HR0_5.out x4_1 p206 q206
          cases e206
          replace hx206_0 := cb_ HB hx206_0
          replace hx206_1 := cb_ HB hx206_1
          replace hx206_2 := cb_ HB hx206_2
          replace hx206_3 := cb_ HB hx206_3
          replace hx206_4 := cb_ HB hx206_4
          replace hx206_5 := cb_ HB hx206_5
          have HR206_2 := mk_ hi206_2
          have HC206_2 := mk_ hl206_2
          clear hi206_2 hl206_2
          have HR206_5 := mk_ hi206_5
          have HC206_5 := mk_ hl206_5
          clear hi206_5 hl206_5
          replace p206 := eq_true p206
          replace q206 := eq_true q206
          go_wp2_with (first | ((with_reducible refine gate_callee (f := 35) rfl ?_); refine gl_ (some 18) Tryd.func35 #[.agg #[.int .i64 ((rd_T32 l0_5 x4_1).f0), .string ((rd_T32 l0_5 x4_1).f1), .slice A206_2 ((rd_T32 l0_5 x4_1).f2).length c206_2, .int .i64 ((rd_T32 l0_5 x4_1).f3), .int .i64 ((rd_T32 l0_5 x4_1).f4), .slice A206_5 ((rd_T32 l0_5 x4_1).f5).length c206_5]] ?_; (with_reducible refine (ih k1 (by have := HK1.out; omega) ((rd_T32 l0_5 x4_1).f0) ((rd_T32 l0_5 x4_1).f1) _ _ ((rd_T32 l0_5 x4_1).f2) ((rd_T32 l0_5 x4_1).f3) ((rd_T32 l0_5 x4_1).f4) _ _ ((rd_T32 l0_5 x4_1).f5) t207 _ ?side1 ?side2 ?side3 ?side4 A5.out).mono ?_); (case side1 => exact cs_ (Kd.C_below HR206_2.out HB.out)); (case side2 => exact HC206_2.out); (case side3 => exact cs_ (Kd.C_below HR206_5.out HB.out)); (case side4 => exact HC206_5.out); rintro e w7 ⟨rfl, hb⟩; refine ⟨_, rfl, ?_⟩; replace BK205 := mk_ (bb_ BK205 hb); replace HB := mk_ (below_step (be1_ HB GE205) hb); (try clear hb); (try clear hb2); (try clear hk); (try clear hi)))
          go_roundg k1
          case measure => have := HK1.out; omega
          case rel => exact ⟨(wrap64 (x3_1 + t207)), (wrap64 (x4_1 + 1)), fi_, fi_, H', ⟨by have := HK1.out; omega⟩, ⟨bq_ BK205⟩, ⟨be1_ HB GE205⟩⟩
        · rw [if_neg c4] at H
          exact absurd H (by simp)
      · rw [if_neg c3] at H
        have c3b0 : decide (x4_1 < (l0_5.length : Int)) = false := decide_eq_false c3
        clear c3
        obtain rfl := Option.some.inj H
        obtain ⟨_, _, _, _, _, _, _, _, _, _, _, _⟩ := hb6_ BK205
        go_wp2
        go_ret
        exact ⟨er_, be1_ HB GE205⟩

end Go.Proofs.YtolpckflofjfhaaDoor.P
