-- Written by the session's own program wip/tools/xprint.py out of the translation, with the kit's print.py on a scratch copy; functions given by hand stand among them.
import Derived.Test.YtfampmajmbediaaPx0
import Derived.Test.YtfampmajmbediaaPx2
import Derived.Test.YtfampmajmbediaaPx3
import Derived.Test.YtfampmajmbediaaPx4
import Derived.Test.YtfampmajmbediaaPx5
import Derived.Test.YtfampmajmbediaaPx6
import Derived.Test.YtfampmajmbediaaPx8
import Derived.Test.YtfampmajmbediaaPx9
import Derived.Test.YtfampmajmbediaaPx10
import Derived.Test.YtfampmajmbediaaPx12
namespace Go.Proofs.Ytfampmajmbediaa.P
open Go.RowKit Go.Proofs.YtfampmajmbediaaW.PrintWords Go.Proofs.YtfampmajmbediaaW.PrintLast Go.Proofs.YtfampmajmbediaaW.PrintMore
attribute [local go_sem] max2_int min2_int max_two min_two max_three min_three max_four min_four   -- for this text's walks alone
set_option linter.unusedVariables false
set_option linter.unusedSimpArgs false

/-! ### anaphora_Resolve: function 17, by hand -/
-- leans on 38 14 45 46 44 20 37
/-- Whether a pronoun is passed by: it stands in one that was replaced (or the tree itself is one). -/
def hitG (k : Nat) (tp : Bool) (p : List Int) : Option (List Int) → Option Bool
  | none => some (decide (0 < p.length) && tp)
  | some [] => if tp = true then some (decide (0 < p.length)) else none
  | some (a :: l) => if l.length + 1 < p.length then (slices_Equal_int_int.f k (p.take (l.length + 1)) (a :: l)).bind fun b => some (b || (decide (0 < p.length) && tp)) else some (decide (0 < p.length) && tp)
theorem hitG_mono (k : Nat) (tp : Bool) (p : List Int) (last : Option (List Int)) : LeO (hitG k tp p last) (hitG (k + 1) tp p last) := by
  match last with
  | none => exact LeO.refl _
  | some [] => exact LeO.refl _
  | some (a :: l) => exact LeO.ite (LeO.bind (slices_Equal_int_int.mono _ _ _) (fun _ => LeO.refl _)) (LeO.refl _)
/-- One handed over: none: not covered; some none: an error; else the tree and the last path. -/
def resStep (k : Nat) (num : ByteArray) (tp : Bool) (np : S27) (u : S27) (last : Option (List Int)) (y : List Int × S27) : Option (Option (S27 × Option (List Int))) :=
  if prB y.2 = false then some (some (u, last)) else if (y.2.f0.toList == num.toList) = false then some none else
    (hitG k tp y.1 last).bind fun h => if h = true then some (some (u, last)) else (abstract_Replace.f k u.f0 u.f1 u.f2 y.1 np.f0 np.f1 np.f2).bind fun r => some (some (⟨r.1, r.2.1, r.2.2.1⟩, some y.1))
theorem resStep_mono (k : Nat) (num : ByteArray) (tp : Bool) (np : S27) (u : S27) (last : Option (List Int)) (y : List Int × S27) : LeO (resStep k num tp np u last y) (resStep (k + 1) num tp np u last y) := by
  unfold resStep
  exact LeO.ite (LeO.refl _) (LeO.ite (LeO.refl _) (LeO.bind (hitG_mono _ _ _ _) (fun h => LeO.ite (LeO.refl _) (LeO.bind (abstract_Replace.mono _ _ _ _ _ _ _ _) (fun _ => LeO.refl _)))))
def resFold (k : Nat) (num : ByteArray) (tp : Bool) (np : S27) : List (List Int × S27) → S27 → Option (List Int) → Option (Option S27)
  | [], u, _ => some (some u)
  | y :: ys, u, last => (resStep k num tp np u last y).bind fun r => match r with
    | none => some none
    | some s => resFold k num tp np ys s.1 s.2
theorem resFold_mono (k : Nat) (num : ByteArray) (tp : Bool) (np : S27) : ∀ ys u last, LeO (resFold k num tp np ys u last) (resFold (k + 1) num tp np ys u last) := by
  intro ys
  induction ys with
  | nil => intro u last; exact LeO.refl _
  | cons y ys ih =>
    intro u last
    refine LeO.bind (resStep_mono _ _ _ _ _ _ _) (fun r => ?_)
    cases r with
    | none => exact LeO.refl _
    | some s => exact ih _ _
/-- One tree of a notice: an error, or what it is resolved to. -/
def resOne (k : Nat) (l0 : List S27) (i : Int) (t : S27) : Option (Int × S27) :=
  (anaphora_clone.f k t.f0 t.f1 t.f2).bind fun u => (anaphora_Pronouns.f k t.f0 t.f1 t.f2).bind fun n =>
    (if 0 < n then (anaphora_Antecedent.f k l0 i).bind fun np => if np.2.2.2 = 0 then (anaphora_number.f k np.1 np.2.1 np.2.2.1).bind fun num => (nodesO k [] t).bind fun xs =>
        (resFold k num (prB t) ⟨np.1, np.2.1, np.2.2.1⟩ xs ⟨u.1, u.2.1, u.2.2⟩ none).bind fun r => match r with
          | none => some ((10 : Int), z27)
          | some x => some ((0 : Int), x)
      else some ((10 : Int), z27) else some ((0 : Int), ⟨u.1, u.2.1, u.2.2⟩)).bind fun r => if r.1 = 0 then (abstract_Size.f k r.2.f0 r.2.f1 r.2.f2).bind fun s => if 60 < s then some (2, z27) else some (0, r.2) else some (r.1, z27)
theorem resOne_mono (k : Nat) (l0 : List S27) (i : Int) (t : S27) : LeO (resOne k l0 i t) (resOne (k + 1) l0 i t) := by
  unfold resOne
  refine LeO.bind (anaphora_clone.mono _ _ _ _) (fun u => LeO.bind (anaphora_Pronouns.mono _ _ _ _) (fun n => LeO.bind (LeO.ite (LeO.bind (anaphora_Antecedent.mono _ _ _) (fun np => LeO.ite (LeO.bind (anaphora_number.mono _ _ _ _) (fun num => LeO.bind (nodesO_mono _ _ _) (fun xs => LeO.bind (resFold_mono _ _ _ _ _ _ _) (fun r => LeO.refl _)))) (LeO.refl _))) (LeO.refl _)) (fun r => LeO.ite (LeO.bind (abstract_Size.mono _ _ _ _) (fun s => LeO.refl _)) (LeO.refl _))))
def resL (k : Nat) (l0 : List S27) : List S27 → Nat → List S27 → Option (List S27 × Int)
  | [], _, acc => some (acc, 0)
  | t :: ts, j, acc => (resOne k l0 (j : Int) t).bind fun r => if r.1 = 0 then resL k l0 ts (j + 1) (acc ++ [r.2]) else some ([], r.1)
theorem resL_mono (k : Nat) (l0 : List S27) : ∀ ts j acc, LeO (resL k l0 ts j acc) (resL (k + 1) l0 ts j acc) := by
  intro ts
  induction ts with
  | nil => intro j acc; exact LeO.refl _
  | cons t ts ih => intro j acc; exact LeO.bind (resOne_mono _ _ _ _) (fun r => LeO.ite (ih _ _) (LeO.refl _))
def anaphora_Resolve.f (k : Nat) (l0 : List S27) : Option (List S27 × Int) := if l0.length ≤ 1000000 then resL k l0 l0 0 [] else none
theorem anaphora_Resolve.mono (l0 : List S27) (k : Nat) : LeO (anaphora_Resolve.f k l0) (anaphora_Resolve.f (k + 1) l0) := LeO.ite (resL_mono _ _ _ _ _) (LeO.refl _)
section
variable {P : Program} {ops : Array Oper} {Q : Exit → Act → World → Prop} {S : World → Prop} {ds : List Nat}
/-- The same beginning, for a region in whatever frame. -/
theorem startA_ {n : Nat} {a : Act} {w : World} (l : Array Bool) (hn : ops.size = n) (hl : Array.replicate n false = l) (hS : S w.drew)
    (h : S w.drew → wpAnyLast P .any ops Q S ds n l a w.drew) : wpAny P .any ops Q ops.size (Array.replicate ops.size false) a { w with drawn := w.drawn + 1 } := by
  subst hn
  subst hl
  exact wpAny_of_last _ _ _ _ (h hS)
theorem wpOpIn_of {m : Nat} {r : Option Nat} {K : Act → World → Prop} {i : Nat} {a : Act} {w : World} (hQ : ∀ a w, ¬ Q .outgrown a w) (hd : ∀ o ∈ ops.toList, ∀ c, o.op ≠ .defer c) (h : wpOp P ops Q i K a w) : wpOpIn { Fence.wide with round := r } m P ops Q i K a w := by
  unfold wpOpIn
  unfold wpOp at h
  split
  · rename_i he
    simpa [he] using h
  · rename_i o ho
    simp only [ho] at h
    split
    · rename_i hw
      simp only [hw, if_true] at h
      rcases h with h | h
      · have hs : o.semAt r a.eval = execOp a.eval o := by
          cases r with
          | none => rfl
          | some l => exact Oper.semAt_some l _ _ (hd o (by
              obtain ⟨hi, rfl⟩ := Array.getElem?_eq_some_iff.1 ho
              simp))
        refine ⟨fun f _ => trivial, ?_⟩
        show o.uponIn _ m P a _ Q ((o.semAt r a.eval).run P w)
        rw [hs]
        exact uponIn_of2 _ h
      · obtain ⟨a, w, h⟩ := h.2
        exact absurd h (hQ a w)
    · rename_i hw
      simp only [hw] at h
      exact ⟨fun f _ => trivial, h⟩
theorem wpAnyIn_of {m : Nat} {r : Option Nat} {md : Region.Mode} (hQ : ∀ a w, ¬ Q .outgrown a w) (hd : ∀ o ∈ ops.toList, ∀ c, o.op ≠ .defer c) : ∀ (fuel : Nat) (l : Array Bool) (a : Act) (w : World), wpAny P md ops Q fuel l a w → wpAnyIn { Fence.wide with round := r } m P md ops Q fuel l a w
  | 0, _, _, _, h => h
  | fuel + 1, l, a, w, h => ⟨h.1, fun i hi => wpOpIn_mono (fun a w h => wpAnyIn_of hQ hd fuel _ a w h) (wpOpIn_of hQ hd (h.2 i hi))⟩
/-- A region that draws its order, in a round's frame. -/
theorem wpIn_drawn_of {id m : Nat} {r : Option Nat} {l : List Oper} {a : Act} {w : World} (hm : P.follows .mixedOrders = true) (hQ : ∀ a w, ¬ Q .outgrown a w) (hd : ∀ o ∈ l, ∀ c, o.op ≠ .defer c)
    (h : wpAny P .any l.toArray Q l.toArray.size (Array.replicate l.toArray.size false) a { w with drawn := w.drawn + 1 }) : (Code.region id l.toArray true).wpIn { Fence.wide with round := r } m P Q a w :=
  wpIn_region_any hm (wpAnyIn_of hQ (by simpa using hd) _ _ _ _ h)
end
def r18ops : Array Oper := #[{ dst := some 46, op := Go.Op.load 25 (Go.Operand.tmp 11), type := 25, pos := "anaphora.go:93", after := #[], guard := none }, { dst := some 47, op := Go.Op.binOp Go.BinOp.neq 25 (Go.Operand.tmp 46) (Go.Operand.const (Go.Value.slice none 0 0)) 25, type := 4, pos := "anaphora.go:93", after := #[{ on := 0, ground := Go.Ground.data }], guard := none }, { dst := some 48, op := Go.Op.move (Go.Operand.tmp 47), type := 4, pos := "anaphora.go:93", after := #[{ on := 1, ground := Go.Ground.data }], guard := none }, { dst := some 49, op := Go.Op.move (Go.Operand.tmp 12), type := 25, pos := "anaphora.go:93", after := #[{ on := 2, ground := Go.Ground.guard }], guard := some (2, true) }, { dst := some 50, op := Go.Op.call { callee := Go.Callee.builtin Go.Builtin.len, args := #[Go.Operand.tmp 49], argTypes := #[25] }, type := 3, pos := "anaphora.go:93", after := #[{ on := 3, ground := Go.Ground.data }, { on := 2, ground := Go.Ground.guard }], guard := some (2, true) }, { dst := some 51, op := Go.Op.load 25 (Go.Operand.tmp 11), type := 25, pos := "anaphora.go:93", after := #[{ on := 2, ground := Go.Ground.guard }], guard := some (2, true) }, { dst := some 52, op := Go.Op.call { callee := Go.Callee.builtin Go.Builtin.len, args := #[Go.Operand.tmp 51], argTypes := #[25] }, type := 3, pos := "anaphora.go:93", after := #[{ on := 5, ground := Go.Ground.data }, { on := 2, ground := Go.Ground.guard }], guard := some (2, true) }, { dst := some 53, op := Go.Op.binOp Go.BinOp.gtr 3 (Go.Operand.tmp 50) (Go.Operand.tmp 52) 3, type := 4, pos := "anaphora.go:93", after := #[{ on := 4, ground := Go.Ground.data }, { on := 6, ground := Go.Ground.data }, { on := 2, ground := Go.Ground.guard }], guard := some (2, true) }, { dst := some 54, op := Go.Op.pick (Go.Operand.tmp 48) (Go.Operand.tmp 53) (Go.Operand.const (Go.Value.bool false)), type := 4, pos := "anaphora.go:93", after := #[{ on := 2, ground := Go.Ground.data }, { on := 7, ground := Go.Ground.data }], guard := none }, { dst := some 55, op := Go.Op.move (Go.Operand.tmp 54), type := 4, pos := "anaphora.go:93", after := #[{ on := 8, ground := Go.Ground.data }, { on := 2, ground := Go.Ground.chain }], guard := none }, { dst := some 56, op := Go.Op.move (Go.Operand.tmp 12), type := 25, pos := "anaphora.go:93", after := #[{ on := 9, ground := Go.Ground.guard }], guard := some (9, true) }, { dst := some 57, op := Go.Op.load 25 (Go.Operand.tmp 11), type := 25, pos := "anaphora.go:93", after := #[{ on := 9, ground := Go.Ground.guard }], guard := some (9, true) }, { dst := some 58, op := Go.Op.call { callee := Go.Callee.builtin Go.Builtin.len, args := #[Go.Operand.tmp 57], argTypes := #[25] }, type := 3, pos := "anaphora.go:93", after := #[{ on := 11, ground := Go.Ground.data }, { on := 9, ground := Go.Ground.guard }], guard := some (9, true) }, { dst := some 59, op := Go.Op.slice 25 (Go.Operand.tmp 56) none (some (Go.Operand.tmp 58)) none, type := 25, pos := "anaphora.go:93", after := #[{ on := 10, ground := Go.Ground.data }, { on := 12, ground := Go.Ground.data }, { on := 9, ground := Go.Ground.guard }], guard := some (9, true) }, { dst := some 60, op := Go.Op.load 25 (Go.Operand.tmp 11), type := 25, pos := "anaphora.go:93", after := #[{ on := 9, ground := Go.Ground.guard }], guard := some (9, true) }, { dst := some 61, op := Go.Op.call { callee := Go.Callee.value (Go.Operand.func 44), args := #[Go.Operand.tmp 59, Go.Operand.tmp 60], argTypes := #[25, 25] }, type := 4, pos := "anaphora.go:93", after := #[{ on := 13, ground := Go.Ground.data }, { on := 14, ground := Go.Ground.data }, { on := 9, ground := Go.Ground.chain }, { on := 9, ground := Go.Ground.guard }], guard := some (9, true) }, { dst := some 62, op := Go.Op.pick (Go.Operand.tmp 55) (Go.Operand.tmp 61) (Go.Operand.const (Go.Value.bool false)), type := 4, pos := "anaphora.go:93", after := #[{ on := 9, ground := Go.Ground.data }, { on := 15, ground := Go.Ground.data }], guard := none }, { dst := some 63, op := Go.Op.move (Go.Operand.tmp 62), type := 4, pos := "anaphora.go:93", after := #[{ on := 16, ground := Go.Ground.data }, { on := 15, ground := Go.Ground.chain }], guard := none }, { dst := some 64, op := Go.Op.move (Go.Operand.tmp 12), type := 25, pos := "anaphora.go:93", after := #[{ on := 17, ground := Go.Ground.guard }], guard := some (17, false) }, { dst := some 65, op := Go.Op.call { callee := Go.Callee.builtin Go.Builtin.len, args := #[Go.Operand.tmp 64], argTypes := #[25] }, type := 3, pos := "anaphora.go:93", after := #[{ on := 18, ground := Go.Ground.data }, { on := 17, ground := Go.Ground.guard }], guard := some (17, false) }, { dst := some 66, op := Go.Op.binOp Go.BinOp.gtr 3 (Go.Operand.tmp 65) (Go.Operand.const (Go.Value.int Go.IntKind.i64 0)) 3, type := 4, pos := "anaphora.go:93", after := #[{ on := 19, ground := Go.Ground.data }, { on := 17, ground := Go.Ground.guard }], guard := some (17, false) }, { dst := some 67, op := Go.Op.move (Go.Operand.tmp 66), type := 4, pos := "anaphora.go:93", after := #[{ on := 20, ground := Go.Ground.data }, { on := 17, ground := Go.Ground.chain }, { on := 17, ground := Go.Ground.guard }], guard := some (17, false) }, { dst := some 68, op := Go.Op.load 27 (Go.Operand.tmp 6), type := 27, pos := "anaphora.go:93", after := #[{ on := 21, ground := Go.Ground.guard }], guard := some (21, true) }, { dst := some 69, op := Go.Op.call { callee := Go.Callee.value (Go.Operand.func 43), args := #[Go.Operand.tmp 68], argTypes := #[27] }, type := 4, pos := "anaphora.go:93", after := #[{ on := 22, ground := Go.Ground.data }, { on := 21, ground := Go.Ground.chain }, { on := 21, ground := Go.Ground.guard }], guard := some (21, true) }, { dst := some 70, op := Go.Op.pick (Go.Operand.tmp 67) (Go.Operand.tmp 69) (Go.Operand.const (Go.Value.bool false)), type := 4, pos := "anaphora.go:93", after := #[{ on := 21, ground := Go.Ground.data }, { on := 23, ground := Go.Ground.data }, { on := 17, ground := Go.Ground.guard }], guard := some (17, false) }, { dst := some 71, op := Go.Op.pick (Go.Operand.tmp 63) (Go.Operand.const (Go.Value.bool true)) (Go.Operand.tmp 70), type := 4, pos := "anaphora.go:93", after := #[{ on := 17, ground := Go.Ground.data }, { on := 24, ground := Go.Ground.data }], guard := none }]
set_option maxHeartbeats 16000000 in
set_option maxRecDepth 100000 in
theorem res_r18_A (k : Nat) (t : S27) (p : List Int) (cl0 : Nat) (b6 b11 : Nat) (X1 : Option Addr) (e1 : Nat) (X2 : Option Addr) (e2 : Nat) (Ap : Option Addr) (cp : Nat) (A : World) (u0 u1 u2 u3 u4 u5 u7 u8 u9 u10 u13 u14 u15 u16 u17 u18 u19 u20 u21 u22 u23 u24 u25 u26 u27 u28 u29 u30 u31 u32 u33 u34 u35 u36 u37 u38 u39 u40 u41 u42 u43 u44 u45 u46 u47 u48 u49 u50 u51 u52 u53 u54 u55 u56 u57 u58 u59 u60 u61 u62 u63 u64 u65 u66 u67 u68 u69 u70 u71 u72 u73 u74 u75 u76 u77 u78 u79 u80 u81 u82 u83 u84 u85 u86 u87 u88 : Value)
    (hb6 : A.heap[b6]? = some (.cells #[.string t.f0, .slice X1 t.f1.length e1, .slice X2 t.f2.length e2] 27 (0, 0))) (hb11 : A.heap[b11]? = some (.cells #[.slice none 0 cl0] 25 (0, 0)))
    (h1 : Kd.C (Kd.int .i64) A X1 t.f1.length t.f1) (l1 : t.f1.length ≤ e1) (h2 : Kd.C k27 A X2 t.f2.length t.f2) (l2 : t.f2.length ≤ e2) (hp : p.length = 0) (Q : Exit → Act → World → Prop) (hQp : ∀ c a a' w, Q (.panic c) a w → Q (.panic c) a' w)
    (hQ : ∀ (x46 x47 x48 x49 x50 x51 x52 x53 x54 x55 x56 x57 x58 x59 x60 x61 x62 x63 x64 x65 x66 x67 x68 x69 x70 : Value) (w' : World), Below A.heap.size A w' → Q .normal { tmps := #[u0, u1, u2, u3, u4, u5, .pointer (some ⟨b6, 0, none⟩), u7, u8, u9, u10, .pointer (some ⟨b11, 0, none⟩), .slice Ap p.length cp, u13, u14, u15, u16, u17, u18, u19, u20, u21, u22, u23, u24, u25, u26, u27, u28, u29, u30, u31, u32, u33, u34, u35, u36, u37, u38, u39, u40, u41, u42, u43, u44, u45, x46, x47, x48, x49, x50, x51, x52, x53, x54, x55, x56, x57, x58, x59, x60, x61, x62, x63, x64, x65, x66, x67, x68, x69, x70, .bool false, u72, u73, u74, u75, u76, u77, u78, u79, u80, u81, u82, u83, u84, u85, u86, u87, u88], defers := [] } w') :
    wpAny Try.prog .any r18ops Q 26 (Array.replicate 26 false) { tmps := #[u0, u1, u2, u3, u4, u5, .pointer (some ⟨b6, 0, none⟩), u7, u8, u9, u10, .pointer (some ⟨b11, 0, none⟩), .slice Ap p.length cp, u13, u14, u15, u16, u17, u18, u19, u20, u21, u22, u23, u24, u25, u26, u27, u28, u29, u30, u31, u32, u33, u34, u35, u36, u37, u38, u39, u40, u41, u42, u43, u44, u45, u46, u47, u48, u49, u50, u51, u52, u53, u54, u55, u56, u57, u58, u59, u60, u61, u62, u63, u64, u65, u66, u67, u68, u69, u70, u71, u72, u73, u74, u75, u76, u77, u78, u79, u80, u81, u82, u83, u84, u85, u86, u87, u88], defers := [] } { A with drawn := A.drawn + 1 } := by
  have hu27 := Try.underlying27
  have h43 := fun (W : World) (hb : Below A.heap.size A W) => (anaphora_pronoun.calls t.f0 X1 e1 t.f1 X2 e2 t.f2 (prB t) W (Kd.F_now (Kd.F_below (Kd.C_F (Kd.heap_int .i64) h1) hb)) l1 (Kd.F_now (Kd.F_below (Kd.C_F k27_heap h2) hb)) l2 (prB_eq t)).mono (R' := fun e w' => e = .returned (.bool (prB t)) ∧ Below A.heap.size A w') (fun e w' h => ⟨h.1, hb.trans (h.2.mono hb.size)⟩)
  have hp0 : ¬ (0 : Int) < (p.length : Int) := by omega
  have HB6 := Aside0.mk hb6
  have HB11 := Aside0.mk hb11
  have HQ := Aside0.mk hQ
  have heq := fun (w : World) (a : Option Addr) (n c : Nat) => Go.run_neq_slice_nil (P := Try.prog) w 25 3 a n c Try.underlying25
  have hbd : Below A.heap.size A A.drew := below_drew (Below.refl _ _)
  have HBD := Aside0.mk hbd
  clear h1 h2 hb6 hb11 hQ hbd
  dsimp only
  unfold r18ops
  refine startA_ (n := 26) (S := fun w' => w'.cell? ⟨b11, 0, none⟩ = some (.slice none 0 cl0) ∧ w'.cell? ⟨b6, 0, none⟩ = some (.string t.f0) ∧ w'.cell? ⟨b6, 1, none⟩ = some (.slice X1 t.f1.length e1) ∧ w'.cell? ⟨b6, 2, none⟩ = some (.slice X2 t.f2.length e2)) (ds := []) #[false, false, false, false, false, false, false, false, false, false, false, false, false, false, false, false, false, false, false, false, false, false, false, false, false, false] rfl rfl ⟨(blk_cell (blk_below HB11.out HBD.out) 0).trans rfl, (blk_cell (blk_below HB6.out HBD.out) 0).trans rfl, (blk_cell (blk_below HB6.out HBD.out) 1).trans rfl, (blk_cell (blk_below HB6.out HBD.out) 2).trans rfl⟩ (fun hHeld => ?_)
  generalize A.drew = A1 at HBD hHeld ⊢
  refine tk_ 0 (some 46) hHeld ?_ (hQ := (fun c a w h => hQp c _ _ w h))
  refine pu_ 1 (some 47) ?_ (hQ := (fun c a w h => hQp c _ _ w h))
  refine pu_ 2 (some 48) ?_ (hQ := (fun c a w h => hQp c _ _ w h))
  refine pu_ 3 (some 49) ?_ (hQ := (fun c a w h => hQp c _ _ w h))
  refine pu_ 4 (some 50) ?_ (hQ := (fun c a w h => hQp c _ _ w h))
  refine pu_ 5 (some 51) ?_ (hQ := (fun c a w h => hQp c _ _ w h))
  refine pu_ 6 (some 52) ?_ (hQ := (fun c a w h => hQp c _ _ w h))
  refine pu_ 7 (some 53) ?_ (hQ := (fun c a w h => hQp c _ _ w h))
  refine pu_ 8 (some 54) ?_ (hQ := (fun c a w h => hQp c _ _ w h))
  refine pu_ 9 (some 55) ?_ (hQ := (fun c a w h => hQp c _ _ w h))
  refine pu_ 10 (some 56) ?_ (hQ := (fun c a w h => hQp c _ _ w h))
  refine pu_ 11 (some 57) ?_ (hQ := (fun c a w h => hQp c _ _ w h))
  refine pu_ 12 (some 58) ?_ (hQ := (fun c a w h => hQp c _ _ w h))
  refine pu_ 13 (some 59) ?_ (hQ := (fun c a w h => hQp c _ _ w h))
  refine pu_ 14 (some 60) ?_ (hQ := (fun c a w h => hQp c _ _ w h))
  refine pu_ 15 (some 61) ?_ (hQ := (fun c a w h => hQp c _ _ w h))
  refine pu_ 16 (some 62) ?_ (hQ := (fun c a w h => hQp c _ _ w h))
  refine pu_ 17 (some 63) ?_ (hQ := (fun c a w h => hQp c _ _ w h))
  refine pu_ 18 (some 64) ?_ (hQ := (fun c a w h => hQp c _ _ w h))
  refine pu_ 19 (some 65) ?_ (hQ := (fun c a w h => hQp c _ _ w h))
  refine pu_ 20 (some 66) ?_ (hQ := (fun c a w h => hQp c _ _ w h))
  refine pu_ 21 (some 67) ?_ (hQ := (fun c a w h => hQp c _ _ w h))
  refine pu_ 22 (some 68) ?_ (hQ := (fun c a w h => hQp c _ _ w h))
  refine pu_ 23 (some 69) ?_ (hQ := (fun c a w h => hQp c _ _ w h))
  refine pu_ 24 (some 70) ?_ (hQ := (fun c a w h => hQp c _ _ w h))
  refine pu_ 25 (some 71) ?_ (hQ := (fun c a w h => hQp c _ _ w h))
  refine done_ (by kernel_rfl) ?_
  exact HQ.out _ _ _ _ _ _ _ _ _ _ _ _ _ _ _ _ _ _ _ _ _ _ _ _ _ _ HBD.out

set_option maxHeartbeats 16000000 in
set_option maxRecDepth 100000 in
theorem res_r18_B (k : Nat) (t : S27) (p : List Int) (cl0 : Nat) (b6 b11 : Nat) (X1 : Option Addr) (e1 : Nat) (X2 : Option Addr) (e2 : Nat) (Ap : Option Addr) (cp : Nat) (A : World) (u0 u1 u2 u3 u4 u5 u7 u8 u9 u10 u13 u14 u15 u16 u17 u18 u19 u20 u21 u22 u23 u24 u25 u26 u27 u28 u29 u30 u31 u32 u33 u34 u35 u36 u37 u38 u39 u40 u41 u42 u43 u44 u45 u46 u47 u48 u49 u50 u51 u52 u53 u54 u55 u56 u57 u58 u59 u60 u61 u62 u63 u64 u65 u66 u67 u68 u69 u70 u71 u72 u73 u74 u75 u76 u77 u78 u79 u80 u81 u82 u83 u84 u85 u86 u87 u88 : Value)
    (hb6 : A.heap[b6]? = some (.cells #[.string t.f0, .slice X1 t.f1.length e1, .slice X2 t.f2.length e2] 27 (0, 0))) (hb11 : A.heap[b11]? = some (.cells #[.slice none 0 cl0] 25 (0, 0)))
    (h1 : Kd.C (Kd.int .i64) A X1 t.f1.length t.f1) (l1 : t.f1.length ≤ e1) (h2 : Kd.C k27 A X2 t.f2.length t.f2) (l2 : t.f2.length ≤ e2) (hp : 0 < p.length) (Q : Exit → Act → World → Prop) (hQp : ∀ c a a' w, Q (.panic c) a w → Q (.panic c) a' w)
    (hQ : ∀ (x46 x47 x48 x49 x50 x51 x52 x53 x54 x55 x56 x57 x58 x59 x60 x61 x62 x63 x64 x65 x66 x67 x68 x69 x70 : Value) (w' : World), Below A.heap.size A w' → Q .normal { tmps := #[u0, u1, u2, u3, u4, u5, .pointer (some ⟨b6, 0, none⟩), u7, u8, u9, u10, .pointer (some ⟨b11, 0, none⟩), .slice Ap p.length cp, u13, u14, u15, u16, u17, u18, u19, u20, u21, u22, u23, u24, u25, u26, u27, u28, u29, u30, u31, u32, u33, u34, u35, u36, u37, u38, u39, u40, u41, u42, u43, u44, u45, x46, x47, x48, x49, x50, x51, x52, x53, x54, x55, x56, x57, x58, x59, x60, x61, x62, x63, x64, x65, x66, x67, x68, x69, x70, .bool (prB t), u72, u73, u74, u75, u76, u77, u78, u79, u80, u81, u82, u83, u84, u85, u86, u87, u88], defers := [] } w') :
    wpAny Try.prog .any r18ops Q 26 (Array.replicate 26 false) { tmps := #[u0, u1, u2, u3, u4, u5, .pointer (some ⟨b6, 0, none⟩), u7, u8, u9, u10, .pointer (some ⟨b11, 0, none⟩), .slice Ap p.length cp, u13, u14, u15, u16, u17, u18, u19, u20, u21, u22, u23, u24, u25, u26, u27, u28, u29, u30, u31, u32, u33, u34, u35, u36, u37, u38, u39, u40, u41, u42, u43, u44, u45, u46, u47, u48, u49, u50, u51, u52, u53, u54, u55, u56, u57, u58, u59, u60, u61, u62, u63, u64, u65, u66, u67, u68, u69, u70, u71, u72, u73, u74, u75, u76, u77, u78, u79, u80, u81, u82, u83, u84, u85, u86, u87, u88], defers := [] } { A with drawn := A.drawn + 1 } := by
  have hu27 := Try.underlying27
  have h43 := fun (W : World) (hb : Below A.heap.size A W) => (anaphora_pronoun.calls t.f0 X1 e1 t.f1 X2 e2 t.f2 (prB t) W (Kd.F_now (Kd.F_below (Kd.C_F (Kd.heap_int .i64) h1) hb)) l1 (Kd.F_now (Kd.F_below (Kd.C_F k27_heap h2) hb)) l2 (prB_eq t)).mono (R' := fun e w' => e = .returned (.bool (prB t)) ∧ Below A.heap.size A w') (fun e w' h => ⟨h.1, hb.trans (h.2.mono hb.size)⟩)
  have hp0 : (0 : Int) < (p.length : Int) := by omega
  have HB6 := Aside0.mk hb6
  have HB11 := Aside0.mk hb11
  have HQ := Aside0.mk hQ
  have heq := fun (w : World) (a : Option Addr) (n c : Nat) => Go.run_neq_slice_nil (P := Try.prog) w 25 3 a n c Try.underlying25
  have hbd : Below A.heap.size A A.drew := below_drew (Below.refl _ _)
  have HBD := Aside0.mk hbd
  clear h1 h2 hb6 hb11 hQ hbd
  dsimp only
  unfold r18ops
  refine startA_ (n := 26) (S := fun w' => w'.cell? ⟨b11, 0, none⟩ = some (.slice none 0 cl0) ∧ w'.cell? ⟨b6, 0, none⟩ = some (.string t.f0) ∧ w'.cell? ⟨b6, 1, none⟩ = some (.slice X1 t.f1.length e1) ∧ w'.cell? ⟨b6, 2, none⟩ = some (.slice X2 t.f2.length e2)) (ds := []) #[false, false, false, false, false, false, false, false, false, false, false, false, false, false, false, false, false, false, false, false, false, false, false, false, false, false] rfl rfl ⟨(blk_cell (blk_below HB11.out HBD.out) 0).trans rfl, (blk_cell (blk_below HB6.out HBD.out) 0).trans rfl, (blk_cell (blk_below HB6.out HBD.out) 1).trans rfl, (blk_cell (blk_below HB6.out HBD.out) 2).trans rfl⟩ (fun hHeld => ?_)
  generalize A.drew = A1 at HBD hHeld ⊢
  refine tk_ 0 (some 46) hHeld ?_ (hQ := (fun c a w h => hQp c _ _ w h))
  refine pu_ 1 (some 47) ?_ (hQ := (fun c a w h => hQp c _ _ w h))
  refine pu_ 2 (some 48) ?_ (hQ := (fun c a w h => hQp c _ _ w h))
  refine pu_ 3 (some 49) ?_ (hQ := (fun c a w h => hQp c _ _ w h))
  refine pu_ 4 (some 50) ?_ (hQ := (fun c a w h => hQp c _ _ w h))
  refine pu_ 5 (some 51) ?_ (hQ := (fun c a w h => hQp c _ _ w h))
  refine pu_ 6 (some 52) ?_ (hQ := (fun c a w h => hQp c _ _ w h))
  refine pu_ 7 (some 53) ?_ (hQ := (fun c a w h => hQp c _ _ w h))
  refine pu_ 8 (some 54) ?_ (hQ := (fun c a w h => hQp c _ _ w h))
  refine pu_ 9 (some 55) ?_ (hQ := (fun c a w h => hQp c _ _ w h))
  refine pu_ 10 (some 56) ?_ (hQ := (fun c a w h => hQp c _ _ w h))
  refine pu_ 11 (some 57) ?_ (hQ := (fun c a w h => hQp c _ _ w h))
  refine pu_ 12 (some 58) ?_ (hQ := (fun c a w h => hQp c _ _ w h))
  refine pu_ 13 (some 59) ?_ (hQ := (fun c a w h => hQp c _ _ w h))
  refine pu_ 14 (some 60) ?_ (hQ := (fun c a w h => hQp c _ _ w h))
  refine pu_ 15 (some 61) ?_ (hQ := (fun c a w h => hQp c _ _ w h))
  refine pu_ 16 (some 62) ?_ (hQ := (fun c a w h => hQp c _ _ w h))
  refine pu_ 17 (some 63) ?_ (hQ := (fun c a w h => hQp c _ _ w h))
  refine pu_ 18 (some 64) ?_ (hQ := (fun c a w h => hQp c _ _ w h))
  refine pu_ 19 (some 65) ?_ (hQ := (fun c a w h => hQp c _ _ w h))
  refine pu_ 20 (some 66) ?_ (hQ := (fun c a w h => hQp c _ _ w h))
  refine pu_ 21 (some 67) ?_ (hQ := (fun c a w h => hQp c _ _ w h))
  refine tk_ 22 (some 68) hHeld ?_ (hQ := (fun c a w h => hQp c _ _ w h))
  refine on_ 23 (some 69) (fun K hK => ?_)
  refine go_ Try.func43 #[.agg #[.string t.f0, .slice X1 t.f1.length e1, .slice X2 t.f2.length e2]] ?_
  refine (h43 _ HBD.out).mono ?_
  rintro e w6 ⟨rfl, hb6⟩
  refine ⟨_, rfl, ?_⟩
  have HBE := Aside0.mk hb6
  clear hb6 h43
  refine hK.out _ _ ⟨(blk_cell (blk_below HB11.out HBE.out) 0).trans rfl, (blk_cell (blk_below HB6.out HBE.out) 0).trans rfl, (blk_cell (blk_below HB6.out HBE.out) 1).trans rfl, (blk_cell (blk_below HB6.out HBE.out) 2).trans rfl⟩ (fun hHeld => ?_)
  clear hK K
  refine no_ (N := some 69) ?_
  refine pu_ 24 (some 70) ?_ (hQ := (fun c a w h => hQp c _ _ w h))
  refine pu_ 25 (some 71) ?_ (hQ := (fun c a w h => hQp c _ _ w h))
  refine done_ (by kernel_rfl) ?_
  exact HQ.out _ _ _ _ _ _ _ _ _ _ _ _ _ _ _ _ _ _ _ _ _ _ _ _ _ _ HBE.out

set_option maxHeartbeats 16000000 in
set_option maxRecDepth 100000 in
theorem res_r18_C (k : Nat) (t : S27) (p : List Int) (l : List Int) (La : Addr) (cl : Nat) (b6 b11 : Nat) (X1 : Option Addr) (e1 : Nat) (X2 : Option Addr) (e2 : Nat) (Ap : Option Addr) (cp : Nat) (A : World) (u0 u1 u2 u3 u4 u5 u7 u8 u9 u10 u13 u14 u15 u16 u17 u18 u19 u20 u21 u22 u23 u24 u25 u26 u27 u28 u29 u30 u31 u32 u33 u34 u35 u36 u37 u38 u39 u40 u41 u42 u43 u44 u45 u46 u47 u48 u49 u50 u51 u52 u53 u54 u55 u56 u57 u58 u59 u60 u61 u62 u63 u64 u65 u66 u67 u68 u69 u70 u71 u72 u73 u74 u75 u76 u77 u78 u79 u80 u81 u82 u83 u84 u85 u86 u87 u88 : Value)
    (hb6 : A.heap[b6]? = some (.cells #[.string t.f0, .slice X1 t.f1.length e1, .slice X2 t.f2.length e2] 27 (0, 0))) (hb11 : A.heap[b11]? = some (.cells #[.slice (some La) l.length cl] 25 (0, 0)))
    (h1 : Kd.C (Kd.int .i64) A X1 t.f1.length t.f1) (l1 : t.f1.length ≤ e1) (h2 : Kd.C k27 A X2 t.f2.length t.f2) (l2 : t.f2.length ≤ e2) (hp : p.length = 0) (hg : ¬ l.length < p.length) (Q : Exit → Act → World → Prop) (hQp : ∀ c a a' w, Q (.panic c) a w → Q (.panic c) a' w)
    (hQ : ∀ (x46 x47 x48 x49 x50 x51 x52 x53 x54 x55 x56 x57 x58 x59 x60 x61 x62 x63 x64 x65 x66 x67 x68 x69 x70 : Value) (w' : World), Below A.heap.size A w' → Q .normal { tmps := #[u0, u1, u2, u3, u4, u5, .pointer (some ⟨b6, 0, none⟩), u7, u8, u9, u10, .pointer (some ⟨b11, 0, none⟩), .slice Ap p.length cp, u13, u14, u15, u16, u17, u18, u19, u20, u21, u22, u23, u24, u25, u26, u27, u28, u29, u30, u31, u32, u33, u34, u35, u36, u37, u38, u39, u40, u41, u42, u43, u44, u45, x46, x47, x48, x49, x50, x51, x52, x53, x54, x55, x56, x57, x58, x59, x60, x61, x62, x63, x64, x65, x66, x67, x68, x69, x70, .bool false, u72, u73, u74, u75, u76, u77, u78, u79, u80, u81, u82, u83, u84, u85, u86, u87, u88], defers := [] } w') :
    wpAny Try.prog .any r18ops Q 26 (Array.replicate 26 false) { tmps := #[u0, u1, u2, u3, u4, u5, .pointer (some ⟨b6, 0, none⟩), u7, u8, u9, u10, .pointer (some ⟨b11, 0, none⟩), .slice Ap p.length cp, u13, u14, u15, u16, u17, u18, u19, u20, u21, u22, u23, u24, u25, u26, u27, u28, u29, u30, u31, u32, u33, u34, u35, u36, u37, u38, u39, u40, u41, u42, u43, u44, u45, u46, u47, u48, u49, u50, u51, u52, u53, u54, u55, u56, u57, u58, u59, u60, u61, u62, u63, u64, u65, u66, u67, u68, u69, u70, u71, u72, u73, u74, u75, u76, u77, u78, u79, u80, u81, u82, u83, u84, u85, u86, u87, u88], defers := [] } { A with drawn := A.drawn + 1 } := by
  have hu27 := Try.underlying27
  have h43 := fun (W : World) (hb : Below A.heap.size A W) => (anaphora_pronoun.calls t.f0 X1 e1 t.f1 X2 e2 t.f2 (prB t) W (Kd.F_now (Kd.F_below (Kd.C_F (Kd.heap_int .i64) h1) hb)) l1 (Kd.F_now (Kd.F_below (Kd.C_F k27_heap h2) hb)) l2 (prB_eq t)).mono (R' := fun e w' => e = .returned (.bool (prB t)) ∧ Below A.heap.size A w') (fun e w' h => ⟨h.1, hb.trans (h.2.mono hb.size)⟩)
  have hp0 : ¬ (0 : Int) < (p.length : Int) := by omega
  have hp1 : ¬ 0 < p.length := by omega
  have hp2 : decide (0 < p.length) = false := decide_eq_false hp1
  have HB6 := Aside0.mk hb6
  have HB11 := Aside0.mk hb11
  have HQ := Aside0.mk hQ
  have heq := fun (w : World) (a : Option Addr) (n c : Nat) => Go.run_neq_slice_nil (P := Try.prog) w 25 3 a n c Try.underlying25
  have hbd : Below A.heap.size A A.drew := below_drew (Below.refl _ _)
  have HBD := Aside0.mk hbd
  clear h1 h2 hb6 hb11 hQ hbd hp
  dsimp only
  unfold r18ops
  refine startA_ (n := 26) (S := fun w' => w'.cell? ⟨b11, 0, none⟩ = some (.slice (some La) l.length cl) ∧ w'.cell? ⟨b6, 0, none⟩ = some (.string t.f0) ∧ w'.cell? ⟨b6, 1, none⟩ = some (.slice X1 t.f1.length e1) ∧ w'.cell? ⟨b6, 2, none⟩ = some (.slice X2 t.f2.length e2)) (ds := []) #[false, false, false, false, false, false, false, false, false, false, false, false, false, false, false, false, false, false, false, false, false, false, false, false, false, false] rfl rfl ⟨(blk_cell (blk_below HB11.out HBD.out) 0).trans rfl, (blk_cell (blk_below HB6.out HBD.out) 0).trans rfl, (blk_cell (blk_below HB6.out HBD.out) 1).trans rfl, (blk_cell (blk_below HB6.out HBD.out) 2).trans rfl⟩ (fun hHeld => ?_)
  generalize A.drew = A1 at HBD hHeld ⊢
  refine tk_ 0 (some 46) hHeld ?_ (hQ := (fun c a w h => hQp c _ _ w h))
  refine pu_ 1 (some 47) ?_ (hQ := (fun c a w h => hQp c _ _ w h))
  refine pu_ 2 (some 48) ?_ (hQ := (fun c a w h => hQp c _ _ w h))
  refine pu_ 3 (some 49) ?_ (hQ := (fun c a w h => hQp c _ _ w h))
  refine pu_ 4 (some 50) ?_ (hQ := (fun c a w h => hQp c _ _ w h))
  refine tk_ 5 (some 51) hHeld ?_ (hQ := (fun c a w h => hQp c _ _ w h))
  refine pu_ 6 (some 52) ?_ (hQ := (fun c a w h => hQp c _ _ w h))
  refine pu_ 7 (some 53) ?_ (hQ := (fun c a w h => hQp c _ _ w h))
  refine pu_ 8 (some 54) ?_ (hQ := (fun c a w h => hQp c _ _ w h))
  refine pu_ 9 (some 55) ?_ (hQ := (fun c a w h => hQp c _ _ w h))
  refine pu_ 10 (some 56) ?_ (hQ := (fun c a w h => hQp c _ _ w h))
  refine pu_ 11 (some 57) ?_ (hQ := (fun c a w h => hQp c _ _ w h))
  refine pu_ 12 (some 58) ?_ (hQ := (fun c a w h => hQp c _ _ w h))
  refine pu_ 13 (some 59) ?_ (hQ := (fun c a w h => hQp c _ _ w h))
  refine pu_ 14 (some 60) ?_ (hQ := (fun c a w h => hQp c _ _ w h))
  refine pu_ 15 (some 61) ?_ (hQ := (fun c a w h => hQp c _ _ w h))
  refine pu_ 16 (some 62) ?_ (hQ := (fun c a w h => hQp c _ _ w h))
  refine pu_ 17 (some 63) ?_ (hQ := (fun c a w h => hQp c _ _ w h))
  refine pu_ 18 (some 64) ?_ (hQ := (fun c a w h => hQp c _ _ w h))
  refine pu_ 19 (some 65) ?_ (hQ := (fun c a w h => hQp c _ _ w h))
  refine pu_ 20 (some 66) ?_ (hQ := (fun c a w h => hQp c _ _ w h))
  refine pu_ 21 (some 67) ?_ (hQ := (fun c a w h => hQp c _ _ w h))
  refine pu_ 22 (some 68) ?_ (hQ := (fun c a w h => hQp c _ _ w h))
  refine pu_ 23 (some 69) ?_ (hQ := (fun c a w h => hQp c _ _ w h))
  refine pu_ 24 (some 70) ?_ (hQ := (fun c a w h => hQp c _ _ w h))
  refine pu_ 25 (some 71) ?_ (hQ := (fun c a w h => hQp c _ _ w h))
  refine done_ (by kernel_rfl) ?_
  exact HQ.out _ _ _ _ _ _ _ _ _ _ _ _ _ _ _ _ _ _ _ _ _ _ _ _ _ _ HBD.out

set_option maxHeartbeats 16000000 in
set_option maxRecDepth 100000 in
theorem res_r18_D (k : Nat) (t : S27) (p : List Int) (l : List Int) (La : Addr) (cl : Nat) (b6 b11 : Nat) (X1 : Option Addr) (e1 : Nat) (X2 : Option Addr) (e2 : Nat) (Ap : Option Addr) (cp : Nat) (A : World) (u0 u1 u2 u3 u4 u5 u7 u8 u9 u10 u13 u14 u15 u16 u17 u18 u19 u20 u21 u22 u23 u24 u25 u26 u27 u28 u29 u30 u31 u32 u33 u34 u35 u36 u37 u38 u39 u40 u41 u42 u43 u44 u45 u46 u47 u48 u49 u50 u51 u52 u53 u54 u55 u56 u57 u58 u59 u60 u61 u62 u63 u64 u65 u66 u67 u68 u69 u70 u71 u72 u73 u74 u75 u76 u77 u78 u79 u80 u81 u82 u83 u84 u85 u86 u87 u88 : Value)
    (hb6 : A.heap[b6]? = some (.cells #[.string t.f0, .slice X1 t.f1.length e1, .slice X2 t.f2.length e2] 27 (0, 0))) (hb11 : A.heap[b11]? = some (.cells #[.slice (some La) l.length cl] 25 (0, 0)))
    (h1 : Kd.C (Kd.int .i64) A X1 t.f1.length t.f1) (l1 : t.f1.length ≤ e1) (h2 : Kd.C k27 A X2 t.f2.length t.f2) (l2 : t.f2.length ≤ e2) (hp : 0 < p.length) (hg : ¬ l.length < p.length) (Q : Exit → Act → World → Prop) (hQp : ∀ c a a' w, Q (.panic c) a w → Q (.panic c) a' w)
    (hQ : ∀ (x46 x47 x48 x49 x50 x51 x52 x53 x54 x55 x56 x57 x58 x59 x60 x61 x62 x63 x64 x65 x66 x67 x68 x69 x70 : Value) (w' : World), Below A.heap.size A w' → Q .normal { tmps := #[u0, u1, u2, u3, u4, u5, .pointer (some ⟨b6, 0, none⟩), u7, u8, u9, u10, .pointer (some ⟨b11, 0, none⟩), .slice Ap p.length cp, u13, u14, u15, u16, u17, u18, u19, u20, u21, u22, u23, u24, u25, u26, u27, u28, u29, u30, u31, u32, u33, u34, u35, u36, u37, u38, u39, u40, u41, u42, u43, u44, u45, x46, x47, x48, x49, x50, x51, x52, x53, x54, x55, x56, x57, x58, x59, x60, x61, x62, x63, x64, x65, x66, x67, x68, x69, x70, .bool (prB t), u72, u73, u74, u75, u76, u77, u78, u79, u80, u81, u82, u83, u84, u85, u86, u87, u88], defers := [] } w') :
    wpAny Try.prog .any r18ops Q 26 (Array.replicate 26 false) { tmps := #[u0, u1, u2, u3, u4, u5, .pointer (some ⟨b6, 0, none⟩), u7, u8, u9, u10, .pointer (some ⟨b11, 0, none⟩), .slice Ap p.length cp, u13, u14, u15, u16, u17, u18, u19, u20, u21, u22, u23, u24, u25, u26, u27, u28, u29, u30, u31, u32, u33, u34, u35, u36, u37, u38, u39, u40, u41, u42, u43, u44, u45, u46, u47, u48, u49, u50, u51, u52, u53, u54, u55, u56, u57, u58, u59, u60, u61, u62, u63, u64, u65, u66, u67, u68, u69, u70, u71, u72, u73, u74, u75, u76, u77, u78, u79, u80, u81, u82, u83, u84, u85, u86, u87, u88], defers := [] } { A with drawn := A.drawn + 1 } := by
  have hu27 := Try.underlying27
  have h43 := fun (W : World) (hb : Below A.heap.size A W) => (anaphora_pronoun.calls t.f0 X1 e1 t.f1 X2 e2 t.f2 (prB t) W (Kd.F_now (Kd.F_below (Kd.C_F (Kd.heap_int .i64) h1) hb)) l1 (Kd.F_now (Kd.F_below (Kd.C_F k27_heap h2) hb)) l2 (prB_eq t)).mono (R' := fun e w' => e = .returned (.bool (prB t)) ∧ Below A.heap.size A w') (fun e w' h => ⟨h.1, hb.trans (h.2.mono hb.size)⟩)
  have hp0 : (0 : Int) < (p.length : Int) := by omega
  have HB6 := Aside0.mk hb6
  have HB11 := Aside0.mk hb11
  have HQ := Aside0.mk hQ
  have heq := fun (w : World) (a : Option Addr) (n c : Nat) => Go.run_neq_slice_nil (P := Try.prog) w 25 3 a n c Try.underlying25
  have hbd : Below A.heap.size A A.drew := below_drew (Below.refl _ _)
  have HBD := Aside0.mk hbd
  clear h1 h2 hb6 hb11 hQ hbd
  dsimp only
  unfold r18ops
  refine startA_ (n := 26) (S := fun w' => w'.cell? ⟨b11, 0, none⟩ = some (.slice (some La) l.length cl) ∧ w'.cell? ⟨b6, 0, none⟩ = some (.string t.f0) ∧ w'.cell? ⟨b6, 1, none⟩ = some (.slice X1 t.f1.length e1) ∧ w'.cell? ⟨b6, 2, none⟩ = some (.slice X2 t.f2.length e2)) (ds := []) #[false, false, false, false, false, false, false, false, false, false, false, false, false, false, false, false, false, false, false, false, false, false, false, false, false, false] rfl rfl ⟨(blk_cell (blk_below HB11.out HBD.out) 0).trans rfl, (blk_cell (blk_below HB6.out HBD.out) 0).trans rfl, (blk_cell (blk_below HB6.out HBD.out) 1).trans rfl, (blk_cell (blk_below HB6.out HBD.out) 2).trans rfl⟩ (fun hHeld => ?_)
  generalize A.drew = A1 at HBD hHeld ⊢
  refine tk_ 0 (some 46) hHeld ?_ (hQ := (fun c a w h => hQp c _ _ w h))
  refine pu_ 1 (some 47) ?_ (hQ := (fun c a w h => hQp c _ _ w h))
  refine pu_ 2 (some 48) ?_ (hQ := (fun c a w h => hQp c _ _ w h))
  refine pu_ 3 (some 49) ?_ (hQ := (fun c a w h => hQp c _ _ w h))
  refine pu_ 4 (some 50) ?_ (hQ := (fun c a w h => hQp c _ _ w h))
  refine tk_ 5 (some 51) hHeld ?_ (hQ := (fun c a w h => hQp c _ _ w h))
  refine pu_ 6 (some 52) ?_ (hQ := (fun c a w h => hQp c _ _ w h))
  refine pu_ 7 (some 53) ?_ (hQ := (fun c a w h => hQp c _ _ w h))
  refine pu_ 8 (some 54) ?_ (hQ := (fun c a w h => hQp c _ _ w h))
  refine pu_ 9 (some 55) ?_ (hQ := (fun c a w h => hQp c _ _ w h))
  refine pu_ 10 (some 56) ?_ (hQ := (fun c a w h => hQp c _ _ w h))
  refine pu_ 11 (some 57) ?_ (hQ := (fun c a w h => hQp c _ _ w h))
  refine pu_ 12 (some 58) ?_ (hQ := (fun c a w h => hQp c _ _ w h))
  refine pu_ 13 (some 59) ?_ (hQ := (fun c a w h => hQp c _ _ w h))
  refine pu_ 14 (some 60) ?_ (hQ := (fun c a w h => hQp c _ _ w h))
  refine pu_ 15 (some 61) ?_ (hQ := (fun c a w h => hQp c _ _ w h))
  refine pu_ 16 (some 62) ?_ (hQ := (fun c a w h => hQp c _ _ w h))
  refine pu_ 17 (some 63) ?_ (hQ := (fun c a w h => hQp c _ _ w h))
  refine pu_ 18 (some 64) ?_ (hQ := (fun c a w h => hQp c _ _ w h))
  refine pu_ 19 (some 65) ?_ (hQ := (fun c a w h => hQp c _ _ w h))
  refine pu_ 20 (some 66) ?_ (hQ := (fun c a w h => hQp c _ _ w h))
  refine pu_ 21 (some 67) ?_ (hQ := (fun c a w h => hQp c _ _ w h))
  refine tk_ 22 (some 68) hHeld ?_ (hQ := (fun c a w h => hQp c _ _ w h))
  refine on_ 23 (some 69) (fun K hK => ?_)
  refine go_ Try.func43 #[.agg #[.string t.f0, .slice X1 t.f1.length e1, .slice X2 t.f2.length e2]] ?_
  refine (h43 _ HBD.out).mono ?_
  rintro e w6 ⟨rfl, hb6⟩
  refine ⟨_, rfl, ?_⟩
  have HBE := Aside0.mk hb6
  clear hb6 h43
  refine hK.out _ _ ⟨(blk_cell (blk_below HB11.out HBE.out) 0).trans rfl, (blk_cell (blk_below HB6.out HBE.out) 0).trans rfl, (blk_cell (blk_below HB6.out HBE.out) 1).trans rfl, (blk_cell (blk_below HB6.out HBE.out) 2).trans rfl⟩ (fun hHeld => ?_)
  clear hK K
  refine no_ (N := some 69) ?_
  refine pu_ 24 (some 70) ?_ (hQ := (fun c a w h => hQp c _ _ w h))
  refine pu_ 25 (some 71) ?_ (hQ := (fun c a w h => hQp c _ _ w h))
  refine done_ (by kernel_rfl) ?_
  exact HQ.out _ _ _ _ _ _ _ _ _ _ _ _ _ _ _ _ _ _ _ _ _ _ _ _ _ _ HBE.out

set_option maxHeartbeats 16000000 in
set_option maxRecDepth 100000 in
theorem res_r18_E (k : Nat) (t : S27) (p : List Int) (l : List Int) (La : Addr) (cl : Nat) (b6 b11 : Nat) (X1 : Option Addr) (e1 : Nat) (X2 : Option Addr) (e2 : Nat) (Ap : Option Addr) (cp : Nat) (A : World) (u0 u1 u2 u3 u4 u5 u7 u8 u9 u10 u13 u14 u15 u16 u17 u18 u19 u20 u21 u22 u23 u24 u25 u26 u27 u28 u29 u30 u31 u32 u33 u34 u35 u36 u37 u38 u39 u40 u41 u42 u43 u44 u45 u46 u47 u48 u49 u50 u51 u52 u53 u54 u55 u56 u57 u58 u59 u60 u61 u62 u63 u64 u65 u66 u67 u68 u69 u70 u71 u72 u73 u74 u75 u76 u77 u78 u79 u80 u81 u82 u83 u84 u85 u86 u87 u88 : Value)
    (hb6 : A.heap[b6]? = some (.cells #[.string t.f0, .slice X1 t.f1.length e1, .slice X2 t.f2.length e2] 27 (0, 0))) (hb11 : A.heap[b11]? = some (.cells #[.slice (some La) l.length cl] 25 (0, 0)))
    (h1 : Kd.C (Kd.int .i64) A X1 t.f1.length t.f1) (l1 : t.f1.length ≤ e1) (h2 : Kd.C k27 A X2 t.f2.length t.f2) (l2 : t.f2.length ≤ e2) (hcp : p.length ≤ cp) (hcl : l.length ≤ cl) (hg : l.length < p.length) (h3 : Kd.C (Kd.int .i64) A Ap p.length p) (h4 : Kd.C (Kd.int .i64) A (some La) l.length l) (heqv : slices_Equal_int_int.f k (p.take l.length) l = some true) (Q : Exit → Act → World → Prop) (hQp : ∀ c a a' w, Q (.panic c) a w → Q (.panic c) a' w)
    (hQ : ∀ (x46 x47 x48 x49 x50 x51 x52 x53 x54 x55 x56 x57 x58 x59 x60 x61 x62 x63 x64 x65 x66 x67 x68 x69 x70 : Value) (w' : World), Below A.heap.size A w' → Q .normal { tmps := #[u0, u1, u2, u3, u4, u5, .pointer (some ⟨b6, 0, none⟩), u7, u8, u9, u10, .pointer (some ⟨b11, 0, none⟩), .slice Ap p.length cp, u13, u14, u15, u16, u17, u18, u19, u20, u21, u22, u23, u24, u25, u26, u27, u28, u29, u30, u31, u32, u33, u34, u35, u36, u37, u38, u39, u40, u41, u42, u43, u44, u45, x46, x47, x48, x49, x50, x51, x52, x53, x54, x55, x56, x57, x58, x59, x60, x61, x62, x63, x64, x65, x66, x67, x68, x69, x70, .bool true, u72, u73, u74, u75, u76, u77, u78, u79, u80, u81, u82, u83, u84, u85, u86, u87, u88], defers := [] } w') :
    wpAny Try.prog .any r18ops Q 26 (Array.replicate 26 false) { tmps := #[u0, u1, u2, u3, u4, u5, .pointer (some ⟨b6, 0, none⟩), u7, u8, u9, u10, .pointer (some ⟨b11, 0, none⟩), .slice Ap p.length cp, u13, u14, u15, u16, u17, u18, u19, u20, u21, u22, u23, u24, u25, u26, u27, u28, u29, u30, u31, u32, u33, u34, u35, u36, u37, u38, u39, u40, u41, u42, u43, u44, u45, u46, u47, u48, u49, u50, u51, u52, u53, u54, u55, u56, u57, u58, u59, u60, u61, u62, u63, u64, u65, u66, u67, u68, u69, u70, u71, u72, u73, u74, u75, u76, u77, u78, u79, u80, u81, u82, u83, u84, u85, u86, u87, u88], defers := [] } { A with drawn := A.drawn + 1 } := by
  have hu27 := Try.underlying27
  have h43 := fun (W : World) (hb : Below A.heap.size A W) => (anaphora_pronoun.calls t.f0 X1 e1 t.f1 X2 e2 t.f2 (prB t) W (Kd.F_now (Kd.F_below (Kd.C_F (Kd.heap_int .i64) h1) hb)) l1 (Kd.F_now (Kd.F_below (Kd.C_F k27_heap h2) hb)) l2 (prB_eq t)).mono (R' := fun e w' => e = .returned (.bool (prB t)) ∧ Below A.heap.size A w') (fun e w' h => ⟨h.1, hb.trans (h.2.mono hb.size)⟩)
  have hp0 : (0 : Int) < (p.length : Int) := by omega
  have hp1 : 0 < p.length := by omega
  have hl0 : (0 : Int) ≤ (l.length : Int) := by omega
  have hl1 : (l.length : Int) ≤ (cp : Int) := by omega
  have hl2 : (l.length : Int) < (p.length : Int) := by omega
  have h44 := fun (W : World) (hb : Below A.heap.size A W) => (slices_Equal_int_int.calls k Ap cp (p.take l.length) (some La) cl l true W (Kd.C_take (Kd.F_now (Kd.F_below (Kd.C_F (Kd.heap_int .i64) h3) hb)) (by omega)) (by rw [List.length_take]; omega) (Kd.F_now (Kd.F_below (Kd.C_F (Kd.heap_int .i64) h4) hb)) hcl heqv).mono (R' := fun e w' => e = .returned (.bool true) ∧ Below A.heap.size A w') (fun e w' h => ⟨h.1, hb.trans (h.2.below.mono hb.size)⟩)
  rw [show (p.take l.length).length = l.length by rw [List.length_take]; omega] at h44
  have HB6 := Aside0.mk hb6
  have HB11 := Aside0.mk hb11
  have HQ := Aside0.mk hQ
  have heq := fun (w : World) (a : Option Addr) (n c : Nat) => Go.run_neq_slice_nil (P := Try.prog) w 25 3 a n c Try.underlying25
  have hbd : Below A.heap.size A A.drew := below_drew (Below.refl _ _)
  have HBD := Aside0.mk hbd
  clear h1 h2 hb6 hb11 hQ hbd h3 h4 heqv
  dsimp only
  unfold r18ops
  refine startA_ (n := 26) (S := fun w' => w'.cell? ⟨b11, 0, none⟩ = some (.slice (some La) l.length cl) ∧ w'.cell? ⟨b6, 0, none⟩ = some (.string t.f0) ∧ w'.cell? ⟨b6, 1, none⟩ = some (.slice X1 t.f1.length e1) ∧ w'.cell? ⟨b6, 2, none⟩ = some (.slice X2 t.f2.length e2)) (ds := []) #[false, false, false, false, false, false, false, false, false, false, false, false, false, false, false, false, false, false, false, false, false, false, false, false, false, false] rfl rfl ⟨(blk_cell (blk_below HB11.out HBD.out) 0).trans rfl, (blk_cell (blk_below HB6.out HBD.out) 0).trans rfl, (blk_cell (blk_below HB6.out HBD.out) 1).trans rfl, (blk_cell (blk_below HB6.out HBD.out) 2).trans rfl⟩ (fun hHeld => ?_)
  generalize A.drew = A1 at HBD hHeld ⊢
  refine tk_ 0 (some 46) hHeld ?_ (hQ := (fun c a w h => hQp c _ _ w h))
  refine pu_ 1 (some 47) ?_ (hQ := (fun c a w h => hQp c _ _ w h))
  refine pu_ 2 (some 48) ?_ (hQ := (fun c a w h => hQp c _ _ w h))
  refine pu_ 3 (some 49) ?_ (hQ := (fun c a w h => hQp c _ _ w h))
  refine pu_ 4 (some 50) ?_ (hQ := (fun c a w h => hQp c _ _ w h))
  refine tk_ 5 (some 51) hHeld ?_ (hQ := (fun c a w h => hQp c _ _ w h))
  refine pu_ 6 (some 52) ?_ (hQ := (fun c a w h => hQp c _ _ w h))
  refine pu_ 7 (some 53) ?_ (hQ := (fun c a w h => hQp c _ _ w h))
  refine pu_ 8 (some 54) ?_ (hQ := (fun c a w h => hQp c _ _ w h))
  refine pu_ 9 (some 55) ?_ (hQ := (fun c a w h => hQp c _ _ w h))
  refine pu_ 10 (some 56) ?_ (hQ := (fun c a w h => hQp c _ _ w h))
  refine tk_ 11 (some 57) hHeld ?_ (hQ := (fun c a w h => hQp c _ _ w h))
  refine pu_ 12 (some 58) ?_ (hQ := (fun c a w h => hQp c _ _ w h))
  refine pu_ 13 (some 59) ?_ (hQ := (fun c a w h => hQp c _ _ w h))
  refine tk_ 14 (some 60) hHeld ?_ (hQ := (fun c a w h => hQp c _ _ w h))
  refine on_ 15 (some 61) (fun K hK => ?_)
  refine go_ Try.func44 #[.slice Ap l.length cp, .slice La l.length cl] ?_
  refine (h44 _ HBD.out).mono ?_
  rintro e w5 ⟨rfl, hb5⟩
  refine ⟨_, rfl, ?_⟩
  have HB5 := Aside0.mk hb5
  clear hb5 h44
  refine hK.out _ _ ⟨(blk_cell (blk_below HB11.out HB5.out) 0).trans rfl, (blk_cell (blk_below HB6.out HB5.out) 0).trans rfl, (blk_cell (blk_below HB6.out HB5.out) 1).trans rfl, (blk_cell (blk_below HB6.out HB5.out) 2).trans rfl⟩ (fun hHeld => ?_)
  clear hK K
  refine no_ (N := some 61) ?_
  refine pu_ 16 (some 62) ?_ (hQ := (fun c a w h => hQp c _ _ w h))
  refine pu_ 17 (some 63) ?_ (hQ := (fun c a w h => hQp c _ _ w h))
  refine pu_ 18 (some 64) ?_ (hQ := (fun c a w h => hQp c _ _ w h))
  refine pu_ 19 (some 65) ?_ (hQ := (fun c a w h => hQp c _ _ w h))
  refine pu_ 20 (some 66) ?_ (hQ := (fun c a w h => hQp c _ _ w h))
  refine pu_ 21 (some 67) ?_ (hQ := (fun c a w h => hQp c _ _ w h))
  refine pu_ 22 (some 68) ?_ (hQ := (fun c a w h => hQp c _ _ w h))
  refine pu_ 23 (some 69) ?_ (hQ := (fun c a w h => hQp c _ _ w h))
  refine pu_ 24 (some 70) ?_ (hQ := (fun c a w h => hQp c _ _ w h))
  refine pu_ 25 (some 71) ?_ (hQ := (fun c a w h => hQp c _ _ w h))
  refine done_ (by kernel_rfl) ?_
  exact HQ.out _ _ _ _ _ _ _ _ _ _ _ _ _ _ _ _ _ _ _ _ _ _ _ _ _ _ HB5.out

set_option maxHeartbeats 16000000 in
set_option maxRecDepth 100000 in
theorem res_r18_F (k : Nat) (t : S27) (p : List Int) (l : List Int) (La : Addr) (cl : Nat) (b6 b11 : Nat) (X1 : Option Addr) (e1 : Nat) (X2 : Option Addr) (e2 : Nat) (Ap : Option Addr) (cp : Nat) (A : World) (u0 u1 u2 u3 u4 u5 u7 u8 u9 u10 u13 u14 u15 u16 u17 u18 u19 u20 u21 u22 u23 u24 u25 u26 u27 u28 u29 u30 u31 u32 u33 u34 u35 u36 u37 u38 u39 u40 u41 u42 u43 u44 u45 u46 u47 u48 u49 u50 u51 u52 u53 u54 u55 u56 u57 u58 u59 u60 u61 u62 u63 u64 u65 u66 u67 u68 u69 u70 u71 u72 u73 u74 u75 u76 u77 u78 u79 u80 u81 u82 u83 u84 u85 u86 u87 u88 : Value)
    (hb6 : A.heap[b6]? = some (.cells #[.string t.f0, .slice X1 t.f1.length e1, .slice X2 t.f2.length e2] 27 (0, 0))) (hb11 : A.heap[b11]? = some (.cells #[.slice (some La) l.length cl] 25 (0, 0)))
    (h1 : Kd.C (Kd.int .i64) A X1 t.f1.length t.f1) (l1 : t.f1.length ≤ e1) (h2 : Kd.C k27 A X2 t.f2.length t.f2) (l2 : t.f2.length ≤ e2) (hcp : p.length ≤ cp) (hcl : l.length ≤ cl) (hg : l.length < p.length) (h3 : Kd.C (Kd.int .i64) A Ap p.length p) (h4 : Kd.C (Kd.int .i64) A (some La) l.length l) (heqv : slices_Equal_int_int.f k (p.take l.length) l = some false) (Q : Exit → Act → World → Prop) (hQp : ∀ c a a' w, Q (.panic c) a w → Q (.panic c) a' w)
    (hQ : ∀ (x46 x47 x48 x49 x50 x51 x52 x53 x54 x55 x56 x57 x58 x59 x60 x61 x62 x63 x64 x65 x66 x67 x68 x69 x70 : Value) (w' : World), Below A.heap.size A w' → Q .normal { tmps := #[u0, u1, u2, u3, u4, u5, .pointer (some ⟨b6, 0, none⟩), u7, u8, u9, u10, .pointer (some ⟨b11, 0, none⟩), .slice Ap p.length cp, u13, u14, u15, u16, u17, u18, u19, u20, u21, u22, u23, u24, u25, u26, u27, u28, u29, u30, u31, u32, u33, u34, u35, u36, u37, u38, u39, u40, u41, u42, u43, u44, u45, x46, x47, x48, x49, x50, x51, x52, x53, x54, x55, x56, x57, x58, x59, x60, x61, x62, x63, x64, x65, x66, x67, x68, x69, x70, .bool (prB t), u72, u73, u74, u75, u76, u77, u78, u79, u80, u81, u82, u83, u84, u85, u86, u87, u88], defers := [] } w') :
    wpAny Try.prog .any r18ops Q 26 (Array.replicate 26 false) { tmps := #[u0, u1, u2, u3, u4, u5, .pointer (some ⟨b6, 0, none⟩), u7, u8, u9, u10, .pointer (some ⟨b11, 0, none⟩), .slice Ap p.length cp, u13, u14, u15, u16, u17, u18, u19, u20, u21, u22, u23, u24, u25, u26, u27, u28, u29, u30, u31, u32, u33, u34, u35, u36, u37, u38, u39, u40, u41, u42, u43, u44, u45, u46, u47, u48, u49, u50, u51, u52, u53, u54, u55, u56, u57, u58, u59, u60, u61, u62, u63, u64, u65, u66, u67, u68, u69, u70, u71, u72, u73, u74, u75, u76, u77, u78, u79, u80, u81, u82, u83, u84, u85, u86, u87, u88], defers := [] } { A with drawn := A.drawn + 1 } := by
  have hu27 := Try.underlying27
  have h43 := fun (W : World) (hb : Below A.heap.size A W) => (anaphora_pronoun.calls t.f0 X1 e1 t.f1 X2 e2 t.f2 (prB t) W (Kd.F_now (Kd.F_below (Kd.C_F (Kd.heap_int .i64) h1) hb)) l1 (Kd.F_now (Kd.F_below (Kd.C_F k27_heap h2) hb)) l2 (prB_eq t)).mono (R' := fun e w' => e = .returned (.bool (prB t)) ∧ Below A.heap.size A w') (fun e w' h => ⟨h.1, hb.trans (h.2.mono hb.size)⟩)
  have hp0 : (0 : Int) < (p.length : Int) := by omega
  have hp1 : 0 < p.length := by omega
  have hl0 : (0 : Int) ≤ (l.length : Int) := by omega
  have hl1 : (l.length : Int) ≤ (cp : Int) := by omega
  have hl2 : (l.length : Int) < (p.length : Int) := by omega
  have h44 := fun (W : World) (hb : Below A.heap.size A W) => (slices_Equal_int_int.calls k Ap cp (p.take l.length) (some La) cl l false W (Kd.C_take (Kd.F_now (Kd.F_below (Kd.C_F (Kd.heap_int .i64) h3) hb)) (by omega)) (by rw [List.length_take]; omega) (Kd.F_now (Kd.F_below (Kd.C_F (Kd.heap_int .i64) h4) hb)) hcl heqv).mono (R' := fun e w' => e = .returned (.bool false) ∧ Below A.heap.size A w') (fun e w' h => ⟨h.1, hb.trans (h.2.below.mono hb.size)⟩)
  rw [show (p.take l.length).length = l.length by rw [List.length_take]; omega] at h44
  have HB6 := Aside0.mk hb6
  have HB11 := Aside0.mk hb11
  have HQ := Aside0.mk hQ
  have heq := fun (w : World) (a : Option Addr) (n c : Nat) => Go.run_neq_slice_nil (P := Try.prog) w 25 3 a n c Try.underlying25
  have hbd : Below A.heap.size A A.drew := below_drew (Below.refl _ _)
  have HBD := Aside0.mk hbd
  clear h1 h2 hb6 hb11 hQ hbd h3 h4 heqv
  dsimp only
  unfold r18ops
  refine startA_ (n := 26) (S := fun w' => w'.cell? ⟨b11, 0, none⟩ = some (.slice (some La) l.length cl) ∧ w'.cell? ⟨b6, 0, none⟩ = some (.string t.f0) ∧ w'.cell? ⟨b6, 1, none⟩ = some (.slice X1 t.f1.length e1) ∧ w'.cell? ⟨b6, 2, none⟩ = some (.slice X2 t.f2.length e2)) (ds := []) #[false, false, false, false, false, false, false, false, false, false, false, false, false, false, false, false, false, false, false, false, false, false, false, false, false, false] rfl rfl ⟨(blk_cell (blk_below HB11.out HBD.out) 0).trans rfl, (blk_cell (blk_below HB6.out HBD.out) 0).trans rfl, (blk_cell (blk_below HB6.out HBD.out) 1).trans rfl, (blk_cell (blk_below HB6.out HBD.out) 2).trans rfl⟩ (fun hHeld => ?_)
  generalize A.drew = A1 at HBD hHeld ⊢
  refine tk_ 0 (some 46) hHeld ?_ (hQ := (fun c a w h => hQp c _ _ w h))
  refine pu_ 1 (some 47) ?_ (hQ := (fun c a w h => hQp c _ _ w h))
  refine pu_ 2 (some 48) ?_ (hQ := (fun c a w h => hQp c _ _ w h))
  refine pu_ 3 (some 49) ?_ (hQ := (fun c a w h => hQp c _ _ w h))
  refine pu_ 4 (some 50) ?_ (hQ := (fun c a w h => hQp c _ _ w h))
  refine tk_ 5 (some 51) hHeld ?_ (hQ := (fun c a w h => hQp c _ _ w h))
  refine pu_ 6 (some 52) ?_ (hQ := (fun c a w h => hQp c _ _ w h))
  refine pu_ 7 (some 53) ?_ (hQ := (fun c a w h => hQp c _ _ w h))
  refine pu_ 8 (some 54) ?_ (hQ := (fun c a w h => hQp c _ _ w h))
  refine pu_ 9 (some 55) ?_ (hQ := (fun c a w h => hQp c _ _ w h))
  refine pu_ 10 (some 56) ?_ (hQ := (fun c a w h => hQp c _ _ w h))
  refine tk_ 11 (some 57) hHeld ?_ (hQ := (fun c a w h => hQp c _ _ w h))
  refine pu_ 12 (some 58) ?_ (hQ := (fun c a w h => hQp c _ _ w h))
  refine pu_ 13 (some 59) ?_ (hQ := (fun c a w h => hQp c _ _ w h))
  refine tk_ 14 (some 60) hHeld ?_ (hQ := (fun c a w h => hQp c _ _ w h))
  refine on_ 15 (some 61) (fun K hK => ?_)
  refine go_ Try.func44 #[.slice Ap l.length cp, .slice La l.length cl] ?_
  refine (h44 _ HBD.out).mono ?_
  rintro e w5 ⟨rfl, hb5⟩
  refine ⟨_, rfl, ?_⟩
  have HB5 := Aside0.mk hb5
  clear hb5 h44
  refine hK.out _ _ ⟨(blk_cell (blk_below HB11.out HB5.out) 0).trans rfl, (blk_cell (blk_below HB6.out HB5.out) 0).trans rfl, (blk_cell (blk_below HB6.out HB5.out) 1).trans rfl, (blk_cell (blk_below HB6.out HB5.out) 2).trans rfl⟩ (fun hHeld => ?_)
  clear hK K
  refine no_ (N := some 61) ?_
  refine pu_ 16 (some 62) ?_ (hQ := (fun c a w h => hQp c _ _ w h))
  refine pu_ 17 (some 63) ?_ (hQ := (fun c a w h => hQp c _ _ w h))
  refine pu_ 18 (some 64) ?_ (hQ := (fun c a w h => hQp c _ _ w h))
  refine pu_ 19 (some 65) ?_ (hQ := (fun c a w h => hQp c _ _ w h))
  refine pu_ 20 (some 66) ?_ (hQ := (fun c a w h => hQp c _ _ w h))
  refine pu_ 21 (some 67) ?_ (hQ := (fun c a w h => hQp c _ _ w h))
  refine tk_ 22 (some 68) hHeld ?_ (hQ := (fun c a w h => hQp c _ _ w h))
  refine on_ 23 (some 69) (fun K hK => ?_)
  refine go_ Try.func43 #[.agg #[.string t.f0, .slice X1 t.f1.length e1, .slice X2 t.f2.length e2]] ?_
  refine (h43 _ HB5.out).mono ?_
  rintro e w6 ⟨rfl, hb6⟩
  refine ⟨_, rfl, ?_⟩
  have HBE := Aside0.mk hb6
  clear hb6 h43
  refine hK.out _ _ ⟨(blk_cell (blk_below HB11.out HBE.out) 0).trans rfl, (blk_cell (blk_below HB6.out HBE.out) 0).trans rfl, (blk_cell (blk_below HB6.out HBE.out) 1).trans rfl, (blk_cell (blk_below HB6.out HBE.out) 2).trans rfl⟩ (fun hHeld => ?_)
  clear hK K
  refine no_ (N := some 69) ?_
  refine pu_ 24 (some 70) ?_ (hQ := (fun c a w h => hQp c _ _ w h))
  refine pu_ 25 (some 71) ?_ (hQ := (fun c a w h => hQp c _ _ w h))
  refine done_ (by kernel_rfl) ?_
  exact HQ.out _ _ _ _ _ _ _ _ _ _ _ _ _ _ _ _ _ _ _ _ _ _ _ _ _ _ HBE.out
/-- What the box of the last path holds. -/
def LastC (A : World) (vl : Value) : Option (List Int) → Prop
  | none => vl = .slice none 0 0
  | some l => ∃ La cl, vl = .slice La l.length cl ∧ l.length ≤ cl ∧ Kd.C (Kd.int .i64) A La l.length l
theorem hit_last (k : Nat) (tp : Bool) (p : List Int) (last : Option (List Int)) (hh : Bool) (h : hitG k tp p last = some hh) : (last = none ∧ hh = (decide (0 < p.length) && tp)) ∨ (last = some [] ∧ tp = true ∧ hh = decide (0 < p.length)) ∨
    ∃ l, last = some l ∧ 0 < l.length ∧ ((l.length < p.length ∧ ∃ b, slices_Equal_int_int.f k (p.take l.length) l = some b ∧ hh = (b || (decide (0 < p.length) && tp))) ∨ (¬ l.length < p.length ∧ hh = (decide (0 < p.length) && tp))) := by
  match last, h with
  | none, h => exact .inl ⟨rfl, (Option.some.inj h).symm⟩
  | some [], h =>
    simp only [hitG] at h
    by_cases ht : tp = true
    · rw [if_pos ht] at h
      exact .inr (.inl ⟨rfl, ht, (Option.some.inj h).symm⟩)
    · rw [if_neg ht] at h
      cases h
  | some (a :: l), h =>
    simp only [hitG] at h
    refine .inr (.inr ⟨_, rfl, by simp, ?_⟩)
    by_cases hl : l.length + 1 < p.length
    · rw [if_pos hl] at h
      obtain ⟨b, hb, h⟩ := Option.bind_eq_some_iff.1 h
      exact .inl ⟨hl, b, hb, (Option.some.inj h).symm⟩
    · rw [if_neg hl] at h
      exact .inr ⟨hl, (Option.some.inj h).symm⟩
theorem eq_nil_ev {k : Nat} {b : Bool} (h : slices_Equal_int_int.f k [] [] = some b) : b = true := by
  unfold slices_Equal_int_int.f at h
  rw [if_pos rfl] at h
  cases k with
  | zero => cases h
  | succ k => exact (Option.some.inj h).symm
set_option maxRecDepth 100000 in
set_option maxHeartbeats 4000000 in
theorem res_r18_all (k : Nat) (t : S27) (p : List Int) (last : Option (List Int)) (hh : Bool) (hhit : hitG k (prB t) p last = some hh) (vl : Value) (b6 b11 : Nat) (X1 : Option Addr) (e1 : Nat) (X2 : Option Addr) (e2 : Nat) (Ap : Option Addr) (cp : Nat) (A : World) (u0 u1 u2 u3 u4 u5 u7 u8 u9 u10 u13 u14 u15 u16 u17 u18 u19 u20 u21 u22 u23 u24 u25 u26 u27 u28 u29 u30 u31 u32 u33 u34 u35 u36 u37 u38 u39 u40 u41 u42 u43 u44 u45 u46 u47 u48 u49 u50 u51 u52 u53 u54 u55 u56 u57 u58 u59 u60 u61 u62 u63 u64 u65 u66 u67 u68 u69 u70 u71 u72 u73 u74 u75 u76 u77 u78 u79 u80 u81 u82 u83 u84 u85 u86 u87 u88 : Value)
    (hb6 : A.heap[b6]? = some (.cells #[.string t.f0, .slice X1 t.f1.length e1, .slice X2 t.f2.length e2] 27 (0, 0))) (hb11 : A.heap[b11]? = some (.cells #[vl] 25 (0, 0)))
    (hvl : LastC A vl last)
    (h1 : Kd.C (Kd.int .i64) A X1 t.f1.length t.f1) (l1 : t.f1.length ≤ e1) (h2 : Kd.C k27 A X2 t.f2.length t.f2) (l2 : t.f2.length ≤ e2) (hcp : p.length ≤ cp) (h3 : Kd.C (Kd.int .i64) A Ap p.length p) (heq0 : slices_Equal_int_int.f k [] [] = some true)
    (Q : Exit → Act → World → Prop) (hQp : ∀ c a a' w, Q (.panic c) a w → Q (.panic c) a' w)
    (hQ : ∀ (x46 x47 x48 x49 x50 x51 x52 x53 x54 x55 x56 x57 x58 x59 x60 x61 x62 x63 x64 x65 x66 x67 x68 x69 x70 : Value) (w' : World), Below A.heap.size A w' → Q .normal { tmps := #[u0, u1, u2, u3, u4, u5, .pointer (some ⟨b6, 0, none⟩), u7, u8, u9, u10, .pointer (some ⟨b11, 0, none⟩), .slice Ap p.length cp, u13, u14, u15, u16, u17, u18, u19, u20, u21, u22, u23, u24, u25, u26, u27, u28, u29, u30, u31, u32, u33, u34, u35, u36, u37, u38, u39, u40, u41, u42, u43, u44, u45, x46, x47, x48, x49, x50, x51, x52, x53, x54, x55, x56, x57, x58, x59, x60, x61, x62, x63, x64, x65, x66, x67, x68, x69, x70, .bool hh, u72, u73, u74, u75, u76, u77, u78, u79, u80, u81, u82, u83, u84, u85, u86, u87, u88], defers := [] } w') :
    wpAny Try.prog .any r18ops Q 26 (Array.replicate 26 false) { tmps := #[u0, u1, u2, u3, u4, u5, .pointer (some ⟨b6, 0, none⟩), u7, u8, u9, u10, .pointer (some ⟨b11, 0, none⟩), .slice Ap p.length cp, u13, u14, u15, u16, u17, u18, u19, u20, u21, u22, u23, u24, u25, u26, u27, u28, u29, u30, u31, u32, u33, u34, u35, u36, u37, u38, u39, u40, u41, u42, u43, u44, u45, u46, u47, u48, u49, u50, u51, u52, u53, u54, u55, u56, u57, u58, u59, u60, u61, u62, u63, u64, u65, u66, u67, u68, u69, u70, u71, u72, u73, u74, u75, u76, u77, u78, u79, u80, u81, u82, u83, u84, u85, u86, u87, u88], defers := [] } { A with drawn := A.drawn + 1 } := by
  rcases hit_last k (prB t) p last hh hhit with ⟨rfl, he⟩ | ⟨rfl, htp, he⟩ | ⟨l, rfl, hpos, (⟨hlt, b, hb, he⟩ | ⟨hlt, he⟩)⟩
  · obtain rfl := hvl
    by_cases hp : p.length = 0
    · have : hh = false := by rw [he]; simp [hp]
      subst this
      exact res_r18_A k t p 0 b6 b11 X1 e1 X2 e2 Ap cp A u0 u1 u2 u3 u4 u5 u7 u8 u9 u10 u13 u14 u15 u16 u17 u18 u19 u20 u21 u22 u23 u24 u25 u26 u27 u28 u29 u30 u31 u32 u33 u34 u35 u36 u37 u38 u39 u40 u41 u42 u43 u44 u45 u46 u47 u48 u49 u50 u51 u52 u53 u54 u55 u56 u57 u58 u59 u60 u61 u62 u63 u64 u65 u66 u67 u68 u69 u70 u71 u72 u73 u74 u75 u76 u77 u78 u79 u80 u81 u82 u83 u84 u85 u86 u87 u88 hb6 hb11 h1 l1 h2 l2 hp Q hQp hQ
    · have : hh = prB t := by rw [he]; simp [show 0 < p.length by omega]
      subst this
      exact res_r18_B k t p 0 b6 b11 X1 e1 X2 e2 Ap cp A u0 u1 u2 u3 u4 u5 u7 u8 u9 u10 u13 u14 u15 u16 u17 u18 u19 u20 u21 u22 u23 u24 u25 u26 u27 u28 u29 u30 u31 u32 u33 u34 u35 u36 u37 u38 u39 u40 u41 u42 u43 u44 u45 u46 u47 u48 u49 u50 u51 u52 u53 u54 u55 u56 u57 u58 u59 u60 u61 u62 u63 u64 u65 u66 u67 u68 u69 u70 u71 u72 u73 u74 u75 u76 u77 u78 u79 u80 u81 u82 u83 u84 u85 u86 u87 u88 hb6 hb11 h1 l1 h2 l2 (by omega) Q hQp hQ
  · obtain ⟨La, cl, rfl, hcl, h4⟩ := hvl
    by_cases hp : p.length = 0
    · have : hh = false := by rw [he]; simp [hp]
      subst this
      cases La with
      | none => 
        have hb11' : A.heap[b11]? = some (.cells #[.slice none 0 cl] 25 (0, 0)) := hb11
        exact res_r18_A k t p cl b6 b11 X1 e1 X2 e2 Ap cp A u0 u1 u2 u3 u4 u5 u7 u8 u9 u10 u13 u14 u15 u16 u17 u18 u19 u20 u21 u22 u23 u24 u25 u26 u27 u28 u29 u30 u31 u32 u33 u34 u35 u36 u37 u38 u39 u40 u41 u42 u43 u44 u45 u46 u47 u48 u49 u50 u51 u52 u53 u54 u55 u56 u57 u58 u59 u60 u61 u62 u63 u64 u65 u66 u67 u68 u69 u70 u71 u72 u73 u74 u75 u76 u77 u78 u79 u80 u81 u82 u83 u84 u85 u86 u87 u88 hb6 hb11' h1 l1 h2 l2 hp Q hQp hQ
      | some La => exact res_r18_C k t p [] La cl b6 b11 X1 e1 X2 e2 Ap cp A u0 u1 u2 u3 u4 u5 u7 u8 u9 u10 u13 u14 u15 u16 u17 u18 u19 u20 u21 u22 u23 u24 u25 u26 u27 u28 u29 u30 u31 u32 u33 u34 u35 u36 u37 u38 u39 u40 u41 u42 u43 u44 u45 u46 u47 u48 u49 u50 u51 u52 u53 u54 u55 u56 u57 u58 u59 u60 u61 u62 u63 u64 u65 u66 u67 u68 u69 u70 u71 u72 u73 u74 u75 u76 u77 u78 u79 u80 u81 u82 u83 u84 u85 u86 u87 u88 hb6 hb11 h1 l1 h2 l2 hp (by simp only [List.length_nil]; omega) Q hQp hQ
    · have : hh = prB t := by rw [he, htp]; simp [show 0 < p.length by omega]
      subst this
      cases La with
      | none =>
        have hb11' : A.heap[b11]? = some (.cells #[.slice none 0 cl] 25 (0, 0)) := hb11
        exact res_r18_B k t p cl b6 b11 X1 e1 X2 e2 Ap cp A u0 u1 u2 u3 u4 u5 u7 u8 u9 u10 u13 u14 u15 u16 u17 u18 u19 u20 u21 u22 u23 u24 u25 u26 u27 u28 u29 u30 u31 u32 u33 u34 u35 u36 u37 u38 u39 u40 u41 u42 u43 u44 u45 u46 u47 u48 u49 u50 u51 u52 u53 u54 u55 u56 u57 u58 u59 u60 u61 u62 u63 u64 u65 u66 u67 u68 u69 u70 u71 u72 u73 u74 u75 u76 u77 u78 u79 u80 u81 u82 u83 u84 u85 u86 u87 u88 hb6 hb11' h1 l1 h2 l2 (by omega) Q hQp hQ
      | some La =>
        rw [htp] at hQ
        exact res_r18_E k t p [] La cl b6 b11 X1 e1 X2 e2 Ap cp A u0 u1 u2 u3 u4 u5 u7 u8 u9 u10 u13 u14 u15 u16 u17 u18 u19 u20 u21 u22 u23 u24 u25 u26 u27 u28 u29 u30 u31 u32 u33 u34 u35 u36 u37 u38 u39 u40 u41 u42 u43 u44 u45 u46 u47 u48 u49 u50 u51 u52 u53 u54 u55 u56 u57 u58 u59 u60 u61 u62 u63 u64 u65 u66 u67 u68 u69 u70 u71 u72 u73 u74 u75 u76 u77 u78 u79 u80 u81 u82 u83 u84 u85 u86 u87 u88 hb6 hb11 h1 l1 h2 l2 hcp hcl (by simp only [List.length_nil]; omega) h3 h4 heq0 Q hQp hQ
  · obtain ⟨La, cl, rfl, hcl, h4⟩ := hvl
    obtain ⟨La, rfl, _⟩ := h4.2.2 hpos
    by_cases hb1 : b = true
    · subst hb1
      have : hh = true := by rw [he]; simp
      subst this
      exact res_r18_E k t p l La cl b6 b11 X1 e1 X2 e2 Ap cp A u0 u1 u2 u3 u4 u5 u7 u8 u9 u10 u13 u14 u15 u16 u17 u18 u19 u20 u21 u22 u23 u24 u25 u26 u27 u28 u29 u30 u31 u32 u33 u34 u35 u36 u37 u38 u39 u40 u41 u42 u43 u44 u45 u46 u47 u48 u49 u50 u51 u52 u53 u54 u55 u56 u57 u58 u59 u60 u61 u62 u63 u64 u65 u66 u67 u68 u69 u70 u71 u72 u73 u74 u75 u76 u77 u78 u79 u80 u81 u82 u83 u84 u85 u86 u87 u88 hb6 hb11 h1 l1 h2 l2 hcp hcl hlt h3 h4 hb Q hQp hQ
    · obtain rfl : b = false := by simpa using hb1
      have : hh = prB t := by rw [he]; simp [show 0 < p.length by omega]
      subst this
      exact res_r18_F k t p l La cl b6 b11 X1 e1 X2 e2 Ap cp A u0 u1 u2 u3 u4 u5 u7 u8 u9 u10 u13 u14 u15 u16 u17 u18 u19 u20 u21 u22 u23 u24 u25 u26 u27 u28 u29 u30 u31 u32 u33 u34 u35 u36 u37 u38 u39 u40 u41 u42 u43 u44 u45 u46 u47 u48 u49 u50 u51 u52 u53 u54 u55 u56 u57 u58 u59 u60 u61 u62 u63 u64 u65 u66 u67 u68 u69 u70 u71 u72 u73 u74 u75 u76 u77 u78 u79 u80 u81 u82 u83 u84 u85 u86 u87 u88 hb6 hb11 h1 l1 h2 l2 hcp hcl hlt h3 h4 hb Q hQp hQ
  · obtain ⟨La, cl, rfl, hcl, h4⟩ := hvl
    obtain ⟨La, rfl, _⟩ := h4.2.2 hpos
    by_cases hp : p.length = 0
    · have : hh = false := by rw [he]; simp [hp]
      subst this
      exact res_r18_C k t p l La cl b6 b11 X1 e1 X2 e2 Ap cp A u0 u1 u2 u3 u4 u5 u7 u8 u9 u10 u13 u14 u15 u16 u17 u18 u19 u20 u21 u22 u23 u24 u25 u26 u27 u28 u29 u30 u31 u32 u33 u34 u35 u36 u37 u38 u39 u40 u41 u42 u43 u44 u45 u46 u47 u48 u49 u50 u51 u52 u53 u54 u55 u56 u57 u58 u59 u60 u61 u62 u63 u64 u65 u66 u67 u68 u69 u70 u71 u72 u73 u74 u75 u76 u77 u78 u79 u80 u81 u82 u83 u84 u85 u86 u87 u88 hb6 hb11 h1 l1 h2 l2 hp hlt Q hQp hQ
    · have : hh = prB t := by rw [he]; simp [show 0 < p.length by omega]
      subst this
      exact res_r18_D k t p l La cl b6 b11 X1 e1 X2 e2 Ap cp A u0 u1 u2 u3 u4 u5 u7 u8 u9 u10 u13 u14 u15 u16 u17 u18 u19 u20 u21 u22 u23 u24 u25 u26 u27 u28 u29 u30 u31 u32 u33 u34 u35 u36 u37 u38 u39 u40 u41 u42 u43 u44 u45 u46 u47 u48 u49 u50 u51 u52 u53 u54 u55 u56 u57 u58 u59 u60 u61 u62 u63 u64 u65 u66 u67 u68 u69 u70 u71 u72 u73 u74 u75 u76 u77 u78 u79 u80 u81 u82 u83 u84 u85 u86 u87 u88 hb6 hb11 h1 l1 h2 l2 (by omega) hlt Q hQp hQ

/-- The function value 'stands': does a pronoun stand for what the captured variable holds? -/
theorem stands_any (k : Nat) (x np : S27) (num : ByteArray) (g : Nat) (A1 : Option Addr) (c1 : Nat) (A2 : Option Addr) (c2 : Nat) (N1 : Option Addr) (m1 : Nat) (N2 : Option Addr) (m2 : Nat) (W : World) (hg : W.heap[g]? = some (.cells #[.string np.f0, .slice N1 np.f1.length m1, .slice N2 np.f2.length m2] 27 (0, 0)))
    (h1 : Kd.C (Kd.int .i64) W N1 np.f1.length np.f1) (l1 : np.f1.length ≤ m1) (h2 : Kd.C k27 W N2 np.f2.length np.f2) (l2 : np.f2.length ≤ m2) (hnum : anaphora_number.f k np.f0 np.f1 np.f2 = some num) :
    Calls Try.prog 41 #[.agg #[.string x.f0, .slice A1 x.f1.length c1, .slice A2 x.f2.length c2], .pointer (some ⟨g, 0, none⟩)] W fun e w' => e = .returned (.bool (x.f0.toList == num.toList)) ∧ Below W.heap.size W w' := by
  have hu27 := Try.underlying27
  have hgl := blk_lt hg
  have hne : g ≠ W.heap.size := by omega
  have B1 := heap_alloc_new W (.cells #[.string x.f0, .slice A1 x.f1.length c1, .slice A2 x.f2.length c2] 27)
  have hbb := below_alloc (Below.refl W.heap.size W) (.cells #[.string x.f0, .slice A1 x.f1.length c1, .slice A2 x.f2.length c2] 27)
  have BG := blk_below hg hbb
  have hc37 := fun (W1 : World) (hb : Below W.heap.size W W1) => anaphora_number.calls k np.f0 N1 m1 np.f1 N2 m2 np.f2 num W1 (Kd.F_now (Kd.F_below (Kd.C_F (Kd.heap_int .i64) h1) hb)) l1 (Kd.F_now (Kd.F_below (Kd.C_F k27_heap h2) hb)) l2 hnum
  clear h1 h2
  go_enter Try.func41, Try.ntmps41
  go_upto_region 1 with (fail)
  generalize W.alloc (.cells #[.string x.f0, .slice A1 x.f1.length c1, .slice A2 x.f2.length c2] 27) = W1 at B1 hbb BG ⊢
  have b0 : W1.cell? ⟨W.heap.size, 0, none⟩ = some (.string x.f0) := (blk_cell B1 0).trans rfl
  have g0 : W1.cell? ⟨g, 0, none⟩ = some (.string np.f0) := (blk_cell BG 0).trans rfl
  have g1 : W1.cell? ⟨g, 1, none⟩ = some (.slice N1 np.f1.length m1) := (blk_cell BG 1).trans rfl
  have g2 : W1.cell? ⟨g, 2, none⟩ = some (.slice N2 np.f2.length m2) := (blk_cell BG 2).trans rfl
  have HBB := Aside0.mk hbb
  clear B1 BG
  go_cut [3] (fun v3 wx => v3 = .bool (x.f0.toList == num.toList) ∧ Aside0 (Below W.heap.size W wx))
  case first =>
    go_region_held3 (fun w' => w'.cell? ⟨W.heap.size, 0, none⟩ = some (.string x.f0) ∧ w'.cell? ⟨g, 0, none⟩ = some (.string np.f0) ∧ w'.cell? ⟨g, 1, none⟩ = some (.slice N1 np.f1.length m1) ∧ w'.cell? ⟨g, 2, none⟩ = some (.slice N2 np.f2.length m2))
      (go_keep)
      (first
      | (go_at_call 37
         refine (hc37 _ (HBB.out.trans ((below_drew (Below.refl _ _)).mono HBB.out.size))).mono ?_
         rintro e w1 ⟨rfl, hb⟩
         have hb' : Below W1.heap.size W1 w1 := (below_drew (Below.refl _ _)).trans hb
         have z0 := (hb'.cell (World.block_lt_of_cell? _ _ b0)).trans b0
         have z1 := (hb'.cell (World.block_lt_of_cell? _ _ g0)).trans g0
         have z2 := (hb'.cell (World.block_lt_of_cell? _ _ g1)).trans g1
         have z3 := (hb'.cell (World.block_lt_of_cell? _ _ g2)).trans g2
         have HB2 := Aside0.mk (HBB.out.trans (hb'.mono HBB.out.size))
         clear hb hb'))
    go_wp2
    go_meet
    exact ⟨rfl, HB2⟩
  case rest =>
    obtain ⟨rfl, HBX⟩ := hcut
    go_wp2
    go_ret
    exact ⟨rfl, HBX.out⟩

def LastF (A : World) (ok : Nat → Prop) (vl : Value) : Option (List Int) → Prop
  | none => vl = .slice none 0 0
  | some l => ∃ La cl, vl = .slice La l.length cl ∧ l.length ≤ cl ∧ Kd.F (Kd.int .i64) A ok La l.length l
/-- What the range over a tree's nodes keeps. -/
structure ResI (k : Nat) (num : ByteArray) (tp : Bool) (np : S27) (xs : List (List Int × S27)) (rf : Option S27) (wn : World) (r2 r3 b6 b7 b11 : Nat) (Y : Nat → Prop) (pre : List (List Int × S27)) (A : World) : Prop where
  y2 : Y r2
  y3 : Y r3
  y7 : Y b7
  y11 : Y b11
  old : ∀ i, Y i → i < wn.heap.size → i = r2 ∨ i = r3 ∨ i = b7 ∨ i = b11
  keep : KeepS (fun i => i < wn.heap.size ∧ i ≠ b7 ∧ i ≠ b11) wn A
  rest : ∃ (uu : S27) (last : Option (List Int)) (Z1 : Option Addr) (g1 : Nat) (Z2 : Option Addr) (g2 : Nat) (vl : Value), resFold k num tp np (xs.drop pre.length) uu last = some rf ∧
    A.heap[b7]? = some (.cells #[.string uu.f0, .slice Z1 uu.f1.length g1, .slice Z2 uu.f2.length g2] 27 (0, 0)) ∧
    Kd.R (Kd.int .i64) 3 A b6 (fun i => (i < wn.heap.size ∧ i < b7) ∨ (wn.heap.size ≤ i ∧ Y i)) (.slice Z1 uu.f1.length g1) uu.f1 ∧ Kd.R k27 27 A b6 (fun i => (i < wn.heap.size ∧ i < b7) ∨ (wn.heap.size ≤ i ∧ Y i)) (.slice Z2 uu.f2.length g2) uu.f2 ∧
    A.heap[b11]? = some (.cells #[vl] 25 (0, 0)) ∧ LastF A (fun i => wn.heap.size ≤ i ∧ Y i) vl last
theorem ResI.step {k : Nat} {num : ByteArray} {tp : Bool} {np : S27} {xs : List (List Int × S27)} {rf : Option S27} {wn : World} {r2 r3 b6 b7 b11 : Nat} {Y : Nat → Prop} {pre : List (List Int × S27)} {A B : World} (h : ResI k num tp np xs rf wn r2 r3 b6 b7 b11 Y pre A)
    (hk : KeepS (fun i => i < wn.heap.size ∨ Y i) A B) : ResI k num tp np xs rf wn r2 r3 b6 b7 b11 Y pre B := by
  obtain ⟨y2, y3, y7, y11, old, keep, uu, last, Z1, g1, Z2, g2, vl, hf, h7, hR1, hR2, h11, hl⟩ := h
  refine ⟨y2, y3, y7, y11, old, keep.trans (hk.mono (fun i _ hi => .inl hi.1)), uu, last, Z1, g1, Z2, g2, vl, hf, hk.blk h7 (.inr y7), Kd.R_step hR1 (fun i hi hlt => hk.block i hlt (hi.elim (fun h => .inl h.1) (fun h => .inr h.2))), Kd.R_step hR2 (fun i hi hlt => hk.block i hlt (hi.elim (fun h => .inl h.1) (fun h => .inr h.2))), hk.blk h11 (.inr y11), ?_⟩
  cases last with
  | none => exact hl
  | some l =>
    obtain ⟨La, cl, e, hc, hF⟩ := hl
    exact ⟨La, cl, e, hc, Kd.F_step hF (fun i hi hlt => hk.block i hlt (.inr hi.2))⟩
set_option maxHeartbeats 16000000 in
set_option maxRecDepth 100000 in
theorem res_range (k : Nat) (t np uz : S27) (num : ByteArray) (xs : List (List Int × S27)) (rf : Option S27) (wn : World) (ds : List Deferred) (r2 r3 b6 b7 b8 b10 b11 cb : Nat) (u0 u1 u4 u5 u9 u12 u13 u14 u15 u16 u17 u18 u19 u20 u21 u22 u23 u24 u25 u26 u27 u28 u29 u30 u31 u32 u33 u34 u35 u37 u38 u39 u40 u41 u42 u43 u44 u45 u46 u47 u48 u49 u50 u51 u52 u53 u54 u55 u56 u57 u58 u59 u60 u61 u62 u63 u64 u65 u66 u67 u68 u69 u70 u71 u72 u73 u74 u75 u76 u77 u78 u79 u80 u81 u82 u83 u84 u85 u86 u87 u88 : Value)
    (ho1 : r2 < r3) (ho2 : r3 < b6) (ho3 : b6 < b7) (ho4 : b7 < b8) (ho5 : b8 < b10) (ho6 : b10 < b11) (ho7 : b11 < cb)
    (X1 : Option Addr) (e1 : Nat) (X2 : Option Addr) (e2 : Nat) (N1 : Option Addr) (m1 : Nat) (N2 : Option Addr) (m2 : Nat) (Z1 : Option Addr) (g1 : Nat) (Z2 : Option Addr) (g2 : Nat)
    (h2 : wn.heap[r2]? = some (.cells #[.slice none 0 0] 22 (0, 0))) (h3 : wn.heap[r3]? = some (.cells #[.int .i64 0] 28 (0, 0)))
    (h6 : wn.heap[b6]? = some (.cells #[.string t.f0, .slice X1 t.f1.length e1, .slice X2 t.f2.length e2] 27 (0, 0))) (hx1 : Kd.F (Kd.int .i64) wn (fun i => i < r2) X1 t.f1.length t.f1) (lx1 : t.f1.length ≤ e1) (hx2 : Kd.F k27 wn (fun i => i < r2) X2 t.f2.length t.f2) (lx2 : t.f2.length ≤ e2)
    (h7 : wn.heap[b7]? = some (.cells #[.string uz.f0, .slice Z1 uz.f1.length g1, .slice Z2 uz.f2.length g2] 27 (0, 0))) (hz1 : Kd.R (Kd.int .i64) 3 wn b6 (fun i => i < b7) (.slice Z1 uz.f1.length g1) uz.f1) (hz2 : Kd.R k27 27 wn b6 (fun i => i < b7) (.slice Z2 uz.f2.length g2) uz.f2)
    (h8 : wn.heap[b8]? = some (.cells #[.string np.f0, .slice N1 np.f1.length m1, .slice N2 np.f2.length m2] 27 (0, 0))) (hn1 : Kd.R (Kd.int .i64) 3 wn b6 (fun i => i < b8 ∧ i ≠ b7) (.slice N1 np.f1.length m1) np.f1) (hn2 : Kd.R k27 27 wn b6 (fun i => i < b8 ∧ i ≠ b7) (.slice N2 np.f2.length m2) np.f2)
    (h10 : wn.heap[b10]? = some (.cells #[.func (.func 41) #[] #[.pointer (some ⟨b8, 0, none⟩)]] 39 (0, 0))) (h11 : wn.heap[b11]? = some (.cells #[.slice none 0 0] 25 (0, 0)))
    (hcb : wn.heap[cb]? = some (.cells #[.string t.f0, .slice X1 t.f1.length e1, .slice X2 t.f2.length e2] 27 (0, 0)))
    (hnum : anaphora_number.f k np.f0 np.f1 np.f2 = some num) (hxs : nodesO k [] t = some xs) (hrf : resFold k num (prB t) np xs uz none = some rf) (Q : Exit → Act → World → Prop)
    (hdone : ∀ (D : Nat) (uu : S27) (V1 : Option Addr) (q1 : Nat) (V2 : Option Addr) (q2 : Nat) (W : World), rf = some uu → wn.heap.size ≤ D → W.heap[D]? = some (.deferred (some [])) → W.heap[b7]? = some (.cells #[.string uu.f0, .slice V1 uu.f1.length q1, .slice V2 uu.f2.length q2] 27 (0, 0)) →
      Kd.R (Kd.int .i64) 3 W b6 (fun _ => True) (.slice V1 uu.f1.length q1) uu.f1 → Kd.R k27 27 W b6 (fun _ => True) (.slice V2 uu.f2.length q2) uu.f2 → KeepS (fun i => i < wn.heap.size ∧ i ≠ b7 ∧ i ≠ b11) wn W → Q .normal { tmps := #[u0, u1, .pointer (some ⟨r2, 0, none⟩), .pointer (some ⟨r3, 0, none⟩), u4, u5, .pointer (some ⟨b6, 0, none⟩), .pointer (some ⟨b7, 0, none⟩), .pointer (some ⟨b8, 0, none⟩), u9, .pointer (some ⟨b10, 0, none⟩), .pointer (some ⟨b11, 0, none⟩), u12, u13, u14, u15, u16, u17, u18, u19, u20, u21, u22, u23, u24, u25, u26, u27, u28, u29, u30, u31, u32, u33, u34, u35, .func (.func 57) #[] #[.pointer (some ⟨cb, 0, none⟩)], u37, u38, u39, u40, u41, u42, u43, u44, u45, u46, u47, u48, u49, u50, u51, u52, u53, u54, u55, u56, u57, u58, u59, u60, u61, u62, u63, u64, u65, u66, u67, u68, u69, u70, u71, u72, u73, u74, u75, u76, u77, u78, u79, u80, u81, u82, u83, u84, u85, u86, u87, u88], defers := { target := .collected D, args := #[] } :: ds } W)
    (hstop : ∀ (D : Nat) (W : World), rf = none → wn.heap.size ≤ D → W.heap[D]? = some (.deferred (some [])) → W.heap[r2]? = some (.cells #[.slice none 0 0] 22 (0, 0)) → W.heap[r3]? = some (.cells #[.int .i64 10] 28 (0, 0)) → KeepS (fun i => i < wn.heap.size ∧ i ≠ b7 ∧ i ≠ b11 ∧ i ≠ r2 ∧ i ≠ r3) wn W →
      Q .ret { tmps := #[u0, u1, .pointer (some ⟨r2, 0, none⟩), .pointer (some ⟨r3, 0, none⟩), u4, u5, .pointer (some ⟨b6, 0, none⟩), .pointer (some ⟨b7, 0, none⟩), .pointer (some ⟨b8, 0, none⟩), u9, .pointer (some ⟨b10, 0, none⟩), .pointer (some ⟨b11, 0, none⟩), u12, u13, u14, u15, u16, u17, u18, u19, u20, u21, u22, u23, u24, u25, u26, u27, u28, u29, u30, u31, u32, u33, u34, u35, .func (.func 57) #[] #[.pointer (some ⟨cb, 0, none⟩)], u37, u38, u39, u40, u41, u42, u43, u44, u45, u46, u47, u48, u49, u50, u51, u52, u53, u54, u55, u56, u57, u58, u59, u60, u61, u62, u63, u64, u65, u66, u67, u68, u69, u70, u71, u72, u73, u74, u75, u76, u77, u78, u79, u80, u81, u82, u83, u84, u85, u86, u87, u88], defers := { target := .collected D, args := #[] } :: ds } W) :
    (Go.Code.rangeFunc (Go.Operand.tmp 36) #[37, 38] ((Go.Code.region 13 #[{ dst := some 12, op := Go.Op.assign (Go.Operand.tmp 37), type := 25, pos := "anaphora.go:86", after := #[], guard := none }] false).seq (Go.Code.region 14 #[{ dst := some 13, op := Go.Op.alloc 27, type := 0, pos := "anaphora.go:86", after := #[], guard := none }, { dst := none, op := Go.Op.store 27 (Go.Operand.tmp 13) (Go.Operand.tmp 38), type := 0, pos := "anaphora.go:86", after := #[{ on := 0, ground := Go.Ground.data }, { on := 0, ground := Go.Ground.phase }], guard := none }] false)) (Go.Code.block 3 (((Go.Code.region 15 #[{ dst := some 39, op := Go.Op.load 27 (Go.Operand.tmp 13), type := 27, pos := "anaphora.go:87", after := #[], guard := none }, { dst := some 40, op := Go.Op.call { callee := Go.Callee.value (Go.Operand.func 43), args := #[Go.Operand.tmp 39], argTypes := #[27] }, type := 4, pos := "anaphora.go:87", after := #[{ on := 0, ground := Go.Ground.data }], guard := none }, { dst := some 41, op := Go.Op.unOp Go.UnOp.not 4 (Go.Operand.tmp 40), type := 4, pos := "anaphora.go:87", after := #[{ on := 1, ground := Go.Ground.data }], guard := none }] false).seq (Go.Code.cond (Go.Operand.tmp 41) (Go.Code.exit 3) Go.Code.skip)).seq (((Go.Code.region 16 #[{ dst := some 42, op := Go.Op.load 39 (Go.Operand.tmp 10), type := 39, pos := "anaphora.go:90", after := #[], guard := none }, { dst := some 43, op := Go.Op.load 27 (Go.Operand.tmp 13), type := 27, pos := "anaphora.go:90", after := #[], guard := none }, { dst := some 44, op := Go.Op.call { callee := Go.Callee.value (Go.Operand.tmp 42), args := #[Go.Operand.tmp 43], argTypes := #[27] }, type := 4, pos := "anaphora.go:90", after := #[{ on := 0, ground := Go.Ground.data }, { on := 1, ground := Go.Ground.data }], guard := none }, { dst := some 45, op := Go.Op.unOp Go.UnOp.not 4 (Go.Operand.tmp 44), type := 4, pos := "anaphora.go:90", after := #[{ on := 2, ground := Go.Ground.data }], guard := none }] false).seq (Go.Code.cond (Go.Operand.tmp 45) ((Go.Code.region 17 #[{ dst := none, op := Go.Op.store 22 (Go.Operand.tmp 2) (Go.Operand.const (Go.Value.slice none 0 0)), type := 0, pos := "anaphora.go:91", after := #[], guard := none }, { dst := none, op := Go.Op.store 28 (Go.Operand.tmp 3) (Go.Operand.const (Go.Value.int Go.IntKind.i64 10)), type := 0, pos := "anaphora.go:91", after := #[{ on := 0, ground := Go.Ground.chain }, { on := 0, ground := Go.Ground.phase }], guard := none }] false).seq Go.Code.ret) Go.Code.skip)).seq (((Go.Code.region 18 #[{ dst := some 46, op := Go.Op.load 25 (Go.Operand.tmp 11), type := 25, pos := "anaphora.go:93", after := #[], guard := none }, { dst := some 47, op := Go.Op.binOp Go.BinOp.neq 25 (Go.Operand.tmp 46) (Go.Operand.const (Go.Value.slice none 0 0)) 25, type := 4, pos := "anaphora.go:93", after := #[{ on := 0, ground := Go.Ground.data }], guard := none }, { dst := some 48, op := Go.Op.move (Go.Operand.tmp 47), type := 4, pos := "anaphora.go:93", after := #[{ on := 1, ground := Go.Ground.data }], guard := none }, { dst := some 49, op := Go.Op.move (Go.Operand.tmp 12), type := 25, pos := "anaphora.go:93", after := #[{ on := 2, ground := Go.Ground.guard }], guard := some (2, true) }, { dst := some 50, op := Go.Op.call { callee := Go.Callee.builtin Go.Builtin.len, args := #[Go.Operand.tmp 49], argTypes := #[25] }, type := 3, pos := "anaphora.go:93", after := #[{ on := 3, ground := Go.Ground.data }, { on := 2, ground := Go.Ground.guard }], guard := some (2, true) }, { dst := some 51, op := Go.Op.load 25 (Go.Operand.tmp 11), type := 25, pos := "anaphora.go:93", after := #[{ on := 2, ground := Go.Ground.guard }], guard := some (2, true) }, { dst := some 52, op := Go.Op.call { callee := Go.Callee.builtin Go.Builtin.len, args := #[Go.Operand.tmp 51], argTypes := #[25] }, type := 3, pos := "anaphora.go:93", after := #[{ on := 5, ground := Go.Ground.data }, { on := 2, ground := Go.Ground.guard }], guard := some (2, true) }, { dst := some 53, op := Go.Op.binOp Go.BinOp.gtr 3 (Go.Operand.tmp 50) (Go.Operand.tmp 52) 3, type := 4, pos := "anaphora.go:93", after := #[{ on := 4, ground := Go.Ground.data }, { on := 6, ground := Go.Ground.data }, { on := 2, ground := Go.Ground.guard }], guard := some (2, true) }, { dst := some 54, op := Go.Op.pick (Go.Operand.tmp 48) (Go.Operand.tmp 53) (Go.Operand.const (Go.Value.bool false)), type := 4, pos := "anaphora.go:93", after := #[{ on := 2, ground := Go.Ground.data }, { on := 7, ground := Go.Ground.data }], guard := none }, { dst := some 55, op := Go.Op.move (Go.Operand.tmp 54), type := 4, pos := "anaphora.go:93", after := #[{ on := 8, ground := Go.Ground.data }, { on := 2, ground := Go.Ground.chain }], guard := none }, { dst := some 56, op := Go.Op.move (Go.Operand.tmp 12), type := 25, pos := "anaphora.go:93", after := #[{ on := 9, ground := Go.Ground.guard }], guard := some (9, true) }, { dst := some 57, op := Go.Op.load 25 (Go.Operand.tmp 11), type := 25, pos := "anaphora.go:93", after := #[{ on := 9, ground := Go.Ground.guard }], guard := some (9, true) }, { dst := some 58, op := Go.Op.call { callee := Go.Callee.builtin Go.Builtin.len, args := #[Go.Operand.tmp 57], argTypes := #[25] }, type := 3, pos := "anaphora.go:93", after := #[{ on := 11, ground := Go.Ground.data }, { on := 9, ground := Go.Ground.guard }], guard := some (9, true) }, { dst := some 59, op := Go.Op.slice 25 (Go.Operand.tmp 56) none (some (Go.Operand.tmp 58)) none, type := 25, pos := "anaphora.go:93", after := #[{ on := 10, ground := Go.Ground.data }, { on := 12, ground := Go.Ground.data }, { on := 9, ground := Go.Ground.guard }], guard := some (9, true) }, { dst := some 60, op := Go.Op.load 25 (Go.Operand.tmp 11), type := 25, pos := "anaphora.go:93", after := #[{ on := 9, ground := Go.Ground.guard }], guard := some (9, true) }, { dst := some 61, op := Go.Op.call { callee := Go.Callee.value (Go.Operand.func 44), args := #[Go.Operand.tmp 59, Go.Operand.tmp 60], argTypes := #[25, 25] }, type := 4, pos := "anaphora.go:93", after := #[{ on := 13, ground := Go.Ground.data }, { on := 14, ground := Go.Ground.data }, { on := 9, ground := Go.Ground.chain }, { on := 9, ground := Go.Ground.guard }], guard := some (9, true) }, { dst := some 62, op := Go.Op.pick (Go.Operand.tmp 55) (Go.Operand.tmp 61) (Go.Operand.const (Go.Value.bool false)), type := 4, pos := "anaphora.go:93", after := #[{ on := 9, ground := Go.Ground.data }, { on := 15, ground := Go.Ground.data }], guard := none }, { dst := some 63, op := Go.Op.move (Go.Operand.tmp 62), type := 4, pos := "anaphora.go:93", after := #[{ on := 16, ground := Go.Ground.data }, { on := 15, ground := Go.Ground.chain }], guard := none }, { dst := some 64, op := Go.Op.move (Go.Operand.tmp 12), type := 25, pos := "anaphora.go:93", after := #[{ on := 17, ground := Go.Ground.guard }], guard := some (17, false) }, { dst := some 65, op := Go.Op.call { callee := Go.Callee.builtin Go.Builtin.len, args := #[Go.Operand.tmp 64], argTypes := #[25] }, type := 3, pos := "anaphora.go:93", after := #[{ on := 18, ground := Go.Ground.data }, { on := 17, ground := Go.Ground.guard }], guard := some (17, false) }, { dst := some 66, op := Go.Op.binOp Go.BinOp.gtr 3 (Go.Operand.tmp 65) (Go.Operand.const (Go.Value.int Go.IntKind.i64 0)) 3, type := 4, pos := "anaphora.go:93", after := #[{ on := 19, ground := Go.Ground.data }, { on := 17, ground := Go.Ground.guard }], guard := some (17, false) }, { dst := some 67, op := Go.Op.move (Go.Operand.tmp 66), type := 4, pos := "anaphora.go:93", after := #[{ on := 20, ground := Go.Ground.data }, { on := 17, ground := Go.Ground.chain }, { on := 17, ground := Go.Ground.guard }], guard := some (17, false) }, { dst := some 68, op := Go.Op.load 27 (Go.Operand.tmp 6), type := 27, pos := "anaphora.go:93", after := #[{ on := 21, ground := Go.Ground.guard }], guard := some (21, true) }, { dst := some 69, op := Go.Op.call { callee := Go.Callee.value (Go.Operand.func 43), args := #[Go.Operand.tmp 68], argTypes := #[27] }, type := 4, pos := "anaphora.go:93", after := #[{ on := 22, ground := Go.Ground.data }, { on := 21, ground := Go.Ground.chain }, { on := 21, ground := Go.Ground.guard }], guard := some (21, true) }, { dst := some 70, op := Go.Op.pick (Go.Operand.tmp 67) (Go.Operand.tmp 69) (Go.Operand.const (Go.Value.bool false)), type := 4, pos := "anaphora.go:93", after := #[{ on := 21, ground := Go.Ground.data }, { on := 23, ground := Go.Ground.data }, { on := 17, ground := Go.Ground.guard }], guard := some (17, false) }, { dst := some 71, op := Go.Op.pick (Go.Operand.tmp 63) (Go.Operand.const (Go.Value.bool true)) (Go.Operand.tmp 70), type := 4, pos := "anaphora.go:93", after := #[{ on := 17, ground := Go.Ground.data }, { on := 24, ground := Go.Ground.data }], guard := none }] true).seq (Go.Code.cond (Go.Operand.tmp 71) (Go.Code.exit 3) Go.Code.skip)).seq ((Go.Code.region 19 #[{ dst := some 73, op := Go.Op.load 27 (Go.Operand.tmp 7), type := 27, pos := "anaphora.go:96", after := #[], guard := none }, { dst := some 74, op := Go.Op.move (Go.Operand.tmp 12), type := 25, pos := "anaphora.go:96", after := #[], guard := none }, { dst := some 75, op := Go.Op.load 27 (Go.Operand.tmp 8), type := 27, pos := "anaphora.go:96", after := #[], guard := none }, { dst := some 76, op := Go.Op.call { callee := Go.Callee.value (Go.Operand.func 45), args := #[Go.Operand.tmp 73, Go.Operand.tmp 74, Go.Operand.tmp 75], argTypes := #[27, 25, 27] }, type := 32, pos := "anaphora.go:96", after := #[{ on := 0, ground := Go.Ground.data }, { on := 1, ground := Go.Ground.data }, { on := 2, ground := Go.Ground.data }], guard := none }, { dst := some 72, op := Go.Op.move (Go.Operand.tmp 76), type := 32, pos := "anaphora.go:96", after := #[{ on := 3, ground := Go.Ground.data }], guard := none }, { dst := some 77, op := Go.Op.extract (Go.Operand.tmp 72) 0, type := 27, pos := "anaphora.go:96", after := #[{ on := 4, ground := Go.Ground.data }], guard := none }, { dst := some 78, op := Go.Op.extract (Go.Operand.tmp 72) 1, type := 4, pos := "anaphora.go:96", after := #[{ on := 4, ground := Go.Ground.data }, { on := 7, ground := Go.Ground.gcOnly Go.Departure.lateStores }], guard := none }, { dst := none, op := Go.Op.store 27 (Go.Operand.tmp 7) (Go.Operand.tmp 77), type := 0, pos := "anaphora.go:96", after := #[{ on := 5, ground := Go.Ground.data }, { on := 3, ground := Go.Ground.chain }, { on := 0, ground := Go.Ground.phase }, { on := 1, ground := Go.Ground.phase }, { on := 2, ground := Go.Ground.phase }, { on := 3, ground := Go.Ground.phase }, { on := 4, ground := Go.Ground.phase }, { on := 5, ground := Go.Ground.phase }, { on := 6, ground := Go.Ground.textOnly Go.Departure.lateStores }], guard := none }] false).seq (Go.Code.region 20 #[{ dst := some 79, op := Go.Op.move (Go.Operand.tmp 12), type := 25, pos := "anaphora.go:97", after := #[], guard := none }, { dst := none, op := Go.Op.store 25 (Go.Operand.tmp 11) (Go.Operand.tmp 79), type := 0, pos := "anaphora.go:97", after := #[{ on := 0, ground := Go.Ground.data }, { on := 0, ground := Go.Ground.phase }], guard := none }] false))))))).wp Try.prog Q { tmps := #[u0, u1, .pointer (some ⟨r2, 0, none⟩), .pointer (some ⟨r3, 0, none⟩), u4, u5, .pointer (some ⟨b6, 0, none⟩), .pointer (some ⟨b7, 0, none⟩), .pointer (some ⟨b8, 0, none⟩), u9, .pointer (some ⟨b10, 0, none⟩), .pointer (some ⟨b11, 0, none⟩), u12, u13, u14, u15, u16, u17, u18, u19, u20, u21, u22, u23, u24, u25, u26, u27, u28, u29, u30, u31, u32, u33, u34, u35, .func (.func 57) #[] #[.pointer (some ⟨cb, 0, none⟩)], u37, u38, u39, u40, u41, u42, u43, u44, u45, u46, u47, u48, u49, u50, u51, u52, u53, u54, u55, u56, u57, u58, u59, u60, u61, u62, u63, u64, u65, u66, u67, u68, u69, u70, u71, u72, u73, u74, u75, u76, u77, u78, u79, u80, u81, u82, u83, u84, u85, u86, u87, u88], defers := ds } wn := by
  obtain ⟨f0, f1, f2⟩ := t
  dsimp only at h6 hx1 lx1 hx2 lx2 hcb
  have hlc := blk_lt hcb
  have hk0 : slices_Equal_int_int.f k [] [] = some true := by
    cases k with
    | zero => simp [nodesO, slices_Clone_int_int.f, abstract_clone.f] at hxs
    | succ k => rfl
  have hu27 := Try.underlying27
  have hit := nodes1_iter k cb r2 f0 f1 f2 X1 e1 X2 e2 wn hcb hx1 lx1 hx2 lx2 (by omega) xs hxs
  have HIT := Aside0.mk hit
  have H2 := Aside0.mk h2
  have H3 := Aside0.mk h3
  have H6 := Aside0.mk h6
  have HX1 := Aside0.mk hx1
  have HX2 := Aside0.mk hx2
  have LX1 := Aside0.mk lx1
  have LX2 := Aside0.mk lx2
  have H8 := Aside0.mk h8
  have HN1 := Aside0.mk hn1
  have HN2 := Aside0.mk hn2
  have H10 := Aside0.mk h10
  have HNUM := Aside0.mk hnum
  have HDONE := Aside0.mk hdone
  have HSTOP := Aside0.mk hstop
  have hI0 : ResI k num (prB ⟨f0, f1, f2⟩) np xs rf wn r2 r3 b6 b7 b11 (fun i => i = r2 ∨ i = r3 ∨ i = b7 ∨ i = b11) [] wn := ⟨.inl rfl, .inr (.inl rfl), .inr (.inr (.inl rfl)), .inr (.inr (.inr rfl)), fun i hi _ => hi, KeepS.refl _ _, uz, none, Z1, g1, Z2, g2, _, hrf, h7,
    Kd.R_mono hz1 (fun i hi => .inl ⟨by omega, hi⟩), Kd.R_mono hz2 (fun i hi => .inl ⟨by omega, hi⟩), h11, rfl⟩
  clear hit h2 h3 h6 hx1 hx2 lx1 lx2 h7 hz1 hz2 h8 hn1 hn2 h10 h11 hcb hnum hxs hrf hdone hstop
  refine wp_rangeFunc_iter (gf := 57) (lb := #[.pointer (some ⟨cb, 0, none⟩)]) (Rel := fun x vs S A => ∃ v u, vs = #[v, u] ∧ relT r2 x v u S A) (Z := fun i => i = cb ∨ i < r2) (w0 := wn) (xs := xs) rfl (enters_of Try.func57 (by kernel_rfl) rfl) HIT.out (Below.refl _ _)
    (by rintro x vs S A ⟨v, u, rfl, _⟩; rfl) (by rintro x vs S A l r o ⟨v, u, rfl, h⟩ hl; exact ⟨v, u, rfl, relT_put _ _ _ _ _ _ _ _ _ h hl⟩)
    (fun Y pre A => ResI k num (prB ⟨f0, f1, f2⟩) np xs rf wn r2 r3 b6 b7 b11 Y pre A)
    (fun c Y pre A => c = .ret ∧ rf = none ∧ Y r2 ∧ Y r3 ∧ A.heap[r2]? = some (.cells #[.slice none 0 0] 22 (0, 0)) ∧ A.heap[r3]? = some (.cells #[.int .i64 10] 28 (0, 0)) ∧ KeepS (fun i => i < wn.heap.size ∧ i ≠ b7 ∧ i ≠ b11 ∧ i ≠ r2 ∧ i ≠ r3) wn A)
    (fun Y pre A B h hk => h.step hk) ?hIx (fun i => i = r2 ∨ i = r3 ∨ i = b7 ∨ i = b11) ?Y0 ?hZ hI0
    (fun x vs a' A => ∃ v vu b, vs = #[v, vu] ∧ HasT A b x.2 ∧ a' = { tmps := #[u0, u1, .pointer (some ⟨r2, 0, none⟩), .pointer (some ⟨r3, 0, none⟩), u4, u5, .pointer (some ⟨b6, 0, none⟩), .pointer (some ⟨b7, 0, none⟩), .pointer (some ⟨b8, 0, none⟩), u9, .pointer (some ⟨b10, 0, none⟩), .pointer (some ⟨b11, 0, none⟩), v, .pointer (some ⟨b, 0, none⟩), u14, u15, u16, u17, u18, u19, u20, u21, u22, u23, u24, u25, u26, u27, u28, u29, u30, u31, u32, u33, u34, u35, .func (.func 57) #[] #[.pointer (some ⟨cb, 0, none⟩)], v, vu, u39, u40, u41, u42, u43, u44, u45, u46, u47, u48, u49, u50, u51, u52, u53, u54, u55, u56, u57, u58, u59, u60, u61, u62, u63, u64, u65, u66, u67, u68, u69, u70, u71, u72, u73, u74, u75, u76, u77, u78, u79, u80, u81, u82, u83, u84, u85, u86, u87, u88], defers := [] }) ?hAx ?assign ?body ?done ?stop
  case hIx => exact fun c Y pre A B ⟨h0, h1, h2, h3, h4, h5, h6⟩ hk => ⟨h0, h1, h2, h3, hk.blk h4 (.inr h2), hk.blk h5 (.inr h3), h6.trans (hk.mono (fun i _ hi => .inl hi.1))⟩
  case Y0 => exact fun i hi => ⟨by omega, fun h => by omega⟩
  case hZ => exact fun i hi h => by omega
  case hAx => rintro x vs a' A l r o ⟨v, vu, b, e, hT, ha⟩ hl; exact ⟨v, vu, b, e, hT.put hl o, ha⟩
  case assign =>
    rintro l x vs S A K ⟨v, vu, rfl, h0, v1, v2, rfl, h1, h2⟩ hK
    obtain ⟨B0, d0, rfl⟩ := Kd.R_slice h0
    obtain ⟨B1, d1, rfl⟩ := Kd.R_slice h1
    obtain ⟨B2, d2, rfl⟩ := Kd.R_slice h2
    have hK2 := hK _ (A.alloc (.cells #[.string x.2.f0, .slice B1 x.2.f1.length d1, .slice B2 x.2.f2.length d2] 27)) (below_alloc (Below.refl _ _) _)
      ⟨_, _, rfl, Kd.R_below h0 (below_alloc (Below.refl _ _) _), _, _, rfl, Kd.R_below h1 (below_alloc (Below.refl _ _) _), Kd.R_below h2 (below_alloc (Below.refl _ _) _)⟩
      ⟨_, _, A.heap.size, rfl, ⟨B1, d1, B2, d2, heap_alloc_new _ _, Kd.R_lower (Kd.R_mono (Kd.R_below h1 (below_alloc (Below.refl _ _) _)) (fun _ _ => trivial)) (Nat.zero_le _), Kd.R_lower (Kd.R_mono (Kd.R_below h2 (below_alloc (Below.refl _ _) _)) (fun _ _ => trivial)) (Nat.zero_le _)⟩, rfl⟩
    have HK2 := Aside0.mk hK2
    clear hK hK2 h0 h1 h2
    refine wpIn_seq ?_
    refine wpIn_region_of (r := some l) (by intro a w h; exact h) (by simp) ?_
    go_wp2
    refine wpIn_region_of (r := some l) (by intro a w h; exact h) (by simp) ?_
    go_wp2
    exact HK2.out
  case done =>
    rintro D Y W hD ⟨y2, y3, y7, y11, old, keep, uu, last, V1, q1, V2, q2, vl, hf, h7, hR1, hR2, h11, hl⟩ hK
    rw [List.drop_length, resFold] at hf
    have hf := Option.some.inj hf
    exact HDONE.out D uu V1 q1 V2 q2 W hf.symm hD hK h7 (Kd.R_mono hR1 (fun _ _ => trivial)) (Kd.R_mono hR2 (fun _ _ => trivial)) keep
  case stop =>
    rintro D c Y pre W hD hpre ⟨rfl, hn, y2, y3, h2, h3, hk⟩ hK
    refine wp_ret ?_
    exact HSTOP.out D W hn hD hK h2 h3 hk
  case body =>
    rintro l m Y pre x vs S a' A hpre hI ⟨v, vu, rfl, hv, _⟩ ⟨v', vu', b, e, hT, rfl⟩ hl hlm hm hY hS
    obtain ⟨rfl, rfl⟩ : v = v' ∧ vu = vu' := by simpa using e
    clear e
    obtain ⟨B0, d0, rfl⟩ := Kd.R_slice hv
    obtain ⟨B1, d1, B2, d2, hbx, g1, g2⟩ := hT
    obtain ⟨y2, y3, y7, y11, hold, hkeep, uu, last, V1, q1, V2, q2, vl, hf, h7, hR1, hR2, h11, hl11⟩ := hI
    have hdrop : xs.drop pre.length = x :: xs.drop (pre ++ [x]).length := by
      obtain ⟨tl, rfl⟩ := hpre
      rw [List.append_assoc, List.drop_left]
      simp
    rw [hdrop, resFold] at hf
    obtain ⟨rs, hrs, hf⟩ := Option.bind_eq_some_iff.1 hf
    have x0 : A.cell? ⟨b, 0, none⟩ = some (.string x.2.f0) := (blk_cell hbx 0).trans rfl
    have x1 : A.cell? ⟨b, 1, none⟩ = some (.slice B1 x.2.f1.length d1) := (blk_cell hbx 1).trans rfl
    have x2 : A.cell? ⟨b, 2, none⟩ = some (.slice B2 x.2.f2.length d2) := (blk_cell hbx 2).trans rfl
    have a43 := anaphora_pronoun.calls x.2.f0 B1 d1 x.2.f1 B2 d2 x.2.f2 (prB x.2) A (Kd.R_reads' g1).2.2 (Kd.R_reads' g1).2.1 (Kd.R_reads' g2).2.2 (Kd.R_reads' g2).2.1 (prB_eq x.2)
    have HA := Aside0.mk a43
    have HBX := Aside0.mk hbx
    have HK := Aside0.mk hkeep
    have HF := Aside0.mk hf
    have HRS := Aside0.mk hrs
    have H7 := Aside0.mk h7
    have HR1 := Aside0.mk hR1
    have HR2 := Aside0.mk hR2
    have H11 := Aside0.mk h11
    have HL11 := Aside0.mk hl11
    have HV := Aside0.mk hv
    have HOLD := Aside0.mk hold
    have HYS := Aside0.mk hY
    have HSS := Aside0.mk hS
    clear a43 hbx hkeep hf hrs h7 hR1 hR2 h11 hl11 hv hold g1 g2 hdrop hY hS
    refine wpIn_block ?_
    refine wpIn_seq ?_
    refine wpIn_seq ?_
    refine wpIn_region_of (r := some l) (by rintro a w ⟨Y', h1, h2, h3, h⟩; exact h) (by simp) ?_
    go_wp2_with ((with_reducible refine HA.out.mono ?_); rintro e w3 ⟨rfl, hb3⟩; have HB3 := Aside0.mk hb3; clear hb3)
    obtain ⟨bx, hbx⟩ : ∃ bx, prB x.2 = bx := ⟨_, rfl⟩
    have HP := Aside0.mk hbx
    simp only [hbx]
    clear hbx x0 x1 x2 HA
    have hs3 := HB3.out.size
    cases bx with
    | false =>
      refine wpIn_cond_true rfl ?_
      refine wpIn_exit ?_
      have hrs := HRS.out
      unfold resStep at hrs
      rw [if_pos HP.out] at hrs
      obtain rfl := Option.some.inj hrs
      have hI := ResI.step (rf := rf) ⟨y2, y3, y7, y11, HOLD.out, HK.out, uu, last, V1, q1, V2, q2, vl, HF.out, H7.out, HR1.out, HR2.out, H11.out, HL11.out⟩ (KeepS.of_below HB3.out (fun i hi _ => hi))
      exact ⟨Y, fun i hi => .inl hi, fun i hi => by have := (HYS.out i hi).1; omega, KeepS.of_below HB3.out (fun i hi _ => hi), hI⟩
    | true =>
      refine wpIn_cond_false rfl ?_
      refine wpIn_skip ?_
      refine wpIn_seq ?_
      refine wpIn_seq ?_
      have hz3 : KeepS (fun i => i < wn.heap.size ∧ i ≠ b7 ∧ i ≠ b11) wn w3 := HK.out.trans (KeepS.of_below HB3.out (fun i hi _ => hi))
      have hb8 := hz3.blk H8.out ⟨by omega, by omega, by omega⟩
      have hb10 := hz3.blk H10.out ⟨by omega, by omega, by omega⟩
      have hnr1 := Kd.R_step HN1.out (fun i hi hlt => hz3.block i hlt ⟨hlt, hi.2, by omega⟩)
      have hnr2 := Kd.R_step HN2.out (fun i hi hlt => hz3.block i hlt ⟨hlt, hi.2, by omega⟩)
      have h41 := stands_any k x.2 np num b8 B1 d1 B2 d2 N1 m1 N2 m2 w3 hb8 (Kd.R_reads' hnr1).2.2 (Kd.R_reads' hnr1).2.1 (Kd.R_reads' hnr2).2.2 (Kd.R_reads' hnr2).2.1 HNUM.out
      have z10 : w3.cell? ⟨b10, 0, none⟩ = some (.func (.func 41) #[] #[.pointer (some ⟨b8, 0, none⟩)]) := (blk_cell hb10 0).trans rfl
      have hbx3 := blk_below HBX.out HB3.out
      have z0 : w3.cell? ⟨b, 0, none⟩ = some (.string x.2.f0) := (blk_cell hbx3 0).trans rfl
      have z1 : w3.cell? ⟨b, 1, none⟩ = some (.slice B1 x.2.f1.length d1) := (blk_cell hbx3 1).trans rfl
      have z2 : w3.cell? ⟨b, 2, none⟩ = some (.slice B2 x.2.f2.length d2) := (blk_cell hbx3 2).trans rfl
      have HZ3 := Aside0.mk hz3
      have H41 := Aside0.mk h41
      clear hz3 hb8 hb10 hnr1 hnr2 h41 hbx3 HBX
      refine wpIn_region_of (r := some l) (by rintro a w ⟨Y', h1, h2, h3, h⟩; exact h) (by simp) ?_
      go_wp2_with ((with_reducible refine H41.out.mono ?_); rintro e w4 ⟨rfl, hb4⟩; have HB4 := Aside0.mk hb4; clear hb4)
      have hs4 := HB4.out.size
      have hB34 : Below A.heap.size A w4 := HB3.out.trans (HB4.out.mono hs3)
      have HB34 := Aside0.mk hB34
      obtain ⟨bs, hbs⟩ : ∃ bs, (x.2.f0.toList == num.toList) = bs := ⟨_, rfl⟩
      have HBS := Aside0.mk hbs
      simp only [hbs]
      clear hbs z0 z1 z2 z10 H41 hB34
      cases bs with
      | false =>
        refine wpIn_cond_true rfl ?_
        refine wpIn_seq ?_
        have hrs := HRS.out
        unfold resStep at hrs
        rw [if_neg (by rw [HP.out]; decide), if_pos HBS.out] at hrs
        obtain rfl := Option.some.inj hrs
        have HRFN := Aside0.mk (Option.some.inj HF.out).symm
        have hz4 : KeepS (fun i => i < wn.heap.size ∧ i ≠ b7 ∧ i ≠ b11) wn w4 := HZ3.out.trans (KeepS.of_below HB4.out (fun i hi _ => hi))
        have hb2 := hz4.blk H2.out ⟨by omega, by omega, by omega⟩
        have hb3 := hz4.blk H3.out ⟨by omega, by omega, by omega⟩
        have c2 : w4.cell? ⟨r2, 0, none⟩ = some (.slice none 0 0) := (blk_cell hb2 0).trans rfl
        have c3 : w4.cell? ⟨r3, 0, none⟩ = some (.int .i64 0) := (blk_cell hb3 0).trans rfl
        have f2 := blk_frozen hb2 0
        have f3 := blk_frozen hb3 0
        have HZ4 := Aside0.mk hz4
        have HB2 := Aside0.mk hb2
        have HB3' := Aside0.mk hb3
        clear hz4 hb2 hb3 hrs
        refine wpIn_region_of (r := some l) (by rintro a w ⟨Y', h1, h2, h3, h⟩; exact h) (by simp) ?_
        go_wp2
        refine wpIn_ret ?_
        refine ⟨Y, fun i hi => .inl hi, fun i hi => by have := (HYS.out i hi).1; simp [World.setCell]; omega, ((KeepS.of_below HB34.out (fun i hi _ => hi)).trans (KeepS.set_ _ _ _ (fun h => h.2.1 y2))).trans (KeepS.set_ _ _ _ (fun h => h.2.1 y3)), rfl, HRFN.out, y2, y3, ?_, ?_, ?_⟩
        · exact blk_far (blk_put HB2.out 0 _ rfl) (p := ⟨r3, 0, none⟩) (by show r2 ≠ r3; omega) _
        · exact blk_put (blk_far HB3'.out (p := ⟨r2, 0, none⟩) (by show r3 ≠ r2; omega) _) 0 _ rfl
        · exact ((HZ4.out.mono (fun i _ hi => ⟨hi.1, hi.2.1, hi.2.2.1⟩)).trans (KeepS.set_ _ _ _ (fun h => h.2.2.2.1 rfl))).trans (KeepS.set_ _ _ _ (fun h => h.2.2.2.2 rfl))
      | true =>
        refine wpIn_cond_false rfl ?_
        refine wpIn_skip ?_
        refine wpIn_seq ?_
        refine wpIn_seq ?_
        have hrs := HRS.out
        unfold resStep at hrs
        rw [if_neg (by rw [HP.out]; decide), if_neg (by rw [HBS.out]; decide)] at hrs
        obtain ⟨hh, hhit, hrs⟩ := Option.bind_eq_some_iff.1 hrs
        have hz4 : KeepS (fun i => i < wn.heap.size ∧ i ≠ b7 ∧ i ≠ b11) wn w4 := HZ3.out.trans (KeepS.of_below HB4.out (fun i hi _ => hi))
        have hb6 := hz4.blk H6.out ⟨by omega, by omega, by omega⟩
        have hb11 := blk_below H11.out HB34.out
        have hvl : LastC w4 vl last := by
          have h := HL11.out
          cases last with
          | none => exact h
          | some l =>
            obtain ⟨La, cl, e, hc, hF⟩ := h
            exact ⟨La, cl, e, hc, Kd.F_now (Kd.F_below hF HB34.out)⟩
        have hF1 := Kd.F_step HX1.out (fun i hi hlt => hz4.block i hlt ⟨hlt, by omega, by omega⟩)
        have hF2 := Kd.F_step HX2.out (fun i hi hlt => hz4.block i hlt ⟨hlt, by omega, by omega⟩)
        have hv4 := Kd.R_below HV.out HB34.out
        refine wpIn_drawn_of (r := some l) (by kernel_rfl) (by rintro a w ⟨Y', h1, h2, h3, h⟩; exact h) (by simp) ?_
        refine res_r18_all k ⟨f0, f1, f2⟩ x.1 last hh hhit vl b6 b11 X1 e1 X2 e2 B0 d0 w4 _ _ _ _ _ _ _ _ _ _ _ _ _ _ _ _ _ _ _ _ _ _ _ _ _ _ _ _ _ _ _ _ _ _ _ _ _ _ _ _ _ _ _ _ _ _ _ _ _ _ _ _ _ _ _ _ _ _ _ _ _ _ _ _ _ _ _ _ _ _ _ _ _ _ _ _ _ _ _ _ _ _ _ _ _ _ hb6 hb11 hvl (Kd.F_now hF1) LX1.out (Kd.F_now hF2) LX2.out (Kd.R_reads' hv4).2.1 (Kd.R_reads' hv4).2.2 hk0 _ (fun c a a' w h => h) ?_
        clear hvl hF1 hF2 hb6
        intro x46 x47 x48 x49 x50 x51 x52 x53 x54 x55 x56 x57 x58 x59 x60 x61 x62 x63 x64 x65 x66 x67 x68 x69 x70 w5 hb5
        have HB5 := Aside0.mk hb5
        have HZ4 := Aside0.mk hz4
        have HV4 := Aside0.mk hv4
        have HH := Aside0.mk hrs
        clear hb5 hz4 hv4 hrs hb11 hhit
        have hs5 := HB5.out.size
        have HB35 := Aside0.mk (HB34.out.trans (HB5.out.mono (Nat.le_trans hs3 hs4)))
        cases hh with
        | true =>
          have h := HH.out
          rw [if_pos rfl] at h
          obtain rfl := Option.some.inj h
          refine wpIn_cond_true rfl ?_
          refine wpIn_exit ?_
          have hI := ResI.step (rf := rf) ⟨y2, y3, y7, y11, HOLD.out, HK.out, uu, last, V1, q1, V2, q2, vl, HF.out, H7.out, HR1.out, HR2.out, H11.out, HL11.out⟩ (KeepS.of_below HB35.out (fun i hi _ => hi))
          exact ⟨Y, fun i hi => .inl hi, fun i hi => by have := (HYS.out i hi).1; omega, KeepS.of_below HB35.out (fun i hi _ => hi), hI⟩
        | false =>
          have h := HH.out
          rw [if_neg (by decide)] at h
          obtain ⟨⟨r1, r2', r3', r4⟩, hrep, h⟩ := Option.bind_eq_some_iff.1 h
          obtain rfl := Option.some.inj h
          have hz5 : KeepS (fun i => i < wn.heap.size ∧ i ≠ b7 ∧ i ≠ b11) wn w5 := HZ4.out.trans (KeepS.of_below HB5.out (fun i hi _ => hi))
          have hb7 := blk_below H7.out HB35.out
          have hb8 := hz5.blk H8.out ⟨by omega, by omega, by omega⟩
          have hu1 := Kd.R_below HR1.out HB35.out
          have hu2 := Kd.R_below HR2.out HB35.out
          have hn1 := Kd.R_step HN1.out (fun i hi hlt => hz5.block i hlt ⟨hlt, hi.2, by omega⟩)
          have hn2 := Kd.R_step HN2.out (fun i hi hlt => hz5.block i hlt ⟨hlt, hi.2, by omega⟩)
          have hv5 := Kd.R_below HV4.out HB5.out
          have a45 := abstract_Replace.calls k uu.f0 V1 q1 uu.f1 V2 q2 uu.f2 B0 d0 x.1 np.f0 N1 m1 np.f1 N2 m2 np.f2 r1 r2' r3' r4 w5 (Kd.R_reads' hu1).2.2 (Kd.R_reads' hu1).2.1 (Kd.R_reads' hu2).2.2 (Kd.R_reads' hu2).2.1 (Kd.R_reads' hv5).2.2 (Kd.R_reads' hv5).2.1 (Kd.R_reads' hn1).2.2 (Kd.R_reads' hn1).2.1 (Kd.R_reads' hn2).2.2 (Kd.R_reads' hn2).2.1 hrep
          have z0 : w5.cell? ⟨b7, 0, none⟩ = some (.string uu.f0) := (blk_cell hb7 0).trans rfl
          have z1 : w5.cell? ⟨b7, 1, none⟩ = some (.slice V1 uu.f1.length q1) := (blk_cell hb7 1).trans rfl
          have z2 : w5.cell? ⟨b7, 2, none⟩ = some (.slice V2 uu.f2.length q2) := (blk_cell hb7 2).trans rfl
          have z3 : w5.cell? ⟨b8, 0, none⟩ = some (.string np.f0) := (blk_cell hb8 0).trans rfl
          have z4 : w5.cell? ⟨b8, 1, none⟩ = some (.slice N1 np.f1.length m1) := (blk_cell hb8 1).trans rfl
          have z5 : w5.cell? ⟨b8, 2, none⟩ = some (.slice N2 np.f2.length m2) := (blk_cell hb8 2).trans rfl
          have HB7 := Aside0.mk hb7
          have HB11 := Aside0.mk (blk_below H11.out HB35.out)
          have HZ5 := Aside0.mk hz5
          have HV5 := Aside0.mk hv5
          have A45 := Aside0.mk a45
          clear hz5 hb7 hb8 hu1 hu2 hn1 hn2 hv5 a45 hrep h
          refine wpIn_cond_false rfl ?_
          refine wpIn_skip ?_
          refine wpIn_seq ?_
          refine wpIn_region_of (r := some l) (by rintro a w ⟨Y', h1, h2, h3, h⟩; exact h) (by simp) ?_
          go_wp2_with ((with_reducible refine A45.out.mono ?_); rintro e w6 ⟨v1, v2, rfl, hv1, hv2, hb6⟩; obtain ⟨P1, s1, rfl⟩ := Kd.R_slice hv1; obtain ⟨P2, s2, rfl⟩ := Kd.R_slice hv2; have HV1 := Aside0.mk hv1; have HV2 := Aside0.mk hv2; have HB6 := Aside0.mk hb6; have hb7 := blk_below HB7.out hb6; have f0_ := blk_frozen hb7 0; have f1_ := blk_frozen hb7 1; have f2_ := blk_frozen hb7 2; have c0_ : w6.cell? ⟨b7, 0, none⟩ = some (.string uu.f0) := (blk_cell hb7 0).trans rfl; have c1_ : w6.cell? ⟨b7, 1, none⟩ = some (.slice V1 uu.f1.length q1) := (blk_cell hb7 1).trans rfl; have c2_ : w6.cell? ⟨b7, 2, none⟩ = some (.slice V2 uu.f2.length q2) := (blk_cell hb7 2).trans rfl; clear hv1 hv2 hb6 hb7 z0 z1 z2 z3 z4 z5)
          have hl6 := blk_lt (blk_below HB7.out HB6.out)
          have hs6 := HB6.out.size
          obtain ⟨w7, hw7⟩ : ∃ w7, ((w6.setCell ⟨b7, 0, none⟩ (.string r1)).setCell ⟨b7, 1, none⟩ (.slice P1 r2'.length s1)).setCell ⟨b7, 2, none⟩ (.slice P2 r3'.length s2) = w7 := ⟨_, rfl⟩
          have hk67 : KeepS (fun i => i ≠ b7) w6 w7 := by rw [← hw7]; exact ((KeepS.set_ _ _ _ (fun h => h rfl)).trans (KeepS.set_ _ _ _ (fun h => h rfl))).trans (KeepS.set_ _ _ _ (fun h => h rfl))
          have hc7 : w7.heap[b7]? = some (.cells #[.string r1, .slice P1 r2'.length s1, .slice P2 r3'.length s2] 27 (0, 0)) := by
            rw [← hw7]
            exact blk_put (cs := #[.string r1, .slice P1 r2'.length s1, .slice V2 uu.f2.length q2]) (blk_put (cs := #[.string r1, .slice V1 uu.f1.length q1, .slice V2 uu.f2.length q2]) (blk_put (cs := #[.string uu.f0, .slice V1 uu.f1.length q1, .slice V2 uu.f2.length q2]) (blk_below HB7.out HB6.out) 0 _ rfl) 1 _ rfl) 2 _ rfl
          have hz7 : w7.heap.size = w6.heap.size := by rw [← hw7]; simp [World.setCell]
          rw [hw7]
          clear hw7
          have hb11 := hk67.blk (blk_below HB11.out HB6.out) (by omega)
          have c11 : w7.cell? ⟨b11, 0, none⟩ = some vl := (blk_cell hb11 0).trans rfl
          have f11 := blk_frozen hb11 0
          have HB12 := Aside0.mk hb11
          have HC7 := Aside0.mk hc7
          have HK67 := Aside0.mk hk67
          have HZ7 := Aside0.mk hz7
          clear hb11 hc7 hk67 hz7
          refine wpIn_region_of (r := some l) (by rintro a w ⟨Y', h1, h2, h3, h⟩; exact h) (by simp) ?_
          go_wp2
          have hsz := HZ7.out
          have hk78 : KeepS (fun i => i ≠ b11) w7 (w7.setCell ⟨b11, 0, none⟩ (.slice B0 x.1.length d0)) := KeepS.set_ _ _ _ (fun h => h rfl)
          have hz8 : (w7.setCell ⟨b11, 0, none⟩ (.slice B0 x.1.length d0)).heap.size = w7.heap.size := by simp [World.setCell]
          have hc11 : (w7.setCell ⟨b11, 0, none⟩ (.slice B0 x.1.length d0)).heap[b11]? = some (.cells #[.slice B0 x.1.length d0] 25 (0, 0)) := blk_put HB12.out 0 _ rfl
          generalize w7.setCell ⟨b11, 0, none⟩ (.slice B0 x.1.length d0) = w8 at hk78 hz8 hc11 ⊢
          have hk68 : KeepS (fun i => i ≠ b7 ∧ i ≠ b11) w6 w8 := (HK67.out.mono (fun i _ h => h.1)).trans (hk78.mono (fun i _ h => h.2))
          have hkA : KeepS (fun i => i < m ∧ ¬ Y i ∧ ¬ S i) A w8 := ((KeepS.of_below HB35.out (fun i hi _ => hi)).trans (KeepS.of_below HB6.out (fun i hi _ => by have h := hi; omega))).trans (hk68.mono (fun i _ h => ⟨fun e => h.2.1 (e ▸ y7), fun e => h.2.1 (e ▸ y11)⟩))
          refine ⟨fun i => (Y i ∨ S i ∨ m ≤ i) ∧ i < w8.heap.size, fun i h => h.1, fun i h => h.2, hkA, ⟨.inl y2, ?_⟩, ⟨.inl y3, ?_⟩, ⟨.inl y7, ?_⟩, ⟨.inl y11, ?_⟩, ?_, ?_, ⟨r1, r2', r3'⟩, some x.1, P1, s1, P2, s2, _, HF.out, hk78.blk HC7.out (by omega), ?_, ?_, hc11, B0, d0, rfl, ?_, ?_⟩
          · have := (HYS.out r2 y2).1; omega
          · have := (HYS.out r3 y3).1; omega
          · have := (HYS.out b7 y7).1; omega
          · have := (HYS.out b11 y11).1; omega
          · rintro i ⟨h | h | h, _⟩ hlt
            · exact HOLD.out i h hlt
            · have := (HSS.out i h).1; omega
            · omega
          · exact (HZ5.out.trans (KeepS.of_below HB6.out (fun i hi _ => hi))).trans (hk68.mono (fun i _ h => h.2))
          · refine Kd.R_mono (Kd.R_lower (Kd.R_bound (Kd.R_step (Kd.R_mono (Kd.R_bound HV1.out) (ok' := fun i => w5.heap.size ≤ i ∧ i < w6.heap.size) (fun i hi => ⟨hi.2.1, hi.2.2.1⟩)) (fun i hi hlt => hk68.block i hlt ⟨by omega, by omega⟩))) (base' := b6) (by omega)) (fun i hi => .inr ⟨by have := hi.1.1; omega, .inr (.inr (by have := hi.1.1; omega)), by have := hi.1.2; omega⟩)
          · refine Kd.R_mono (Kd.R_lower (Kd.R_bound (Kd.R_step (Kd.R_mono (Kd.R_bound HV2.out) (ok' := fun i => w5.heap.size ≤ i ∧ i < w6.heap.size) (fun i hi => ⟨hi.2.1, hi.2.2.1⟩)) (fun i hi hlt => hk68.block i hlt ⟨by omega, by omega⟩))) (base' := b6) (by omega)) (fun i hi => .inr ⟨by have := hi.1.1; omega, .inr (.inr (by have := hi.1.1; omega)), by have := hi.1.2; omega⟩)
          · exact (Kd.R_reads' HV5.out).2.1
          · refine Kd.F_mono (Kd.F_step (Kd.F_below (Kd.F_bound (Kd.R_F HV5.out)) HB6.out) (fun i hi hlt => hk68.block i hlt ⟨fun e => (HSS.out i hi.1).2.2.1 (e ▸ y7), fun e => (HSS.out i hi.1).2.2.1 (e ▸ y11)⟩)) (fun i hi => ⟨(HSS.out i hi.1).1, .inr (.inl hi.1), by have := hi.2; omega⟩)
/-- The marks that loops over functions leave on a frame. -/
def Marks (base : Nat) : List Deferred → World → Prop
  | [], _ => True
  | d :: ds, w => (∃ D, d = { target := .collected D, args := #[] } ∧ base ≤ D ∧ w.heap[D]? = some (.deferred (some [])) ∧ ∀ d' ∈ ds, d' ≠ d) ∧ Marks base ds w
theorem Marks.below {base : Nat} : ∀ {ds : List Deferred} {w w' : World}, Marks base ds w → Below w.heap.size w w' → Marks base ds w'
  | [], _, _, _, _ => trivial
  | _ :: _, _, _, ⟨⟨D, h1, h2, h3, h4⟩, h⟩, hb => ⟨⟨D, h1, h2, blk_below h3 hb, h4⟩, h.below hb⟩
theorem Marks.put {base : Nat} {D : Nat} {o : Obj} : ∀ {ds : List Deferred} {w : World}, Marks base ds w → (∀ d ∈ ds, d ≠ { target := .collected D, args := #[] }) → Marks base ds (w.putObj D o)
  | [], _, _, _ => trivial
  | d :: ds, w, ⟨⟨D', h1, h2, h3, h4⟩, h⟩, hn => ⟨⟨D', h1, h2, (World.putObj_heap_other (fun e => hn d (by simp) (by rw [h1, e]))).trans h3, h4⟩, h.put (fun d' hd => hn d' (by simp [hd]))⟩
theorem Marks.set {base : Nat} {p : Addr} : ∀ {ds : List Deferred} {w : World}, Marks base ds w → p.block < base → ∀ v : Value, Marks base ds (w.setCell p v)
  | [], _, _, _, _ => trivial
  | _ :: _, _, ⟨⟨D, h1, h2, h3, h4⟩, h⟩, hp, v => ⟨⟨D, h1, h2, (Below.heap_setCell _ _ _ _ (by omega)).trans h3, h4⟩, h.set hp v⟩
theorem Marks.lt {base : Nat} : ∀ {ds : List Deferred} {w : World}, Marks base ds w → ∀ d ∈ ds, ∃ D, d = { target := .collected D, args := #[] } ∧ base ≤ D ∧ D < w.heap.size ∧ w.heap[D]? = some (.deferred (some []))
  | [], _, _, d, hd => by simp at hd
  | d0 :: ds, w, ⟨⟨D', h1, h2, h3, h4⟩, h⟩, d, hd => by
    rcases List.mem_cons.1 hd with rfl | hd
    · exact ⟨D', h1, h2, blk_lt h3, h3⟩
    · exact h.lt d hd
theorem Marks.step {base : Nat} : ∀ {ds : List Deferred} {w w' : World}, Marks base ds w → (∀ D, { target := .collected D, args := #[] } ∈ ds → D < w.heap.size → w'.heap[D]? = w.heap[D]?) → Marks base ds w'
  | [], _, _, _, _ => trivial
  | d :: ds, w, w', ⟨⟨D, h1, h2, h3, h4⟩, h⟩, hk => ⟨⟨D, h1, h2, (hk D (by rw [← h1]; exact List.mem_cons_self) (blk_lt h3)).trans h3, h4⟩, h.step (fun D hD => hk D (List.mem_cons_of_mem _ hD))⟩
theorem leavesM_marks {P : Program} {fn : Func} {tmps : Array Value} {R : Ending → World → Prop} {base : Nat} {v : Value} {ds0 : List Deferred} (T : World → Prop) (hT : ∀ w D, T w → base ≤ D → { target := .collected D, args := #[] } ∈ ds0 → T (w.putObj D (.deferred none)))
    (hend : ∀ w, T w → (results fn tmps).run P w = .ok v w ∧ R (.returned v) w) : ∀ ds w, (∀ d ∈ ds, d ∈ ds0) → Marks base ds w → T w → LeavesInM Fence.wide 0 P fn tmps R ds .returning w
  | [], w, _, _, ht => leavesM_nil (hend w ht).1 (hend w ht).2
  | d :: ds, w, hm, ⟨⟨D, h1, h2, h3, h4⟩, h⟩, ht => by
    subst h1
    exact leavesM_mark h3 (leavesM_marks T hT hend ds _ (fun d hd => hm d (List.mem_cons_of_mem _ hd)) (h.put h4) (hT w D ht h2 (hm _ List.mem_cons_self)))
theorem R_putDef {α : Type} {d : Kd α} {e N : Nat} {xs : List α} {v : Value} {S : Nat → Prop} {A : World} (h : d.R e A N S v xs) {l : Nat} {r : Option (List Deferred)} (hl : A.heap[l]? = some (.deferred r)) (o : Obj) : d.R e (World.putObj A l o) N S v xs := by
  refine Kd.R_mono (Kd.R_move (Kd.R_bound h) (fun k hk => World.putObj_heap_other ?_)) (fun k hk => hk.1)
  obtain ⟨_, _, _, q, _, cells, hc⟩ := hk
  rintro rfl
  rw [hl] at hc
  cases hc
/-- What a notice's rows may lead to: what is new, and no mark. -/
def okD (w : World) (ds : List Deferred) (q : Nat) : Prop := w.heap.size + 2 ≤ q ∧ ∀ d ∈ ds, d ≠ { target := .collected q, args := #[] }
theorem okD_of {w W : World} {ds : List Deferred} {q : Nat} {t : TypeId} {cells : Array Value} (hM : Marks (w.heap.size + 2) ds W) (h2 : w.heap.size + 2 ≤ q) (hc : W.heap[q]? = some (.cells cells t (0, 0))) : okD w ds q := by
  refine ⟨h2, fun d hd he => ?_⟩
  obtain ⟨D, e, _, _, hD⟩ := hM.lt d hd
  rw [he] at e
  have : q = D := by injection e with e1 _; injection e1
  rw [this, hD] at hc
  cases hc
theorem okD_new {w W : World} {ds : List Deferred} {q : Nat} (hM : Marks (w.heap.size + 2) ds W) (h2 : w.heap.size + 2 ≤ W.heap.size) (hq : W.heap.size ≤ q) : okD w ds q := by
  refine ⟨by omega, fun d hd he => ?_⟩
  obtain ⟨D, e, _, hlt, _⟩ := hM.lt d hd
  rw [he] at e
  have : q = D := by injection e with e1 _; injection e1
  omega
def ResPost (w : World) (xs : List S27) (r2 : Int) (e : Ending) (w' : World) : Prop := ∃ v1_ : Value, e = .returned (.tuple #[v1_, .int .i64 r2]) ∧ Kd.N k27 27 w' w.heap.size (fun k_ => w.heap.size ≤ k_) v1_ xs ∧ Below w.heap.size w w'
theorem res_leave (w : World) (tmps : Array Value) (ds : List Deferred) (wl : World) (v : Value) (xs : List S27) (r2 : Int) (h2 : tmps.getD 2 undef = .pointer (some ⟨w.heap.size, 0, none⟩)) (h3 : tmps.getD 3 undef = .pointer (some ⟨w.heap.size + 1, 0, none⟩))
    (hb2 : wl.heap[w.heap.size]? = some (.cells #[v] 22 (0, 0))) (hb3 : wl.heap[w.heap.size + 1]? = some (.cells #[.int .i64 r2] 28 (0, 0))) (hN : Kd.N k27 27 wl w.heap.size (okD w ds) v xs) (hB : Below w.heap.size w wl) (hM : Marks (w.heap.size + 2) ds wl) :
    bodyPostM Fence.wide 0 Try.prog Try.f17 (ResPost w xs r2) Exit.ret { tmps, defers := ds } wl := by
  refine leavesM_marks (ds0 := ds) (v := .tuple #[v, .int .i64 r2]) (fun W => W.heap[w.heap.size]? = some (.cells #[v] 22 (0, 0)) ∧ W.heap[w.heap.size + 1]? = some (.cells #[.int .i64 r2] 28 (0, 0)) ∧ Kd.N k27 27 W w.heap.size (okD w ds) v xs ∧ Below w.heap.size w W) ?_ ?_ ds wl (fun _ h => h) hM ⟨hb2, hb3, hN, hB⟩
  · rintro W D ⟨k2, k3, kN, kB⟩ hD hm
    exact ⟨(World.putObj_heap_other (by omega)).trans k2, (World.putObj_heap_other (by omega)).trans k3, Kd.N_step kN (fun q hq _ => World.putObj_heap_other (by rintro rfl; exact hq.2 _ hm rfl)), below_putObj kB (by omega) _⟩
  · rintro W ⟨k2, k3, kN, kB⟩
    have c2 : W.cell? ⟨w.heap.size, 0, none⟩ = some v := (blk_cell k2 0).trans rfl
    have c3 : W.cell? ⟨w.heap.size + 1, 0, none⟩ = some (.int .i64 r2) := (blk_cell k3 0).trans rfl
    have h2' : tmps[2]?.getD undef = .pointer (some ⟨w.heap.size, 0, none⟩) := by simpa using h2
    have h3' : tmps[3]?.getD undef = .pointer (some ⟨w.heap.size + 1, 0, none⟩) := by simpa using h3
    exact ⟨by simp [results, Try.results17, h2', h3', c2, c3, go_sem], v, rfl, Kd.N_mono kN (fun q hq => by have := hq.1; omega), kB⟩
set_option maxHeartbeats 16000000 in
set_option maxRecDepth 100000 in
theorem anaphora_Resolve.calls (k : Nat) (A0 : Option Addr) (c0 : Nat) (l0 : List S27) (r1 : List S27) (r2 : Int) (w : World) (hr0 : Kd.C k27 w A0 l0.length l0) (hc0 : l0.length ≤ c0) (h : anaphora_Resolve.f k l0 = some (r1, r2)) :
    Calls Try.prog 17 #[.slice A0 l0.length c0] w fun e w' => ∃ v1_ : Value, e = .returned (.tuple #[v1_, .int .i64 r2]) ∧ Kd.N k27 27 w' w.heap.size (fun k_ => w.heap.size ≤ k_) v1_ r1 ∧ Below w.heap.size w w' := by
  show Calls Try.prog 17 #[.slice A0 l0.length c0] w (ResPost w r1 r2)
  unfold anaphora_Resolve.f at h
  by_cases hl : l0.length ≤ 1000000
  case neg => rw [if_neg hl] at h; cases h
  rw [if_pos hl] at h
  have hu27 := Try.underlying27
  have HF0 := Aside0.mk (Kd.C_F k27_heap hr0)
  have HC0 := Aside0.mk hc0
  have HH := Aside0.mk h
  have HL := Aside0.mk hl
  clear hr0 hc0 h hl
  refine calls_of_wp_marks Try.func17 rfl ?_
  simp only [Try.ntmps17, List.size_toArray, List.length_cons, List.length_nil, Nat.reduceAdd, Nat.reduceSub, Array.replicate_succ, Array.replicate_zero, List.push_toArray, List.append_toArray, List.nil_append, List.cons_append]
  go_upto_region 3 with (fail)
  have hb2 : ((w.alloc (.cells #[.slice none 0 0] 22)).alloc (.cells #[.int .i64 0] 28)).heap[w.heap.size]? = some (.cells #[.slice none 0 0] 22 (0, 0)) := blk_alloc (heap_alloc_new _ _) _
  have hb3 : ((w.alloc (.cells #[.slice none 0 0] 22)).alloc (.cells #[.int .i64 0] 28)).heap[w.heap.size + 1]? = some (.cells #[.int .i64 0] 28 (0, 0)) := by
    have h := heap_alloc_new (w.alloc (.cells #[.slice none 0 0] 22)) (.cells #[.int .i64 0] 28)
    rwa [World.size_alloc] at h
  have hbb : Below w.heap.size w ((w.alloc (.cells #[.slice none 0 0] 22)).alloc (.cells #[.int .i64 0] 28)) := below_alloc (below_alloc (Below.refl _ _) _) _
  generalize (w.alloc (.cells #[.slice none 0 0] 22)).alloc (.cells #[.int .i64 0] 28) = w1 at hb2 hb3 hbb ⊢
  have HB2 := Aside0.mk hb2
  have HB3 := Aside0.mk hb3
  have HBB := Aside0.mk hbb
  clear hb2 hb3 hbb
  refine wp_loop_ghost (fun n a wl => ∃ (j : Nat) (acc : List S27) (v4 : Value) (ds : List Deferred) (u5 u6 u7 u8 u9 u10 u11 u12 u13 u17 u18 u19 u20 u21 u22 u23 u24 u25 u26 u27 u28 u29 u30 u31 u32 u33 u34 u35 u36 u37 u38 u39 u40 u41 u42 u43 u44 u45 u46 u47 u48 u49 u50 u51 u52 u53 u54 u55 u56 u57 u58 u59 u60 u61 u62 u63 u64 u65 u66 u67 u68 u69 u70 u71 u72 u73 u74 u75 u76 u77 u78 u79 u80 u81 u82 u83 u84 u85 u86 u87 u88 : Value), a = { tmps := #[.slice A0 l0.length c0, undef, .pointer (some ⟨w.heap.size, 0, none⟩), .pointer (some ⟨w.heap.size + 1, 0, none⟩), v4, u5, u6, u7, u8, u9, u10, u11, u12, u13, .slice A0 l0.length c0, .int .i64 (l0.length : Int), .int .i64 (j : Int), u17, u18, u19, u20, u21, u22, u23, u24, u25, u26, u27, u28, u29, u30, u31, u32, u33, u34, u35, u36, u37, u38, u39, u40, u41, u42, u43, u44, u45, u46, u47, u48, u49, u50, u51, u52, u53, u54, u55, u56, u57, u58, u59, u60, u61, u62, u63, u64, u65, u66, u67, u68, u69, u70, u71, u72, u73, u74, u75, u76, u77, u78, u79, u80, u81, u82, u83, u84, u85, u86, u87, u88], defers := ds } ∧ n = l0.length - j ∧ Aside0 (resL k l0 (l0.drop j) j acc = some (r1, r2)) ∧ Aside0 (j ≤ l0.length ∧ acc.length = j) ∧ Aside0 (Kd.N k27 27 wl w.heap.size (okD w ds) v4 acc) ∧ Aside0 (wl.heap[w.heap.size]? = some (.cells #[.slice none 0 0] 22 (0, 0))) ∧ Aside0 (wl.heap[w.heap.size + 1]? = some (.cells #[.int .i64 0] 28 (0, 0))) ∧ Aside0 (Below w.heap.size w wl) ∧ Aside0 (Marks (w.heap.size + 2) ds wl)) l0.length ?start ?round
  case start => exact ⟨0, [], .slice none 0 0, [], undef, undef, undef, undef, undef, undef, undef, undef, undef, undef, undef, undef, undef, undef, undef, undef, undef, undef, undef, undef, undef, undef, undef, undef, undef, undef, undef, undef, undef, undef, undef, undef, undef, undef, undef, undef, undef, undef, undef, undef, undef, undef, undef, undef, undef, undef, undef, undef, undef, undef, undef, undef, undef, undef, undef, undef, undef, undef, undef, undef, undef, undef, undef, undef, undef, undef, undef, undef, undef, undef, undef, undef, undef, undef, undef, undef, undef, undef, undef, undef, undef, rfl, rfl, HH, ⟨Nat.zero_le _, rfl⟩, ⟨Kd.N_nil _ _ _ _ _⟩, HB2, HB3, HBB, ⟨trivial⟩⟩
  case round =>
    clear HB2 HB3 HBB HH
    rintro n a wl ⟨j, acc, v4, ds, u5, u6, u7, u8, u9, u10, u11, u12, u13, u17, u18, u19, u20, u21, u22, u23, u24, u25, u26, u27, u28, u29, u30, u31, u32, u33, u34, u35, u36, u37, u38, u39, u40, u41, u42, u43, u44, u45, u46, u47, u48, u49, u50, u51, u52, u53, u54, u55, u56, u57, u58, u59, u60, u61, u62, u63, u64, u65, u66, u67, u68, u69, u70, u71, u72, u73, u74, u75, u76, u77, u78, u79, u80, u81, u82, u83, u84, u85, u86, u87, u88, rfl, rfl, HR, HJ, HN, HB2, HB3, HB, HM⟩
    have hj0 := HJ.out.1
    by_cases hj : j < l0.length
    case neg =>
      have he : j = l0.length := by omega
      subst he
      have hr := HR.out
      rw [List.drop_length, resL] at hr
      simp only [Option.some.injEq, Prod.mk.injEq] at hr
      obtain ⟨rfl, rfl⟩ := hr
      have c2 : wl.cell? ⟨w.heap.size, 0, none⟩ = some (.slice none 0 0) := (blk_cell HB2.out 0).trans rfl
      have c3 : wl.cell? ⟨w.heap.size + 1, 0, none⟩ = some (.int .i64 0) := (blk_cell HB3.out 0).trans rfl
      have f2 := blk_frozen HB2.out 0
      have f3 := blk_frozen HB3.out 0
      obtain ⟨Av, cv, rfl⟩ := Kd.N_slice HN.out
      clear hj hj0 HR HJ
      go_wp2
      exact res_leave w _ ds _ (.slice Av acc.length cv) acc 0 rfl rfl ((Below.heap_setCell _ _ _ _ (by show w.heap.size ≠ w.heap.size + 1; omega)).trans (blk_put HB2.out 0 _ rfl)) (blk_put ((Below.heap_setCell _ _ _ _ (by show w.heap.size + 1 ≠ w.heap.size; omega)).trans HB3.out) 0 _ rfl)
        (Kd.N_far (Kd.N_far HN.out (fun q hq => by have := hq.1; simp only []; omega) _) (fun q hq => by have := hq.1; simp only []; omega) _) (below_set (below_set HB.out (by omega)) (by omega)) ((HM.out.set (by show w.heap.size < w.heap.size + 2; omega) _).set (by show w.heap.size + 1 < w.heap.size + 2; omega) _)
    case pos =>
      have hd : l0.drop j = l0[j] :: l0.drop (j + 1) := List.drop_eq_getElem_cons hj
      obtain ⟨t, ht⟩ : ∃ t, l0[j] = t := ⟨_, rfl⟩
      rw [ht] at hd
      have hr := HR.out
      rw [hd, resL] at hr
      obtain ⟨ro, hro, hrl⟩ := Option.bind_eq_some_iff.1 hr
      have hgd : l0.getD j z27 = t := by rw [List.getD_eq_getElem?_getD, List.getElem?_eq_getElem hj, ht]; rfl
      obtain ⟨ak, cs, hA0, _, hFK, hcs, _⟩ := Kd.F_get (Kd.F_step HF0.out (fun q hq hlt => HB.out.block q hlt)) z27 (j : Int) (by omega) (by omega)
      rw [Int.toNat_natCast, hgd] at hFK
      rw [Int.toNat_natCast] at hcs
      obtain ⟨X1, e1, X2, e2, rfl, q1, f1, q2, f2⟩ := k27_openF hFK
      have hAk : A0 = some ak := hA0
      have k0 : wl.cell? (ak.add (j * 3)) = some (.string t.f0) := hcs 0 _ rfl
      have k1 : wl.cell? ⟨(ak.add (j * 3)).block, (ak.add (j * 3)).off + 1, none⟩ = some (.slice X1 t.f1.length e1) := by rw [← add_field _ _ 1 (by omega)]; exact hcs 1 _ rfl
      have k2 : wl.cell? ⟨(ak.add (j * 3)).block, (ak.add (j * 3)).off + 2, none⟩ = some (.slice X2 t.f2.length e2) := by rw [← add_field _ _ 2 (by omega)]; exact hcs 2 _ rfl
      subst hAk
      unfold resOne at hro
      obtain ⟨u, hu, hro⟩ := Option.bind_eq_some_iff.1 hro
      obtain ⟨pn, hpn, hro⟩ := Option.bind_eq_some_iff.1 hro
      obtain ⟨mid, hmid, hsz⟩ := Option.bind_eq_some_iff.1 hro
      have hj1 : (0 : Int) ≤ (j : Int) := by omega
      have hj2 : (j : Int) < (l0.length : Int) := by omega
      have hbt := below_alloc (Below.refl wl.heap.size wl) (.cells #[.string t.f0, .slice X1 t.f1.length e1, .slice X2 t.f2.length e2] 27)
      have B6 := Aside0.mk (heap_alloc_new wl (.cells #[.string t.f0, .slice X1 t.f1.length e1, .slice X2 t.f2.length e2] 27))
      have F1 := Aside0.mk (Kd.F_below (Kd.F_bound f1) hbt)
      have F2 := Aside0.mk (Kd.F_below (Kd.F_bound f2) hbt)
      have Q1 := Aside0.mk q1
      have Q2 := Aside0.mk q2
      have HU := Aside0.mk hu
      have HPN := Aside0.mk hpn
      have HMID := Aside0.mk hmid
      have HSZ := Aside0.mk hsz
      have HRL := Aside0.mk hrl
      have HBT := Aside0.mk hbt
      clear f1 f2 q1 q2 hu hpn hmid hsz hrl hr hro hd ht hgd hFK hcs HR hbt
      go_upto_region 5 with (fail)
      generalize wl.alloc (.cells #[.string t.f0, .slice X1 t.f1.length e1, .slice X2 t.f2.length e2] 27) = w4 at B6 F1 F2 HBT ⊢
      have c0 : w4.cell? ⟨wl.heap.size, 0, none⟩ = some (.string t.f0) := (blk_cell B6.out 0).trans rfl
      have c1 : w4.cell? ⟨wl.heap.size, 1, none⟩ = some (.slice X1 t.f1.length e1) := (blk_cell B6.out 1).trans rfl
      have c2 : w4.cell? ⟨wl.heap.size, 2, none⟩ = some (.slice X2 t.f2.length e2) := (blk_cell B6.out 2).trans rfl
      have hc38 := anaphora_clone.calls k t.f0 X1 e1 t.f1 X2 e2 t.f2 u.1 u.2.1 u.2.2 w4 (Kd.F_now F1.out) Q1.out (Kd.F_now F2.out) Q2.out HU.out
      clear k0 k1 k2
      go_upto_region 6 with (first | (go_at_call 38; refine hc38.mono ?_; rintro e w5 ⟨y1, y2, rfl, hy1, hy2, hb5⟩; obtain ⟨Y1, d1, rfl⟩ := Kd.R_slice hy1; obtain ⟨Y2, d2, rfl⟩ := Kd.R_slice hy2; have HY1 := Aside0.mk hy1; have HY2 := Aside0.mk hy2; have HB5 := Aside0.mk hb5; clear hy1 hy2 hb5 hc38 c0 c1 c2))
      have hs1 := HB.out.size
      have hs4 := HBT.out.size
      have hs5 := HB5.out.size
      have b6 := blk_below B6.out HB5.out
      have hbu := below_alloc (Below.refl w5.heap.size w5) (.cells #[.string u.1, .slice Y1 u.2.1.length d1, .slice Y2 u.2.2.length d2] 27)
      have B7 := Aside0.mk (heap_alloc_new w5 (.cells #[.string u.1, .slice Y1 u.2.1.length d1, .slice Y2 u.2.2.length d2] 27))
      have B6b := Aside0.mk (blk_below b6 hbu)
      have HBW := Aside0.mk (HBT.out.trans ((HB5.out.trans (hbu.mono hs5)).mono hs4))
      have R1 := Aside0.mk (Kd.R_lower (Kd.R_below HY1.out hbu) hs4)
      have R2 := Aside0.mk (Kd.R_lower (Kd.R_mono (Kd.R_below HY2.out hbu) (ok' := fun _ => True) (fun _ _ => trivial)) hs4)
      generalize w5.alloc (.cells #[.string u.1, .slice Y1 u.2.1.length d1, .slice Y2 u.2.2.length d2] 27) = w6 at B6b B7 HBW R1 R2 hbu ⊢
      have hsw := HBW.out.size
      have b2 := blk_lt HB2.out
      have b3 := blk_lt HB3.out
      have HL4 := Aside0.mk (Kd.N_lt HN.out)
      rename_i K24 a24 K21 a21 Kc ac
      have hrest : ∀ (x : S27) (Z1 : Option Addr) (g1 : Nat) (Z2 : Option Addr) (g2 : Nat) (b7 : Nat) (wz : World) (dz : List Deferred) (u5 u6 u8 u9 u10 u11 u12 u13 u17 u18 u19 u20 u21 u22 u23 u24 u25 u26 u27 u28 u29 u30 u31 u32 u33 u34 u35 u36 u37 u38 u39 u40 u41 u42 u43 u44 u45 u46 u47 u48 u49 u50 u51 u52 u53 u54 u55 u56 u57 u58 u59 u60 u61 u62 u63 u64 u65 u66 u67 u68 u69 u70 u71 u72 u73 u74 u75 u76 u77 u78 u79 u80 u81 u82 u83 u84 u85 u86 u87 u88 : Value), Aside0 (mid = (0, x)) → Aside0 (wz.heap[b7]? = some (.cells #[.string x.f0, .slice Z1 x.f1.length g1, .slice Z2 x.f2.length g2] 27 (0, 0))) →
          Aside0 (Kd.R (Kd.int .i64) 3 wz wl.heap.size (fun _ => True) (.slice Z1 x.f1.length g1) x.f1) → Aside0 (Kd.R k27 27 wz wl.heap.size (fun _ => True) (.slice Z2 x.f2.length g2) x.f2) → Aside0 (Below wl.heap.size wl wz) → Aside0 (Marks (w.heap.size + 2) dz wz) → Aside0 (∀ q, q < wl.heap.size → ∀ d ∈ dz, d = { target := .collected q, args := #[] } → d ∈ ds) → K21 { tmps := #[.slice (some ak) l0.length c0, undef, .pointer (some ⟨w.heap.size, 0, none⟩), .pointer (some ⟨w.heap.size + 1, 0, none⟩), v4, u5, u6, .pointer (some ⟨b7, 0, none⟩), u8, u9, u10, u11, u12, u13, .slice (some ak) l0.length c0, .int .i64 (l0.length : Int), .int .i64 (j : Int), u17, u18, u19, u20, u21, u22, u23, u24, u25, u26, u27, u28, u29, u30, u31, u32, u33, u34, u35, u36, u37, u38, u39, u40, u41, u42, u43, u44, u45, u46, u47, u48, u49, u50, u51, u52, u53, u54, u55, u56, u57, u58, u59, u60, u61, u62, u63, u64, u65, u66, u67, u68, u69, u70, u71, u72, u73, u74, u75, u76, u77, u78, u79, u80, u81, u82, u83, u84, u85, u86, u87, u88], defers := dz } wz := by
        intro x Z1 g1 Z2 g2 b7 wz dz u5 u6 u8 u9 u10 u11 u12 u13 u17 u18 u19 u20 u21 u22 u23 u24 u25 u26 u27 u28 u29 u30 u31 u32 u33 u34 u35 u36 u37 u38 u39 u40 u41 u42 u43 u44 u45 u46 u47 u48 u49 u50 u51 u52 u53 u54 u55 u56 u57 u58 u59 u60 u61 u62 u63 u64 u65 u66 u67 u68 u69 u70 u71 u72 u73 u74 u75 u76 u77 u78 u79 u80 u81 u82 u83 u84 u85 u86 u87 u88 HMX BX S1 S2 HBZ HMZ HDZ
        apply a21
        have hm := HSZ.out
        rw [HMX.out, if_pos rfl] at hm
        obtain ⟨s, hs, hm⟩ := Option.bind_eq_some_iff.1 hm
        have x0 : wz.cell? ⟨b7, 0, none⟩ = some (.string x.f0) := (blk_cell BX.out 0).trans rfl
        have x1 : wz.cell? ⟨b7, 1, none⟩ = some (.slice Z1 x.f1.length g1) := (blk_cell BX.out 1).trans rfl
        have x2 : wz.cell? ⟨b7, 2, none⟩ = some (.slice Z2 x.f2.length g2) := (blk_cell BX.out 2).trans rfl
        have hc46 := abstract_Size.calls k x.f0 Z1 g1 x.f1 Z2 g2 x.f2 s wz (Kd.R_reads' S1.out).2.2 (Kd.R_reads' S1.out).2.1 (Kd.R_reads' S2.out).2.2 (Kd.R_reads' S2.out).2.1 hs
        clear hs hsw hs1 hs4 hs5 b6 hbu B6b B7 HBW R1 R2
        have B2z := Aside0.mk (blk_below HB2.out HBZ.out)
        have B3z := Aside0.mk (blk_below HB3.out HBZ.out)
        have hs0 := HB.out.size
        have hsz := HBZ.out.size
        have hrl := HRL.out
        by_cases h60 : 60 < s
        · rw [if_pos h60] at hm
          obtain rfl := Option.some.inj hm
          rw [if_neg (show ¬ ((2, z27) : Int × S27).1 = 0 by decide)] at hrl
          simp only [Option.some.injEq, Prod.mk.injEq] at hrl
          obtain ⟨rfl, rfl⟩ := hrl
          go_wp2_with (first | (go_at_call 46; refine hc46.mono ?_; rintro e w8 ⟨rfl, hb8⟩; have HB8 := Aside0.mk hb8; have B2w := Aside0.mk (blk_below B2z.out hb8); have B3w := Aside0.mk (blk_below B3z.out hb8); clear hb8 hc46 x0 x1 x2; have c2 : w8.cell? ⟨w.heap.size, 0, none⟩ = some (.slice none 0 0) := (blk_cell B2w.out 0).trans rfl; have c3 : w8.cell? ⟨w.heap.size + 1, 0, none⟩ = some (.int .i64 0) := (blk_cell B3w.out 0).trans rfl; have f2 := blk_frozen B2w.out 0; have f3 := blk_frozen B3w.out 0))
          exact res_leave w _ dz _ (.slice none 0 0) [] 2 rfl rfl ((Below.heap_setCell _ _ _ _ (by show w.heap.size ≠ w.heap.size + 1; omega)).trans (blk_put B2w.out 0 _ rfl)) (blk_put ((Below.heap_setCell _ _ _ _ (by show w.heap.size + 1 ≠ w.heap.size; omega)).trans B3w.out) 0 _ rfl)
            (Kd.N_nil _ _ _ _ _) (below_set (below_set ((HB.out.trans (HBZ.out.mono hs0)).trans (HB8.out.mono (by omega))) (by omega)) (by omega)) (((HMZ.out.below HB8.out).set (by show w.heap.size < w.heap.size + 2; omega) _).set (by show w.heap.size + 1 < w.heap.size + 2; omega) _)
        · rw [if_neg h60] at hm
          obtain rfl := Option.some.inj hm
          rw [if_pos rfl] at hrl
          obtain ⟨Av, cv, rfl⟩ := Kd.N_slice HN.out
          have HRL2 := Aside0.mk hrl
          clear hrl HRL
          have hwr : wrap64 ((j : Int) + 1) = (j : Int) + 1 := by have := HL.out; unfold wrap64; omega
          have HSW := Aside0.mk (show w.heap.size + 2 ≤ wl.heap.size by omega)
          have HLE := Aside0.mk (show wl.heap.size ≤ wz.heap.size from hsz)
          clear b2 b3 hs0 hsz
          go_wp2_with (first | (go_at_call 46; refine hc46.mono ?_; rintro e w8 ⟨rfl, hb8⟩; have HB8 := Aside0.mk hb8; have BX8 := Aside0.mk (blk_below BX.out hb8); have HM8 := Aside0.mk (HMZ.out.below hb8); have HS8 := Aside0.mk hb8.size; clear hb8 hc46 x0 x1 x2; have x0 : w8.cell? ⟨b7, 0, none⟩ = some (.string x.f0) := (blk_cell BX8.out 0).trans rfl; have x1 : w8.cell? ⟨b7, 1, none⟩ = some (.slice Z1 x.f1.length g1) := (blk_cell BX8.out 1).trans rfl; have x2 : w8.cell? ⟨b7, 2, none⟩ = some (.slice Z2 x.f2.length g2) := (blk_cell BX8.out 2).trans rfl) | ((with_reducible refine gate_builtin (b := .append) (xs := #[.tmp 83, .tmp 85]) rfl ?_); at_builtin; refine Kd.N_append k27 (w0 := w) w.heap.size rfl (.tmp 83) (.tmp 85) 22 27 (.agg #[(.string ⟨#[]⟩), (.slice none 0 0), (.slice none 0 0)]) 64 rfl Try.underlying22 info27 rfl (by decide) (by omega) (.slice Av acc.length cv) acc x [.string x.f0, .slice Z1 x.f1.length g1, .slice Z2 x.f2.length g2] (okD w dz) (fun q => okD w dz q ∧ some q ≠ (Value.slice Av acc.length cv).ownBlock) rfl rfl ?aP (fun _ hk => hk) ?aF ?aO ?aB ?aS ?aL ?_; (case aP => exact k27_mkF _ _ x (Kd.R_reads' S1.out).2.1 (Kd.F_mono (Kd.R_F (Kd.R_bound (Kd.R_below S1.out HB8.out))) (fun q hq => ⟨by obtain ⟨_, h2, _, _, _, cells, hc⟩ := hq; exact okD_of HM8.out (Nat.le_trans HSW.out h2) hc, fun he => by have := HL4.out q he.symm; have := hq.2.1; omega⟩)) (Kd.R_reads' S2.out).2.1 (Kd.F_mono (Kd.R_F (Kd.R_bound (Kd.R_below S2.out HB8.out))) (fun q hq => ⟨by obtain ⟨_, h2, _, _, _, cells, hc⟩ := hq; exact okD_of HM8.out (Nat.le_trans HSW.out h2) hc, fun he => by have := HL4.out q he.symm; have := hq.2.1; omega⟩))); (case aF => exact fun q hq => okD_new HM8.out (by have := HSW.out; have := HLE.out; have := HS8.out; omega) hq); (case aO => exact Kd.N_below (Kd.N_below (Kd.N_mono (Kd.N_bound HN.out) (fun q hq => ⟨hq.1.1, fun d hd he => hq.1.2 d (HDZ.out q hq.2 d hd he) he⟩)) HBZ.out) HB8.out); (case aB => exact (HB.out.trans (HBZ.out.mono HB.out.size)).trans (HB8.out.mono (by have := HSW.out; have := HLE.out; omega))); (case aS => have := HSW.out; have := HLE.out; have := HS8.out; omega); (case aL => have := HJ.out.2; have := HJ.out.1; have := HL.out; omega); intro v10 w10 ho hb hg hat; have HO := Aside0.mk ho; have HBO := Aside0.mk hb; have HGO := Aside0.mk hg; clear ho hb hg hat))
          have hlw := HSW.out
          have hown : ∀ q, okD w ds q → q < wl.heap.size → okD w dz q := fun q h1 h2 => ⟨h1.1, fun d hd he => h1.2 d (HDZ.out q h2 d hd he) he⟩
          have hne : ∀ q, (Value.slice Av acc.length cv).ownBlock = some q → w.heap.size + 2 ≤ q ∧ okD w dz q := fun q hq => ⟨(HN.out.1 q hq).1, hown q (HN.out.1 q hq) (HL4.out q hq)⟩
          rw [hwr]
          refine ⟨l0.length - (j + 1), by omega, j + 1, acc ++ [x], v10, dz, _, _, _, _, _, _, _, _, _, _, _, _, _, _, _, _, _, _, _, _, _, _, _, _, _, _, _, _, _, _, _, _, _, _, _, _, _, _, _, _, _, _, _, _, _, _, _, _, _, _, _, _, _, _, _, _, _, _, _, _, _, _, _, _, _, _, _, _, _, _, _, _, _, _, _, _, _, _, _, _, _, rfl, rfl, HRL2, ⟨hj, by have := HJ.out.2; simp; omega⟩, HO, ⟨?_⟩, ⟨?_⟩, HBO, ⟨?_⟩⟩
          · exact blk_grown (blk_below B2z.out HB8.out) HGO.out (fun he => by have := (hne _ he.symm).1; omega)
          · exact blk_grown (blk_below B3z.out HB8.out) HGO.out (fun he => by have := (hne _ he.symm).1; omega)
          · exact HM8.out.step (fun D hD hlt => HGO.out.block D hlt (fun he => (hne D he.symm).2.2 _ hD rfl))
      have hc20 := anaphora_Pronouns.calls k t.f0 X1 e1 t.f1 X2 e2 t.f2 pn w6 (Kd.F_now (Kd.F_below (Kd.F_below F1.out HB5.out) hbu)) Q1.out (Kd.F_now (Kd.F_below (Kd.F_below F2.out HB5.out) hbu)) Q2.out HPN.out
      have d0 : w6.cell? ⟨wl.heap.size, 0, none⟩ = some (.string t.f0) := (blk_cell B6b.out 0).trans rfl
      have d1 : w6.cell? ⟨wl.heap.size, 1, none⟩ = some (.slice X1 t.f1.length e1) := (blk_cell B6b.out 1).trans rfl
      have d2 : w6.cell? ⟨wl.heap.size, 2, none⟩ = some (.slice X2 t.f2.length e2) := (blk_cell B6b.out 2).trans rfl
      have HBU := Aside0.mk hbu
      have HS1 := Aside0.mk hs1
      have HS4 := Aside0.mk hs4
      have HS5 := Aside0.mk hs5
      have HLB := Aside0.mk (show w.heap.size + 2 ≤ wl.heap.size by omega)
      have HSW := Aside0.mk hsw
      clear hbu hs1 hs4 hs5 hsw b2 b3 b6
      by_cases hpos : 0 < pn
      case neg =>
        have hm := HMID.out
        rw [if_neg hpos] at hm
        have HM0 := Aside0.mk (Option.some.inj hm).symm
        clear hm
        go_wp2_with (first | (go_at_call 20; refine hc20.mono ?_; rintro e w7 ⟨rfl, hb7⟩; have HB7 := Aside0.mk hb7; clear hb7 hc20 d0 d1 d2))
        have hsz7 := HSW.out
        exact hrest _ _ _ _ _ _ _ _ _ _ _ _ _ _ _ _ _ _ _ _ _ _ _ _ _ _ _ _ _ _ _ _ _ _ _ _ _ _ _ _ _ _ _ _ _ _ _ _ _ _ _ _ _ _ _ _ _ _ _ _ _ _ _ _ _ _ _ _ _ _ _ _ _ _ _ _ _ _ _ _ _ _ _ _ _ _ _ _ HM0 ⟨blk_below B7.out HB7.out⟩ ⟨Kd.R_lower (Kd.R_below R1.out HB7.out) (Nat.le_refl _)⟩ ⟨Kd.R_lower (Kd.R_below R2.out HB7.out) (Nat.le_refl _)⟩ ⟨HBW.out.trans (HB7.out.mono HSW.out)⟩ ⟨HM.out.below (HBW.out.trans (HB7.out.mono HSW.out))⟩ ⟨fun _ _ _ h _ => h⟩
      case pos =>
        have hm := HMID.out
        rw [if_pos hpos] at hm
        obtain ⟨np, hnp, hm⟩ := Option.bind_eq_some_iff.1 hm
        have HMI := Aside0.mk hm
        have HNP := Aside0.mk hnp
        clear hm hnp HMID
        go_upto_region 7 with (first | (go_at_call 20; refine hc20.mono ?_; rintro e w7 ⟨rfl, hb7⟩; have HB7 := Aside0.mk hb7; clear hb7 hc20 d0 d1 d2))
        have HBA := Aside0.mk (HBW.out.trans (HB7.out.mono HSW.out))
        have hc14 := anaphora_Antecedent.calls k (some ak) _ l0 (j : Int) np.1 np.2.1 np.2.2.1 np.2.2.2 w7 (Kd.F_now (Kd.F_step HF0.out (fun q hq hlt => (HB.out.trans (HBA.out.mono HS1.out)).block q hlt))) HC0.out HNP.out
        have HUR := Aside0.mk hu27
        go_upto_region 8 with (first | (go_at_call 14; refine hc14.mono ?_; rintro e w8 ⟨y1, y2, rfl, hy1, hy2, hb8⟩; obtain ⟨N1, m1, rfl⟩ := Kd.R_slice hy1; obtain ⟨N2, m2, rfl⟩ := Kd.R_slice hy2; have HN1 := Aside0.mk hy1; have HN2 := Aside0.mk hy2; have HB8 := Aside0.mk hb8; clear hb8 hc14 hy1 hy2))
        have hba := below_alloc (Below.refl w8.heap.size w8) (.cells #[.string np.1, .slice N1 np.2.1.length m1, .slice N2 np.2.2.1.length m2] 27)
        have B8 := Aside0.mk (heap_alloc_new w8 (.cells #[.string np.1, .slice N1 np.2.1.length m1, .slice N2 np.2.2.1.length m2] 27))
        have HBA8 := Aside0.mk (HBA.out.trans ((HB8.out.trans (hba.mono HB8.out.size)).mono HBA.out.size))
        have NR1 := Aside0.mk (Kd.R_lower (Kd.R_below HN1.out hba) (base' := wl.heap.size) HBA.out.size)
        have NR2 := Aside0.mk (Kd.R_lower (Kd.R_mono (Kd.R_below HN2.out hba) (ok' := fun _ => True) (fun _ _ => trivial)) (base' := wl.heap.size) HBA.out.size)
        have HB78 := Aside0.mk ((HB8.out.trans (hba.mono HB8.out.size)))
        generalize w8.alloc (.cells #[.string np.1, .slice N1 np.2.1.length m1, .slice N2 np.2.2.1.length m2] 27) = w9 at B8 HBA8 NR1 NR2 HB78 hba ⊢
        have HBA9 := Aside0.mk hba
        clear hba
        by_cases hz : np.2.2.2 = 0
        case neg =>
          have hm := HMI.out
          rw [if_neg hz] at hm
          obtain rfl := Option.some.inj hm
          have hm := HSZ.out
          rw [if_neg (show ¬ ((10, z27) : Int × S27).1 = 0 by decide)] at hm
          obtain rfl := Option.some.inj hm
          have hrl := HRL.out
          rw [if_neg (show ¬ ((10, z27) : Int × S27).1 = 0 by decide)] at hrl
          simp only [Option.some.injEq, Prod.mk.injEq] at hrl
          obtain ⟨rfl, rfl⟩ := hrl
          have B2w := Aside0.mk (blk_below HB2.out HBA8.out)
          have B3w := Aside0.mk (blk_below HB3.out HBA8.out)
          have s2 : w9.cell? ⟨w.heap.size, 0, none⟩ = some (.slice none 0 0) := (blk_cell B2w.out 0).trans rfl
          have s3 : w9.cell? ⟨w.heap.size + 1, 0, none⟩ = some (.int .i64 0) := (blk_cell B3w.out 0).trans rfl
          have f2 := blk_frozen B2w.out 0
          have f3 := blk_frozen B3w.out 0
          clear hm
          go_wp2
          exact res_leave w _ ds _ (.slice none 0 0) [] 10 rfl rfl ((Below.heap_setCell _ _ _ _ (by show w.heap.size ≠ w.heap.size + 1; omega)).trans (blk_put B2w.out 0 _ rfl)) (blk_put ((Below.heap_setCell _ _ _ _ (by show w.heap.size + 1 ≠ w.heap.size; omega)).trans B3w.out) 0 _ rfl)
            (Kd.N_nil _ _ _ _ _) (below_set (below_set (HB.out.trans (HBA8.out.mono HS1.out)) (Nat.le_refl _)) (by omega)) (((HM.out.below HBA8.out).set (by show w.heap.size < w.heap.size + 2; omega) _).set (by show w.heap.size + 1 < w.heap.size + 2; omega) _)
        case pos =>
          have hm := HMI.out
          rw [if_pos hz] at hm
          obtain ⟨num, hnum, hm⟩ := Option.bind_eq_some_iff.1 hm
          obtain ⟨xs, hxs, hm⟩ := Option.bind_eq_some_iff.1 hm
          obtain ⟨rf, hrf, hm⟩ := Option.bind_eq_some_iff.1 hm
          have HNUM := Aside0.mk hnum
          have HXS := Aside0.mk hxs
          have HRF := Aside0.mk hrf
          have HMM := Aside0.mk hm
          clear hm hnum hxs hrf HMI HNP
          rw [hz]
          have hsf := fun (w : World) (a : Addr) (fn : Fn) (fi ca : Array Value) (m : Mode) => run_store Try.prog w a (.func fn fi ca) m rfl
          go_upto_region 12 with (fail)
          have hba := below_alloc (below_alloc (Below.refl w9.heap.size w9) (.cells #[.func (.func 41) #[] #[.pointer (some ⟨w8.heap.size, 0, none⟩)]] 39)) (.cells #[.slice none 0 0] 25)
          have B10 := Aside0.mk (show ((w9.alloc (.cells #[.func (.func 41) #[] #[.pointer (some ⟨w8.heap.size, 0, none⟩)]] 39)).alloc (.cells #[.slice none 0 0] 25)).heap[w9.heap.size]? = some (.cells #[.func (.func 41) #[] #[.pointer (some ⟨w8.heap.size, 0, none⟩)]] 39 (0, 0)) from blk_alloc (heap_alloc_new _ _) _)
          have B11 := Aside0.mk (show ((w9.alloc (.cells #[.func (.func 41) #[] #[.pointer (some ⟨w8.heap.size, 0, none⟩)]] 39)).alloc (.cells #[.slice none 0 0] 25)).heap[w9.heap.size + 1]? = some (.cells #[.slice none 0 0] 25 (0, 0)) by have h := heap_alloc_new (w9.alloc (.cells #[.func (.func 41) #[] #[.pointer (some ⟨w8.heap.size, 0, none⟩)]] 39)) (.cells #[.slice none 0 0] 25); rwa [World.size_alloc] at h)
          have H910 := Aside0.mk hba
          generalize (w9.alloc (.cells #[.func (.func 41) #[] #[.pointer (some ⟨w8.heap.size, 0, none⟩)]] 39)).alloc (.cells #[.slice none 0 0] 25) = wa at B10 B11 H910 ⊢
          clear hba
          have HWA := Aside0.mk (HBA8.out.trans (H910.out.mono HBA8.out.size))
          have B6a := Aside0.mk (blk_below (blk_below (blk_below B6b.out HB7.out) HB78.out) H910.out)
          have B7a := Aside0.mk (blk_below (blk_below (blk_below B7.out HB7.out) HB78.out) H910.out)
          have B8a := Aside0.mk (blk_below B8.out H910.out)
          have d0 : wa.cell? ⟨wl.heap.size, 0, none⟩ = some (.string t.f0) := (blk_cell B6a.out 0).trans rfl
          have d1 : wa.cell? ⟨wl.heap.size, 1, none⟩ = some (.slice X1 t.f1.length e1) := (blk_cell B6a.out 1).trans rfl
          have d2 : wa.cell? ⟨wl.heap.size, 2, none⟩ = some (.slice X2 t.f2.length e2) := (blk_cell B6a.out 2).trans rfl
          go_wp2_with ((with_reducible refine (Nodes_any t.f0 t.f1 t.f2 X1 e1 X2 e2 _).mono ?_); rintro e wn ⟨cb, rfl, hcb, hcc, hbn⟩; have HCB := Aside0.mk hcb; have HCC := Aside0.mk hcc; have HBN := Aside0.mk hbn; clear hcb hcc hbn d0 d1 d2)
          have HLN := Aside0.mk (HWA.out.trans (HBN.out.mono HWA.out.size))
          have q1 := blk_lt B6.out
          have q2 := HB5.out.size
          have q3 := blk_lt B7.out
          have q4 := HB7.out.size
          have q5 := HB8.out.size
          have q6 := blk_lt B8.out
          have q7 := blk_lt B11.out
          have q8 := HCB.out
          have q9 := HLB.out
          have q10 := HLN.out.size
          have q11 := H910.out.size
          have q12 := HBN.out.size
          have HMDS : ∀ d ∈ ds, ∃ D', d = { target := .collected D', args := #[] } ∧ D' < wl.heap.size := fun d hd => by obtain ⟨D', e, _, hlt, _⟩ := HM.out.lt d hd; exact ⟨D', e, hlt⟩
          have HMK : ∀ (D : Nat) (W : World), wn.heap.size ≤ D → W.heap[D]? = some (.deferred (some [])) → KeepS (fun i => i < wl.heap.size ∧ w.heap.size + 2 ≤ i) wn W → Marks (w.heap.size + 2) ({ target := .collected D, args := #[] } :: ds) W := fun D W hD hDm hk =>
            ⟨⟨D, rfl, by omega, hDm, fun d' hd' he => by
              obtain ⟨D', e, hlt⟩ := HMDS d' hd'
              rw [he] at e
              have : D = D' := by injection e with e1 _; injection e1
              omega⟩, (HM.out.below HLN.out).step (fun D' hD' hlt => by
              obtain ⟨D2, e, h2, hlt2, _⟩ := HM.out.lt _ hD'
              have : D' = D2 := by injection e with e1 _; injection e1
              exact hk.block D' hlt ⟨by omega, by omega⟩)⟩
          have HMKA := Aside0.mk HMK
          have HMDA := Aside0.mk HMDS
          clear HMK HMDS
          refine res_range k t ⟨np.1, np.2.1, np.2.2.1⟩ ⟨u.1, u.2.1, u.2.2⟩ num xs rf wn ds w.heap.size (w.heap.size + 1) wl.heap.size w5.heap.size w8.heap.size w9.heap.size (w9.heap.size + 1) cb _ _ _ _ _ _ _ _ _ _ _ _ _ _ _ _ _ _ _ _ _ _ _ _ _ _ _ _ _ _ _ _ _ _ _ _ _ _ _ _ _ _ _ _ _ _ _ _ _ _ _ _ _ _ _ _ _ _ _ _ _ _ _ _ _ _ _ _ _ _ _ _ _ _ _ _ _ _ _ _ _
            (by omega) (by omega) (by omega) (by omega) (by omega) (by omega) (by omega) X1 e1 X2 e2 N1 m1 N2 m2 Y1 d1 Y2 d2 (blk_below HB2.out HLN.out) (blk_below HB3.out HLN.out) (blk_below B6a.out HBN.out)
            (Kd.F_mono (Kd.F_below (Kd.F_below (Kd.F_below (Kd.F_below (Kd.F_below (Kd.F_below F1.out HB5.out) HBU.out) HB7.out) HB78.out) H910.out) HBN.out) (fun i hi => hi.1)) Q1.out
            (Kd.F_mono (Kd.F_below (Kd.F_below (Kd.F_below (Kd.F_below (Kd.F_below (Kd.F_below F2.out HB5.out) HBU.out) HB7.out) HB78.out) H910.out) HBN.out) (fun i hi => hi.1)) Q2.out
            (blk_below B7a.out HBN.out)
            (Kd.R_below (Kd.R_below (Kd.R_below (Kd.R_below (Kd.R_below (Kd.R_lower (Kd.R_mono (Kd.R_bound HY1.out) (fun i hi => hi.2.2.1)) (by omega)) HBU.out) HB7.out) HB78.out) H910.out) HBN.out)
            (Kd.R_below (Kd.R_below (Kd.R_below (Kd.R_below (Kd.R_below (Kd.R_lower (Kd.R_mono (Kd.R_bound HY2.out) (fun i hi => hi.2.2.1)) (by omega)) HBU.out) HB7.out) HB78.out) H910.out) HBN.out)
            (blk_below B8a.out HBN.out)
            (Kd.R_below (Kd.R_below (Kd.R_below (Kd.R_lower (Kd.R_mono (Kd.R_bound HN1.out) (fun i hi => ⟨hi.2.2.1, by have := hi.2.1; omega⟩)) (by omega)) HBA9.out) H910.out) HBN.out)
            (Kd.R_below (Kd.R_below (Kd.R_below (Kd.R_lower (Kd.R_mono (Kd.R_bound HN2.out) (fun i hi => ⟨hi.2.2.1, by have := hi.2.1; omega⟩)) (by omega)) HBA9.out) H910.out) HBN.out)
            (blk_below B10.out HBN.out) (blk_below B11.out HBN.out) HCC.out HNUM.out HXS.out HRF.out _ ?_ ?_
          · intro D uu V1 q1 V2 q2 W hrf hD hDm h7 hR1 hR2 hk
            have hm := HMM.out
            rw [hrf] at hm
            have hmid : mid = (0, uu) := (Option.some.inj hm).symm
            exact hrest uu V1 q1 V2 q2 w5.heap.size W ({ target := .collected D, args := #[] } :: ds) _ _ _ _ _ _ _ _ _ _ _ _ _ _ _ _ _ _ _ _ _ _ _ _ _ _ _ _ _ _ _ _ _ _ _ _ _ _ _ _ _ _ _ _ _ _ _ _ _ _ _ _ _ _ _ _ _ _ _ _ _ _ _ _ _ _ _ _ _ _ _ _ _ _ _ _ _ _ _ _ ⟨hmid⟩ ⟨h7⟩ ⟨hR1⟩ ⟨hR2⟩ ⟨HLN.out.trans (hk.below (by omega) (fun i hi => ⟨by omega, by omega, by omega⟩))⟩ ⟨HMKA.out D W hD hDm (hk.mono (fun i hi h => ⟨hi, by omega, by omega⟩))⟩
              ⟨fun q hq d hd he => by
                rcases List.mem_cons.1 hd with rfl | hd
                · have : D = q := by injection he with e1 _; injection e1
                  omega
                · exact hd⟩
          · intro D W hrf hD hDm h2 h3 hk
            have hm := HMM.out
            rw [hrf] at hm
            obtain rfl := Option.some.inj hm
            have hm := HSZ.out
            rw [if_neg (show ¬ ((10, z27) : Int × S27).1 = 0 by decide)] at hm
            obtain rfl := Option.some.inj hm
            have hrl := HRL.out
            rw [if_neg (show ¬ ((10, z27) : Int × S27).1 = 0 by decide)] at hrl
            simp only [Option.some.injEq, Prod.mk.injEq] at hrl
            obtain ⟨rfl, rfl⟩ := hrl
            exact res_leave w _ _ W (.slice none 0 0) [] 10 rfl rfl h2 h3 (Kd.N_nil _ _ _ _ _) ((HB.out.trans (HLN.out.mono (by omega))).trans (hk.below (by omega) (fun i hi => ⟨by omega, by omega, by omega, by omega, by omega⟩))) (HMKA.out D W hD hDm (hk.mono (fun i hi h => ⟨hi, by omega, by omega, by omega, by omega⟩)))

end Go.Proofs.Ytfampmajmbediaa.P
