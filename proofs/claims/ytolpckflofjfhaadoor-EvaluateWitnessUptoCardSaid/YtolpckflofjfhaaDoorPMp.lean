import Derived.Test.YtolpckflofjfhaaDoorProg
import Derived.Maps.OwnOps
import Derived.DeepKeys4
import Derived.Laws.CopyOwn
import Derived.ArgAppend
import Derived.Below
import Derived.KernelRfl
namespace Go.Proofs.YtolpckflofjfhaaDoor.P
open Go.RowKit Go.ChangeMaps Go.MapKept Go.Maps
open Go.WideElems (Fit rd rg pl rd_key rd_val rg_of rd_mk)
set_option linter.unusedVariables false
section
variable {P : Program} {K E T : TypeId}
def SetM (P : Program) (K E : TypeId) (w : World) (b n : Nat) (S : Value → Prop) : Prop :=
  ∃ es clock, w.heap[b]? = some (.map es clock) ∧ es.size ≤ n ∧ Fit P K (plainElem (H := Unit) P E) es clock ∧ (∀ x ∈ es.toList, x.val = .bool true) ∧ ∀ v, (∃ x ∈ es.toList, x.key = v) ↔ S v
theorem setM_made (w : World) : SetM P K E (w.alloc (.map #[] 0)) w.heap.size 0 (fun _ => False) :=
  ⟨#[], 0, (MapKept.heap_alloc w _).1, Nat.le_refl _, ⟨by simp, stamped_empty 0, by simp⟩, by simp, by simp⟩
theorem setM_on {w w' : World} {b n : Nat} {S : Value → Prop} (h : SetM P K E w b n S) (hb : w'.heap[b]? = w.heap[b]?) : SetM P K E w' b n S := by
  obtain ⟨es, clock, h1, h2⟩ := h
  exact ⟨es, clock, hb.trans h1, h2⟩
theorem setM_lt {w : World} {b n : Nat} {S : Value → Prop} (h : SetM P K E w b n S) : b < w.heap.size := by
  obtain ⟨es, clock, hb, _⟩ := h
  exact (Array.getElem?_eq_some_iff.1 hb).1
theorem setM_below {w w' : World} {b n B : Nat} {S : Value → Prop} (h : SetM P K E w b n S) (hb : Below B w w') (hB : b < B) : SetM P K E w' b n S := setM_on h (hb.block b hB)
theorem setM_congr {w : World} {b n : Nat} {S S' : Value → Prop} (h : SetM P K E w b n S) (e : ∀ v, S v ↔ S' v) : SetM P K E w b n S' := by
  obtain ⟨es, clock, h1, h2, h3, h4, h5⟩ := h
  exact ⟨es, clock, h1, h2, h3, h4, fun v => (h5 v).trans (e v)⟩
theorem setM_mono {w : World} {b n n' : Nat} {S : Value → Prop} (h : SetM P K E w b n S) (hn : n ≤ n') : SetM P K E w b n' S := by
  obtain ⟨es, clock, h1, h2, h3⟩ := h
  exact ⟨es, clock, h1, Nat.le_trans h2 hn, h3⟩
theorem setM_look {w : World} {b n : Nat} {S : Value → Prop} (h : SetM P K E w b n S) (L : Keyed P K) (ht : P.underlying T = some (.map K E)) (hz : (zeroValue E).run P w = .ok (.bool false) w) {key : Value} {kl : Lit} (hkey : keyOf P K key = some kl) {r : Bool} (hr : r = true ↔ S key) :
    (Instr.lookup T (.map (some b)) key false).run P w = .ok (.bool r) w := by
  obtain ⟨es, clock, hb, hn, F, hv, hS⟩ := h
  rcases Maps.fit_look false L ht hz hb F hkey with ⟨hrun, hno, _⟩ | ⟨e0, y, hm, he, hrun, _⟩
  · have : ¬ S key := fun hs => by obtain ⟨x, hx, hk⟩ := (hS key).2 hs; exact hno x hx hk
    cases r with
    | true => exact absurd (hr.1 rfl) this
    | false => exact hrun
  · have : S key := (hS key).1 ⟨e0, hm, he⟩
    rw [hr.2 this]
    have e1 := hv e0 hm
    simp only [Bool.false_eq_true, if_false, e1] at hrun
    exact hrun
theorem setM_put {w : World} {b n : Nat} {S : Value → Prop} (h : SetM P K E w b n S) (L : Keyed P K) (ht : P.underlying T = some (.map K E)) (he : P.underlying E = some .bool) (hn : n < maxLen) {key : Value} {kl : Lit} (hkey : keyOf P K key = some kl) :
    ∃ w', (Instr.mapUpdate T (.map (some b)) key (.bool true)).run P w = .ok () w' ∧ SetM P K E w' b (n + 1) (fun v => S v ∨ v = key) ∧ w.grownBy w' (some b) := by
  obtain ⟨es, clock, hb, hs, F, hv, hS⟩ := h
  have hval : plainElem (H := Unit) P E (.bool true) = some (.lit (.bool true), []) := plainElem_bool he true
  obtain ⟨es', clock', hrun, F', hput, _, _, hwho⟩ := Maps.fit_store (R' := plainElem (H := Unit) P E) L ht hb F (Nat.lt_of_le_of_lt hs hn) (fun _ _ _ _ hz => hz) hkey hval
  refine ⟨_, hrun, ⟨es', clock', heap_setBlock_same hb _, ?_, F', ?_, ?_⟩, ⟨rfl, rfl, rfl, by simp [setBlock], fun i _ hi => heap_setBlock_other hb _ (fun e => hi (by rw [e]))⟩⟩
  · have e1 : es'.size = ((es'.toList.map (rg P K (plainElem (H := Unit) P E))).foldr DataW.insert []).length := by rw [length_sorted]; simp
    rw [e1, hput]
    unfold putKey
    rw [length_insert]
    have e2 := List.length_filter_le (notKey kl) ((es.toList.map (rg P K (plainElem (H := Unit) P E))).foldr DataW.insert [])
    rw [length_sorted] at e2
    simp at e2
    omega
  · intro x hx
    rcases hwho x hx with ⟨h1, _⟩ | ⟨_, h2⟩
    · exact hv x h1
    · exact h2
  · have mem : ∀ p, p ∈ es'.toList.map (rg P K (plainElem (H := Unit) P E)) ↔ p = (kl, DataW.lit (.bool true)) ∨ (p ∈ es.toList.map (rg P K (plainElem (H := Unit) P E)) ∧ notKey kl p = true) := by
      intro p
      rw [← (WideShapes.sorted_perm (es'.toList.map (rg P K (plainElem (H := Unit) P E)))).mem_iff, hput]
      unfold putKey
      rw [mem_insert_iff, List.mem_filter, (WideShapes.sorted_perm (es.toList.map (rg P K (plainElem (H := Unit) P E)))).mem_iff]
    intro v
    constructor
    · rintro ⟨x, hx, rfl⟩
      rcases hwho x hx with ⟨h1, _⟩ | ⟨h1, _⟩
      · exact .inl ((hS _).1 ⟨x, h1, rfl⟩)
      · exact .inr h1
    · have key_of : ∀ x ∈ es'.toList, ∀ u l, keyOf P K u = some l → (rg P K (plainElem (H := Unit) P E) x).1 = l → x.key = u := by
        intro x hx u l hu e1
        obtain ⟨y, hy⟩ := F'.reads x hx
        rw [rg_of hy] at e1
        have m1 := rd_key hy
        rw [e1] at m1
        exact L.inj m1 hu
      rintro (hs | rfl)
      · obtain ⟨x, hx, rfl⟩ := (hS v).2 hs
        by_cases hk : x.key = key
        · obtain ⟨z, hz, he⟩ := List.mem_map.1 ((mem _).2 (.inl rfl))
          exact ⟨z, hz, (key_of z hz key kl hkey (by rw [he])).trans hk.symm⟩
        · obtain ⟨y, hy⟩ := F.reads x hx
          have m1 := rd_key hy
          have hne : notKey kl (rg P K (plainElem (H := Unit) P E) x) = true := by
            refine (Maps.notKey_iff (L.key hkey)).2 (fun e1 => hk ?_)
            rw [rg_of hy] at e1
            rw [e1] at m1
            exact L.inj m1 hkey
          obtain ⟨z, hz, he⟩ := List.mem_map.1 ((mem (rg P K (plainElem (H := Unit) P E) x)).2 (.inr ⟨List.mem_map.2 ⟨x, hx, rfl⟩, hne⟩))
          exact ⟨z, hz, key_of z hz x.key y.1 m1 (by rw [he, rg_of hy])⟩
      · obtain ⟨z, hz, he⟩ := List.mem_map.1 ((mem _).2 (.inl rfl))
        exact ⟨z, hz, key_of z hz v kl hkey (by rw [he])⟩
theorem wpList_look {w : World} {ops : Array Oper} {rest : List Oper} {o : Oper} {a : Act} {Q : Exit → Act → World → Prop}
    (hg : o.guard = none) (m x : Operand) (T : TypeId) (hop : o.op = Op.lookup T m x false) (L : Keyed P K) (ht : P.underlying T = some (.map K E)) (hz : (zeroValue E).run P w = .ok (.bool false) w) (b n : Nat) (S : Value → Prop)
    (hm : a.eval m = .map (some b)) (h : SetM P K E w b n S) (key : Value) (kl : Lit) (hx : a.eval x = key) (hkey : keyOf P K key = some kl) (r : Bool) (hr : r = true ↔ S key)
    (hK : wpList P ops Q rest (a.put o.dst (.bool r)) w) : wpList P ops Q (o :: rest) a w := by
  refine wpList_plain hg fun K' hK' => ?_
  have hrun := setM_look h L ht hz hkey hr
  unfold Oper.wp
  simp [execOp, hop, hm, hx, hrun, Result.andThen]
  exact hK' _ _ hK
theorem wpList_put {w : World} {ops : Array Oper} {rest : List Oper} {o : Oper} {a : Act} {Q : Exit → Act → World → Prop}
    (hg : o.guard = none) (m x v : Operand) (T : TypeId) (hop : o.op = Op.mapUpdate T m x v) (L : Keyed P K) (ht : P.underlying T = some (.map K E)) (he : P.underlying E = some .bool) (b n : Nat) (S : Value → Prop)
    (hm : a.eval m = .map (some b)) (h : SetM P K E w b n S) (hn : n < maxLen) (key : Value) (kl : Lit) (hx : a.eval x = key) (hv : a.eval v = .bool true) (hkey : keyOf P K key = some kl)
    (hK : ∀ w', SetM P K E w' b (n + 1) (fun u => S u ∨ u = key) → w.grownBy w' (some b) → wpList P ops Q rest (a.put o.dst undef) w') : wpList P ops Q (o :: rest) a w := by
  refine wpList_plain hg fun K' hK' => ?_
  obtain ⟨w', hrun, r1, r2⟩ := setM_put h L ht he hn hkey
  unfold Oper.wp
  simp [execOp, hop, hm, hx, hv, hrun, Result.andThen]
  exact hK' _ _ (hK w' r1 r2)
theorem step_look {w : World} {ops : Array Oper} {o : Oper} {a : Act} {N : Option Tmp} {Q : Exit → Act → World → Prop} {K' : Act → World → Prop}
    (hw : Region.wanted o (yielded ops a.tmps) = true) (hN : o.dst = N) (m x : Operand) (T : TypeId) (hop : o.op = Op.lookup T m x false) (L : Keyed P K) (ht : P.underlying T = some (.map K E)) (hz : (zeroValue E).run P w = .ok (.bool false) w) (b n : Nat) (S : Value → Prop)
    (hm : a.eval m = .map (some b)) (h : SetM P K E w b n S) (key : Value) (kl : Lit) (hx : a.eval x = key) (hkey : keyOf P K key = some kl) (r : Bool) (hr : r = true ↔ S key)
    (hK : K' (a.put N (.bool r)) w) : if Region.wanted o (yielded ops a.tmps) = true then Oper.wp P o a w K' Q else K' (a.put N undef) w := by
  have hrun := setM_look h L ht hz hkey hr
  rw [if_pos hw]
  unfold Oper.wp
  simp [execOp, hop, hm, hx, hrun, Result.andThen]
  subst hN
  exact hK
theorem step_put {w : World} {ops : Array Oper} {o : Oper} {a : Act} {Q : Exit → Act → World → Prop} {K' : Act → World → Prop}
    (hw : Region.wanted o (yielded ops a.tmps) = true) (hN : o.dst = none) (m x v : Operand) (T : TypeId) (hop : o.op = Op.mapUpdate T m x v) (L : Keyed P K) (ht : P.underlying T = some (.map K E)) (he : P.underlying E = some .bool) (b n : Nat) (S : Value → Prop)
    (hm : a.eval m = .map (some b)) (h : SetM P K E w b n S) (hn : n < maxLen) (key : Value) (kl : Lit) (hx : a.eval x = key) (hv : a.eval v = .bool true) (hkey : keyOf P K key = some kl)
    (hK : ∀ w', SetM P K E w' b (n + 1) (fun u => S u ∨ u = key) → w.grownBy w' (some b) → K' a w') : if Region.wanted o (yielded ops a.tmps) = true then Oper.wp P o a w K' Q else K' (a.put none undef) w := by
  obtain ⟨w', hrun, r1, r2⟩ := setM_put h L ht he hn hkey
  rw [if_pos hw]
  unfold Oper.wp
  simp [execOp, hop, hm, hx, hv, hrun, Result.andThen]
  show K' (a.put o.dst undef) w'
  rw [hN]
  exact hK w' r1 r2
end
theorem step_append_grows {P : Program} (w : World) {ops : Array Oper} {o : Oper} {a : Act} {N : Option Tmp} {Q : Exit → Act → World → Prop} {K' : Act → World → Prop}
    (hw : Region.wanted o (yielded ops a.tmps) = true) (hN : o.dst = N) (s x : Operand) (t : TypeId) (hop : o.op = Op.call { callee := Callee.builtin Builtin.append, args := #[s, x], argTypes := #[t, t] })
    (e : TypeId) (i : TypeInfo) (z : Value) (size bytes : Nat) (h1 : P.underlying t = some (.slice e)) (h2 : P.info? e = some i) (h3 : i.zero = some z) (h4 : i.size = size) (h5 : i.bytes = bytes) (h6 : z.cells.size = size) (h7 : 0 < size)
    (ao : Option Addr) (n cap : Nat) (olds : List Value) (hs : a.eval s = .slice ao n cap) (hnone : ao = none → n = 0 ∧ cap = 0) (hlo : olds.length = n * size) (holds : ∀ b, ao = some b → ∀ j u, olds[j]? = some u → w.cell? (b.add j) = some u)
    (ad : Addr) (m c : Nat) (news : List Value) (hx : a.eval x = .slice (some ad) m c) (hn : news.length = m * size) (hc : ∀ j u, news[j]? = some u → w.cell? (ad.add j) = some u) (h1c : ∀ u ∈ news, u.oneCell' = true)
    (hfull : cap < n + m) (b1 : n + m ≤ maxLen) (b2 : (n + m) * bytes ≤ 140737488355328)
    (hK : ∀ v' w', w'.ownsRow w.heap.size e size v' (n + m) (olds ++ news) → w.grownBy w' none → K' (a.put N v') w') :
    if Region.wanted o (yielded ops a.tmps) = true then Oper.wp P o a w K' Q else K' (a.put N undef) w := by
  rw [if_pos hw]
  subst hN
  cases ao with
  | some b =>
    obtain ⟨v', w', hrun, r1, r2⟩ := run_append_arg_grows (P := P) w t o.type e i z size bytes h1 h2 h3 h4 h5 h6 h7 b n cap olds hlo (holds b rfl) ad m c news hn hc hfull b1 b2
    unfold Oper.wp
    simp [execOp, hop, resolve, invoke, builtin, hs, hx, hrun, Result.andThen]
    exact hK v' w' r1 r2
  | none =>
    obtain ⟨rfl, rfl⟩ := hnone rfl
    obtain rfl : olds = [] := List.eq_nil_of_length_eq_zero (by simpa using hlo)
    obtain ⟨v', w', hrun, r1, r2, _⟩ := run_append_own (P := P) w w.heap.size t o.type e i z size bytes h1 h2 h3 h4 h5 h6 h7 (.slice none 0 0) 0 [] (World.ownsRow_nil w _ e size) ad m c news hn hc h1c b1 b2 (Nat.le_refl _)
    unfold Oper.wp
    simp [execOp, hop, resolve, invoke, builtin, hs, hx, hrun, Result.andThen]
    exact hK v' w' r1 r2
theorem grown_below {B b : Nat} {a w w' : World} (h : Below B a w) (hg : w.grownBy w' (some b)) (hb : B ≤ b) (hB : B ≤ w.heap.size) : Below B a w' :=
  ⟨hg.os.trans h.os, hg.tape.trans h.tape, hg.output.trans h.output, Nat.le_trans h.size hg.size, fun k hk => (hg.block k (by omega) (by simp; omega)).trans (h.block k hk)⟩
theorem law9 : Keyed Tryd.prog 9 := string_keyed Tryd.underlying9
theorem law98 : Keyed Tryd.prog 98 := Keyed.of_law (deep_law_laid (m := 3) (by kernel_rfl) (by decide) (by decide +kernel) (by kernel_rfl) (by kernel_rfl))
def kv (p a b c : ByteArray) (n m co : Int) : Value := .agg #[.string p, .string a, .string b, .string c, .int .i64 n, .int .i64 m, .int .i64 co]
theorem cells9 : Tryd.prog.cellsOf 9 = 1 := by kernel_rfl
theorem cells3 : Tryd.prog.cellsOf 3 = 1 := by kernel_rfl
theorem cells96 : Tryd.prog.cellsOf 96 = 3 := by kernel_rfl
theorem cells98 : Tryd.prog.cellsOf 98 = 7 := by kernel_rfl
theorem kv_lits (d : Nat) (p a b c : ByteArray) (n m co : Int) (hp : p.size ≤ maxLen) (ha : a.size ≤ maxLen) (hb : b.size ≤ maxLen) (hc : c.size ≤ maxLen) (hn : (Lit.int .i64 n).wf = true) (hm : (Lit.int .i64 m).wf = true) (ho : (Lit.int .i64 co).wf = true) :
    ∃ l, Tryd.prog.keyLits (d + 3) 98 [.string p, .string a, .string b, .string c, .int .i64 n, .int .i64 m, .int .i64 co] = some l := by
  refine ⟨[.string p.data.toList, .string a.data.toList, .string b.data.toList, .string c.data.toList, .int .i64 n, .int .i64 m, .int .i64 co], ?_⟩
  simp [Program.keyLits, Tryd.underlying98, Tryd.underlying96, Tryd.underlying9, Tryd.underlying3, cells9, cells3, cells96, cells98, hp, ha, hb, hc, hn, hm, ho, List.range, List.range.loop]
theorem kv_key (p a b c : ByteArray) (n m co : Int) (hp : p.size ≤ maxLen) (ha : a.size ≤ maxLen) (hb : b.size ≤ maxLen) (hc : c.size ≤ maxLen) (hn : (Lit.int .i64 n).wf = true) (hm : (Lit.int .i64 m).wf = true) (ho : (Lit.int .i64 co).wf = true) :
    ∃ l, keyOf Tryd.prog 98 (kv p a b c n m co) = some l := by
  obtain ⟨d, hd⟩ : ∃ d, Tryd.prog.types.size + 1 = d + 3 := ⟨Tryd.prog.types.size - 2, by have : 2 ≤ Tryd.prog.types.size := by decide +kernel
                                                                                          omega⟩
  obtain ⟨l, hl⟩ := kv_lits d p a b c n m co hp ha hb hc hn hm ho
  have h1 : Tryd.prog.keyType 98 = true := by kernel_rfl
  have h2 : (kv p a b c n m co).formed Tryd.prog 98 = true := by
    unfold kv Value.formed
    rw [Tryd.underlying98]
    simp [cells98]
  unfold keyOf
  rw [Tryd.underlying98]
  simp only [h1, h2, Bool.and_self, if_true, hd]
  exact ⟨_, by show Option.map _ (Tryd.prog.keyLits (d + 3) 98 [.string p, .string a, .string b, .string c, .int .i64 n, .int .i64 m, .int .i64 co]) = _; rw [hl]; rfl⟩
end Go.Proofs.YtolpckflofjfhaaDoor.P
