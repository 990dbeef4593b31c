/- Rules for walking through the model's code over a symbolic state: what a function is called with, what it owns, what it answers. No condition beyond what each rule says. -/
import Derived.OrdersHeld
import Derived.Laws.AppendOwn
import Derived.Laws.Rows
import Derived.Laws.Build
import Derived.Laws.OwnMore
import Derived.Below
import Derived.Laws.StructEq
import Derived.ChangeSlices
import Derived.SizedLaws
import Derived.WideShapes
import Derived.Laws.Strings
import Derived.Maps.OwnSet
namespace Go.Av
open Go
/-- The bound on a slice's length that the reader's own reach gives. -/
def capB : Nat := 140737488355328
/-- What is known of a value: the very value; a slice that nobody writes any more, with elements of so many cells; a struct; several results; the address of a part of memory that nobody writes any more. -/
inductive D where
  | v (x : Value)
  | sl (sz : Nat) (l : List D)
  | agg (l : List D)
  | tup (l : List D)
  | el (d : D)
abbrev D.i (n : Int) : D := .v (.int .i64 n)
abbrev D.b (c : Bool) : D := .v (.bool c)
abbrev D.p (b off : Nat) : D := .v (.pointer (some ⟨b, off, none⟩))
abbrev D.nil : D := .v (.slice none 0 0)
/-- The cells 'cs' lie at 'a', outside of what is owned. -/
def LieAt (w : World) (O : Nat → Prop) (a : Addr) (cs : List Value) : Prop :=
  cs = [] ∨ (¬ O a.block ∧ a.spot = none ∧ ∀ j c, cs[j]? = some c → w.cell? ⟨a.block, a.off + j, none⟩ = some c)
mutual
def Rep (w : World) (O : Nat → Prop) : D → Value → Prop
  | .v x, y => y = x
  | .agg l, y => ∃ cs : List Value, y = .agg cs.toArray ∧ RepL w O l cs
  | .tup l, y => ∃ cs : List Value, y = .tuple cs.toArray ∧ RepT w O l cs
  | .el d, y => ∃ a c, y = .pointer (some a) ∧ Rep w O d c ∧ (∀ u ∈ c.cells.toList, u.oneCell' = true) ∧ c.cells.toList ≠ [] ∧ LieAt w O a c.cells.toList
  | .sl sz l, y => l.length ≤ capB ∧ ∃ cs, RepE w O sz l cs ∧ ((∃ a cap, y = .slice (some a) l.length cap ∧ l.length ≤ cap ∧ LieAt w O a cs) ∨ (y = .slice none 0 0 ∧ l = []))
def RepL (w : World) (O : Nat → Prop) : List D → List Value → Prop
  | [], cs => cs = []
  | d :: r, cs => ∃ c cr, cs = c :: cr ∧ Rep w O d c ∧ c.oneCell' = true ∧ RepL w O r cr
def RepT (w : World) (O : Nat → Prop) : List D → List Value → Prop
  | [], cs => cs = []
  | d :: r, cs => ∃ c cr, cs = c :: cr ∧ Rep w O d c ∧ RepT w O r cr
def RepE (w : World) (O : Nat → Prop) (sz : Nat) : List D → List Value → Prop
  | [], cs => cs = []
  | d :: r, cs => ∃ c cr, cs = c.cells.toList ++ cr ∧ c.cells.size = sz ∧ (∀ u ∈ c.cells.toList, u.oneCell' = true) ∧ Rep w O d c ∧ RepE w O sz r cr
end
section
variable {w w' : World} {O O' : Nat → Prop}
theorem LieAt.mono (h : ∀ b, b < w.heap.size → ¬ O b → ¬ O' b ∧ w'.heap[b]? = w.heap[b]?) {a : Addr} {cs : List Value} (hl : LieAt w O a cs) : LieAt w' O' a cs := by
  rcases hl with h0 | ⟨h1, h2, h3⟩
  · exact .inl h0
  · cases cs with
    | nil => exact .inl rfl
    | cons c r =>
      have hb := World.block_lt_of_cell? w _ (h3 0 c rfl)
      obtain ⟨k1, k2⟩ := h a.block hb h1
      exact .inr ⟨k1, h2, fun j c hj => by rw [World.cell?_of_block (w := w) (w' := w')]; exact h3 j c hj; exact k2⟩
mutual
theorem Rep.mono (h : ∀ b, b < w.heap.size → ¬ O b → ¬ O' b ∧ w'.heap[b]? = w.heap[b]?) : ∀ (d : D) (y : Value), Rep w O d y → Rep w' O' d y
  | .v x, y, hy => hy
  | .agg l, y, hy => by
    simp only [Rep] at hy ⊢
    obtain ⟨cs, h1, h2⟩ := hy
    exact ⟨cs, h1, RepL.mono h l cs h2⟩
  | .tup l, y, hy => by
    simp only [Rep] at hy ⊢
    obtain ⟨cs, h1, h2⟩ := hy
    exact ⟨cs, h1, RepT.mono h l cs h2⟩
  | .el d, y, hy => by
    simp only [Rep] at hy ⊢
    obtain ⟨a, c, h1, h2, h3, h4, h5⟩ := hy
    exact ⟨a, c, h1, Rep.mono h d c h2, h3, h4, h5.mono h⟩
  | .sl sz l, y, hy => by
    simp only [Rep] at hy ⊢
    obtain ⟨hb, cs, h1, h2⟩ := hy
    refine ⟨hb, cs, RepE.mono h sz l cs h1, ?_⟩
    rcases h2 with ⟨a, cap, h2, h3, h4⟩ | h2
    · exact .inl ⟨a, cap, h2, h3, h4.mono h⟩
    · exact .inr h2
theorem RepL.mono (h : ∀ b, b < w.heap.size → ¬ O b → ¬ O' b ∧ w'.heap[b]? = w.heap[b]?) : ∀ (l : List D) (cs : List Value), RepL w O l cs → RepL w' O' l cs
  | [], cs, hy => by simpa [RepL] using hy
  | d :: r, cs, hy => by
    simp only [RepL] at hy ⊢
    obtain ⟨c, cr, h1, h2, h3, h4⟩ := hy
    exact ⟨c, cr, h1, Rep.mono h d c h2, h3, RepL.mono h r cr h4⟩
theorem RepT.mono (h : ∀ b, b < w.heap.size → ¬ O b → ¬ O' b ∧ w'.heap[b]? = w.heap[b]?) : ∀ (l : List D) (cs : List Value), RepT w O l cs → RepT w' O' l cs
  | [], cs, hy => by simpa [RepT] using hy
  | d :: r, cs, hy => by
    simp only [RepT] at hy ⊢
    obtain ⟨c, cr, h1, h2, h4⟩ := hy
    exact ⟨c, cr, h1, Rep.mono h d c h2, RepT.mono h r cr h4⟩
theorem RepE.mono (h : ∀ b, b < w.heap.size → ¬ O b → ¬ O' b ∧ w'.heap[b]? = w.heap[b]?) (sz : Nat) : ∀ (l : List D) (cs : List Value), RepE w O sz l cs → RepE w' O' sz l cs
  | [], cs, hy => by simpa [RepE] using hy
  | d :: r, cs, hy => by
    simp only [RepE] at hy ⊢
    obtain ⟨c, cr, h1, h2, h3, h4, h5⟩ := hy
    exact ⟨c, cr, h1, h2, h3, Rep.mono h d c h4, RepE.mono h sz r cr h5⟩
end
end
/-- An object that the function owns: a variable's block with its cells; a slice that it builds. -/
inductive Ob where
  | box (b : Nat) (ty : TypeId) (cs : List D)
  | arr (v : Value) (ety : TypeId) (sz : Nat) (l : List D)
  | mp (b : Nat) (e : Bool)
def Ob.blk : Ob → Option Nat
  | .box b _ _ => some b
  | .arr v _ _ _ => v.ownBlock
  | .mp b _ => some b
def Ob.Holds (w : World) (O : Nat → Prop) : Ob → Prop
  | .box b ty cs => ∃ vs : List Value, w.heap[b]? = some (.cells vs.toArray ty (0, 0)) ∧ RepL w O cs vs
  | .arr v ety sz l => 0 < sz ∧ l.length ≤ capB ∧ ∃ xs, w.ownsRow 0 ety sz v l.length xs ∧ RepE w O sz l xs
  | .mp b e => ∃ es clock, w.heap[b]? = some (.map es clock) ∧ (e = true → es = #[] ∧ clock = 0)
abbrev Env := List (Nat × D)
abbrev Heap := List Ob
def look : Env → Nat → Option D
  | [], _ => none
  | (j, d) :: r, i => bif Nat.beq j i then some d else look r i
def Hb (H : Heap) : List Nat := H.filterMap Ob.blk
def Own (F : Nat → Prop) (H : Heap) : Nat → Prop := fun b => F b ∨ b ∈ Hb H
structure HeapOk (F : Nat → Prop) (H : Heap) (w : World) : Prop where
  holds : ∀ o ∈ H, o.Holds w (Own F H)
  nodup : (Hb H).Nodup
  disj : ∀ b ∈ Hb H, ¬ F b
  frb : ∀ b, F b → b < w.heap.size
/-- Only the blocks 'M' and new ones have turned. -/
structure Fr (M : List Nat) (w w' : World) : Prop where
  os : w'.os = w.os
  tape : w'.tape = w.tape
  output : w'.output = w.output
  size : w.heap.size ≤ w'.heap.size
  block : ∀ b, b < w.heap.size → b ∉ M → w'.heap[b]? = w.heap[b]?
theorem Fr.refl (M : List Nat) (w : World) : Fr M w w := ⟨rfl, rfl, rfl, Nat.le_refl _, fun _ _ _ => rfl⟩
theorem Fr.trans {M M' : List Nat} {w0 w w' : World} (h : Fr M w0 w) (k : Fr M' w w') (hM : ∀ b ∈ M', b ∈ M ∨ w0.heap.size ≤ b) : Fr M w0 w' :=
  ⟨k.os.trans h.os, k.tape.trans h.tape, k.output.trans h.output, Nat.le_trans h.size k.size,
    fun b hb hm => (k.block b (Nat.lt_of_lt_of_le hb h.size) (fun hmem => by rcases hM b hmem with h' | h'; exact hm h'; omega)).trans (h.block b hb hm)⟩
theorem Fr.grown {w w' : World} {row : Option Nat} (h : w.grownBy w' row) : Fr row.toList w w' :=
  ⟨h.os, h.tape, h.output, h.size, fun b hb hm => h.block b hb (fun e => hm (by cases row <;> simp_all))⟩
theorem Fr.weaken {M M' : List Nat} {w w' : World} (h : Fr M w w') (hs : ∀ b ∈ M, b ∈ M') : Fr M' w w' :=
  ⟨h.os, h.tape, h.output, h.size, fun b hb hm => h.block b hb (fun h' => hm (hs b h'))⟩
structure Rel (F : Nat → Prop) (M : List Nat) (w0 : World) (n : Nat) (env : Env) (H : Heap) (a : Act) (w : World) : Prop where
  env : ∀ i d, look env i = some d → ∃ v, a.tmps[i]? = some v ∧ Rep w (Own F H) d v
  heap : HeapOk F H w
  fr : Fr M w0 w
  mine : ∀ b ∈ Hb H, b ∈ M ∨ w0.heap.size ≤ b
  f0 : ∀ b, F b → b < w0.heap.size
  dfr : a.defers = []
  tsz : a.tmps.size = n
theorem Rel.eval {F M w0 n env H a w} (h : Rel F M w0 n env H a w) {t : Nat} {d : D} (hx : look env t = some d) : Rep w (Own F H) d (a.eval (.tmp t)) := by
  obtain ⟨v, h1, h2⟩ := h.env t d hx
  have : a.eval (.tmp t) = v := by simp [Act.eval, h1]
  rwa [this]
theorem look_cons (j : Nat) (d : D) (r : Env) (i : Nat) : look ((j, d) :: r) i = if j = i then some d else look r i := by
  simp only [look]
  by_cases h : j = i
  · subst h; simp
  · have : Nat.beq j i = false := Bool.eq_false_iff.2 (fun h' => h (Nat.eq_of_beq_eq_true h'))
    simp [this, h]
theorem Rel.put {F M w0 n env H a w} (h : Rel F M w0 n env H a w) {t : Nat} {d : D} {v : Value} (hd : Rep w (Own F H) d v) (hn : t < n) : Rel F M w0 n ((t, d) :: env) H (a.put (some t) v) w := by
  refine ⟨fun i d' hi => ?_, h.heap, h.fr, h.mine, h.f0, h.dfr, ?_⟩
  · rw [look_cons] at hi
    by_cases e : t = i
    · subst e
      simp only [if_true, Option.some.injEq] at hi
      subst hi
      refine ⟨v, ?_, hd⟩
      simp [Act.put, h.tsz, hn]
    · rw [if_neg e] at hi
      obtain ⟨u, h1, h2⟩ := h.env i d' hi
      refine ⟨u, ?_, h2⟩
      simp [Act.put, e, h1]
  · simp [Act.put, h.tsz]
/-- The world turns, and with it the objects that are owned. -/
theorem Rel.step {F M w0 n env H a w} (h : Rel F M w0 n env H a w) {H1 : Heap} {w1 : World} (hok : HeapOk F H1 w1) (hfr : Fr (Hb H) w w1)
    (hnew : ∀ b ∈ Hb H1, b ∈ Hb H ∨ w.heap.size ≤ b) : Rel F M w0 n env H1 a w1 := by
  refine ⟨fun i d hi => ?_, hok, h.fr.trans hfr h.mine, fun b hb => ?_, h.f0, h.dfr, h.tsz⟩
  · obtain ⟨u, h1, h2⟩ := h.env i d hi
    refine ⟨u, h1, Rep.mono (fun b hb hO => ⟨fun hO' => ?_, hfr.block b hb (fun hm => hO (.inr hm))⟩) d u h2⟩
    rcases hO' with hF | hm
    · exact hO (.inl hF)
    · rcases hnew b hm with h' | h'
      · exact hO (.inr h')
      · omega
  · rcases hnew b hb with h' | h'
    · exact h.mine b h'
    · exact .inr (Nat.le_trans h.fr.size h')
theorem Ob.Holds.mono {w w' : World} {O O' : Nat → Prop} (h : ∀ b, b < w.heap.size → ¬ O b → ¬ O' b ∧ w'.heap[b]? = w.heap[b]?) {o : Ob} (hb : ∀ b, o.blk = some b → w'.heap[b]? = w.heap[b]?) (ho : o.Holds w O) : o.Holds w' O' := by
  cases o with
  | box b ty cs =>
    obtain ⟨vs, h1, h2⟩ := ho
    exact ⟨vs, by rw [hb b rfl]; exact h1, RepL.mono h cs vs h2⟩
  | arr v ety sz l =>
    obtain ⟨hsz, hl, xs, h1, h2⟩ := ho
    refine ⟨hsz, hl, xs, ?_, RepE.mono h sz l xs h2⟩
    refine ⟨h1.1, ?_⟩
    rcases h1.2 with hn | ⟨g, cap, cur, rfl, h3, h4, h5⟩
    · exact .inl hn
    · exact .inr ⟨g, cap, cur, rfl, h3, by rw [hb g rfl]; exact h4, h5⟩
  | mp b e =>
    obtain ⟨es, k, h1, h2⟩ := ho
    exact ⟨es, k, by rw [hb b rfl]; exact h1, h2⟩
theorem Ob.Holds.blk_lt {w : World} {O : Nat → Prop} {o : Ob} (h : o.Holds w O) {b : Nat} (hb : o.blk = some b) : b < w.heap.size := by
  cases o with
  | box b' ty cs =>
    obtain ⟨vs, h1, _⟩ := h
    simp only [Ob.blk, Option.some.injEq] at hb
    subst hb
    exact (Array.getElem?_eq_some_iff.1 h1).1
  | arr v ety sz l =>
    obtain ⟨_, _, xs, h1, _⟩ := h
    exact (h1.lt b hb).2
  | mp b' e =>
    obtain ⟨es, k, h1, _⟩ := h
    simp only [Ob.blk, Option.some.injEq] at hb
    subst hb
    exact (Array.getElem?_eq_some_iff.1 h1).1
theorem HeapOk.blk_lt {F H w} (h : HeapOk F H w) {b : Nat} (hb : b ∈ Hb H) : b < w.heap.size := by
  obtain ⟨o, ho, hob⟩ := List.mem_filterMap.1 hb
  exact (h.holds o ho).blk_lt hob
theorem mem_Hb {H : Heap} {o : Ob} {b : Nat} (ho : o ∈ H) (hb : o.blk = some b) : b ∈ Hb H := List.mem_filterMap.2 ⟨o, ho, hb⟩
/-- Two objects of one heap with one block are the same place. -/
theorem HeapOk.same {F H w} (h : HeapOk F H w) {i j : Nat} {o o' : Ob} {b : Nat} (hi : H[i]? = some o) (hj : H[j]? = some o') (ho : o.blk = some b) (ho' : o'.blk = some b) : i = j := by
  have hn := h.nodup
  clear h
  induction H generalizing i j with
  | nil => simp at hi
  | cons x r ih =>
    simp only [Hb, List.filterMap_cons] at hn
    cases i with
    | zero =>
      cases j with
      | zero => rfl
      | succ j =>
        simp only [List.getElem?_cons_zero, Option.some.injEq, List.getElem?_cons_succ] at hi hj
        subst hi
        rw [ho] at hn
        exact absurd (mem_Hb (List.mem_of_getElem? hj) ho') (List.nodup_cons.1 hn).1
    | succ i =>
      cases j with
      | zero =>
        simp only [List.getElem?_cons_zero, Option.some.injEq, List.getElem?_cons_succ] at hi hj
        subst hj
        rw [ho'] at hn
        exact absurd (mem_Hb (List.mem_of_getElem? hi) ho) (List.nodup_cons.1 hn).1
      | succ j =>
        simp only [List.getElem?_cons_succ] at hi hj
        have : (Hb r).Nodup := by
          split at hn
          · exact hn
          · exact (List.nodup_cons.1 hn).2
        exact congrArg _ (ih hi hj this)
theorem Hb_set {H : Heap} {k : Nat} {o' : Ob} {b : Nat} (hb : b ∈ Hb (H.set k o')) : b ∈ Hb H ∨ o'.blk = some b := by
  obtain ⟨x, hx, hxb⟩ := List.mem_filterMap.1 hb
  rcases List.mem_or_eq_of_mem_set hx with h | rfl
  · exact .inl (mem_Hb h hxb)
  · exact .inr hxb
/-- One object turns in place. -/
theorem HeapOk.upd {F H w w1} (h : HeapOk F H w) (hF : ∀ b, F b → b < w.heap.size) {k : Nat} {o o' : Ob} (hk : H[k]? = some o) (hfr : Fr o.blk.toList w w1)
    (ho' : ∀ O', (∀ b, b < w.heap.size → ¬ Own F H b → ¬ O' b) → o'.Holds w1 O') (hblk : o'.blk = o.blk ∨ ∀ b, o'.blk = some b → w.heap.size ≤ b) :
    HeapOk F (H.set k o') w1 := by
  have hkl : k < H.length := (List.getElem?_eq_some_iff.1 hk).1
  have hown : ∀ b, b < w.heap.size → ¬ Own F H b → ¬ Own F (H.set k o') b := by
    intro b hb hO hO'
    rcases hO' with h' | h'
    · exact hO (.inl h')
    · rcases Hb_set h' with h' | h'
      · exact hO (.inr h')
      · rcases hblk with e | e
        · exact hO (.inr (mem_Hb (List.mem_of_getElem? hk) (e ▸ h')))
        · have := e b h'; omega
  have hrep : ∀ b, b < w.heap.size → ¬ Own F H b → ¬ Own F (H.set k o') b ∧ w1.heap[b]? = w.heap[b]? := fun b hb hO =>
    ⟨hown b hb hO, hfr.block b hb (fun hm => hO (.inr (mem_Hb (List.mem_of_getElem? hk) (by simpa using hm))))⟩
  refine ⟨fun x hx => ?_, ?_, fun b hb => ?_, fun b hb => Nat.lt_of_lt_of_le (hF b hb) hfr.size⟩
  · obtain ⟨j, hj⟩ := List.getElem?_of_mem hx
    rw [List.getElem?_set] at hj
    by_cases hkj : k = j
    · rw [if_pos hkj] at hj
      subst hkj
      simp only [hkl, if_true, Option.some.injEq] at hj
      subst hj
      exact ho' _ hown
    · rw [if_neg hkj] at hj
      refine (h.holds x (List.mem_of_getElem? hj)).mono hrep (fun b hb => hfr.block b ((h.holds x (List.mem_of_getElem? hj)).blk_lt hb) (fun hm => ?_))
      exact hkj (h.same hk hj (by simpa using hm) hb)
  · -- nodup
    have hn := h.nodup
    have hlt : ∀ b ∈ Hb H, b < w.heap.size := fun b hb => h.blk_lt hb
    clear hrep hown hfr ho' hF h
    induction H generalizing k with
    | nil => simp at hk
    | cons x r ih =>
      cases k with
      | zero =>
        simp only [List.getElem?_cons_zero, Option.some.injEq] at hk
        subst hk
        simp only [List.set_cons_zero]
        simp only [Hb, List.filterMap_cons] at hn hlt ⊢
        cases e' : o'.blk with
        | none =>
          simp only
          split at hn
          · exact hn
          · exact (List.nodup_cons.1 hn).2
        | some b' =>
          simp only
          rcases hblk with e | e
          · rw [← e, e'] at hn
            exact hn
          · refine List.nodup_cons.2 ⟨fun hm => ?_, ?_⟩
            · have h1 := e b' e'
              have h2 := hlt b' (by split <;> first | exact hm | exact List.mem_cons_of_mem _ hm)
              omega
            · split at hn
              · exact hn
              · exact (List.nodup_cons.1 hn).2
      | succ k =>
        simp only [List.getElem?_cons_succ] at hk
        simp only [List.set_cons_succ]
        have hkr : k < r.length := (List.getElem?_eq_some_iff.1 hk).1
        simp only [Hb, List.filterMap_cons] at hn hlt ⊢
        cases ex : x.blk with
        | none =>
          rw [ex] at hn hlt
          simp only at hn hlt ⊢
          exact ih hk hkr hn hlt
        | some bx =>
          rw [ex] at hn hlt
          simp only at hn hlt ⊢
          refine List.nodup_cons.2 ⟨fun hm => ?_, ih hk hkr (List.nodup_cons.1 hn).2 (fun b hb => hlt b (List.mem_cons_of_mem _ hb))⟩
          rcases Hb_set (H := r) hm with h' | h'
          · exact (List.nodup_cons.1 hn).1 h'
          · rcases hblk with e | e
            · exact (List.nodup_cons.1 hn).1 (mem_Hb (List.mem_of_getElem? hk) (e ▸ h'))
            · have h1 := e bx h'
              have h2 := hlt bx (List.mem_cons_self ..)
              omega
  · rcases Hb_set hb with h' | h'
    · exact h.disj b h'
    · rcases hblk with e | e
      · exact h.disj b (mem_Hb (List.mem_of_getElem? hk) (e ▸ h'))
      · intro hF'; have h1 := e b h'; have h2 := hF b hF'; omega
/-- A new object. -/
theorem HeapOk.add {F H w w1} (h : HeapOk F H w) {o' : Ob} (hfr : Fr [] w w1)
    (ho' : ∀ O', (∀ b, b < w.heap.size → ¬ Own F H b → ¬ O' b) → o'.Holds w1 O') (hblk : ∀ b, o'.blk = some b → w.heap.size ≤ b) :
    HeapOk F (o' :: H) w1 := by
  have hmem : ∀ b, b ∈ Hb (o' :: H) → b ∈ Hb H ∨ o'.blk = some b := by
    intro b hb
    obtain ⟨x, hx, hxb⟩ := List.mem_filterMap.1 hb
    rcases List.mem_cons.1 hx with rfl | hx
    · exact .inr hxb
    · exact .inl (mem_Hb hx hxb)
  have hown : ∀ b, b < w.heap.size → ¬ Own F H b → ¬ Own F (o' :: H) b := by
    intro b hb hO hO'
    rcases hO' with h' | h'
    · exact hO (.inl h')
    · rcases hmem b h' with h' | h'
      · exact hO (.inr h')
      · have := hblk b h'; omega
  refine ⟨fun x hx => ?_, ?_, fun b hb => ?_, fun b hb => Nat.lt_of_lt_of_le (h.frb b hb) hfr.size⟩
  · rcases List.mem_cons.1 hx with rfl | hx
    · exact ho' _ hown
    · exact (h.holds x hx).mono (fun b hb hO => ⟨hown b hb hO, hfr.block b hb (by simp)⟩) (fun b hb => hfr.block b ((h.holds x hx).blk_lt hb) (by simp))
  · simp only [Hb, List.filterMap_cons]
    cases e : o'.blk with
    | none => exact h.nodup
    | some b => exact List.nodup_cons.2 ⟨fun hm => by have h1 := hblk b e; have h2 := h.blk_lt hm; omega, h.nodup⟩
  · rcases hmem b hb with h' | h'
    · exact h.disj b h'
    · intro hF; have h1 := hblk b h'; have h2 := h.frb b hF; omega
theorem Rel.add {F M w0 n env H a w} (h : Rel F M w0 n env H a w) {o' : Ob} {w1 : World} (hfr : Fr [] w w1)
    (ho' : ∀ O', (∀ b, b < w.heap.size → ¬ Own F H b → ¬ O' b) → o'.Holds w1 O') (hblk : ∀ b, o'.blk = some b → w.heap.size ≤ b) : Rel F M w0 n env (o' :: H) a w1 := by
  refine h.step (h.heap.add hfr ho' hblk) (hfr.weaken (by simp)) (fun b hb => ?_)
  obtain ⟨x, hx, hxb⟩ := List.mem_filterMap.1 hb
  rcases List.mem_cons.1 hx with rfl | hx
  · exact .inr (hblk b hxb)
  · exact .inl (mem_Hb hx hxb)
theorem Rel.upd {F M w0 n env H a w} (h : Rel F M w0 n env H a w) {k : Nat} {o o' : Ob} {w1 : World} (hk : H[k]? = some o) (hfr : Fr o.blk.toList w w1)
    (ho' : ∀ O', (∀ b, b < w.heap.size → ¬ Own F H b → ¬ O' b) → o'.Holds w1 O') (hblk : o'.blk = o.blk ∨ ∀ b, o'.blk = some b → w.heap.size ≤ b) : Rel F M w0 n env (H.set k o') a w1 := by
  refine h.step (h.heap.upd h.heap.frb hk hfr ho' hblk) (hfr.weaken (fun b hb => mem_Hb (List.mem_of_getElem? hk) (by simpa using hb))) (fun b hb => ?_)
  rcases Hb_set hb with h' | h'
  · exact .inl h'
  · rcases hblk with e | e
    · exact .inl (mem_Hb (List.mem_of_getElem? hk) (e ▸ h'))
    · exact .inr (e b h')
end Go.Av
namespace Go.Av
open Go
set_option linter.unusedSimpArgs false
set_option linter.unusedVariables false
def opd (env : Env) : Operand → Option D
  | .tmp t => look env t
  | .const x => some (.v x)
  | .func f => some (.v (.func (.func f) #[] #[]))
  | .global g => some (.p g 0)
theorem Rel.opd {F M w0 n env H a w} (h : Rel F M w0 n env H a w) {x : Operand} {d : D} (hx : opd env x = some d) : Rep w (Own F H) d (a.eval x) := by
  cases x with
  | tmp t => exact h.eval hx
  | const v => simp only [Av.opd, Option.some.injEq] at hx; subst hx; simp [Rep, Act.eval]
  | func f => simp only [Av.opd, Option.some.injEq] at hx; subst hx; simp [Rep, Act.eval]
  | global g => simp only [Av.opd, Option.some.injEq] at hx; subst hx; simp [Rep, Act.eval]
theorem Rel.opdv {F M w0 n env H a w} (h : Rel F M w0 n env H a w) {x : Operand} {v : Value} (hx : Av.opd env x = some (.v v)) : a.eval x = v := by
  have := h.opd hx
  simpa [Rep] using this
section
variable (P : Program) (n : Nat)
/-- Whatever the world: the operation yields a value that reads as d, and does nothing else. -/
structure AP (o : Oper) (env : Env) (H : Heap) (d : D) : Prop where
  out : ∀ F M w0 a w, Rel F M w0 n env H a w → ∃ v, Rep w (Own F H) d v ∧ ∀ w', (execOp a.eval o).run P w' = .ok (.value v) w'
/-- In every world that agrees with the one at hand outside of the blocks 'Mod'. -/
structure AQ (Mod : List Nat) (o : Oper) (env : Env) (H : Heap) (d : D) : Prop where
  out : ∀ F M w0 a w, Rel F M w0 n env H a w → ∃ v, Rep w (Own F H) d v ∧ ∀ w', (∀ b, b < w.heap.size → b ∉ Mod → w'.heap[b]? = w.heap[b]?) → (execOp a.eval o).run P w' = .ok (.value v) w'
structure AStep (o : Oper) (env : Env) (H : Heap) (K : Env → Heap → Prop) : Prop where
  out : ∀ F M w0 a w, Rel F M w0 n env H a w → ∀ (Kc : Act → World → Prop) (Q : Exit → Act → World → Prop),
    (∀ env' H' a' w', K env' H' → Rel F M w0 n env' H' a' w' → Kc a' w') → o.wp P a w Kc Q
/-- The operations one by one. -/
def AOpsR (ops : Array Oper) : List Oper → Env → Heap → (Env → Heap → Prop) → Prop
  | [], env, H, K => K env H
  | o :: rest, env, H, K =>
    match o.guard with
    | none => AStep P n o env H (fun env' H' => AOpsR ops rest env' H' K)
    | some (j, want) => ∃ t x, o.dst = some t ∧ t < n ∧ ((ops[j]?).bind (·.dst)).bind (look env) = some (D.v x) ∧
        (x = .bool want → AStep P n o env H (fun env' H' => AOpsR ops rest env' H' K)) ∧ (x ≠ .bool want → AOpsR ops rest ((t, .v undef) :: env) H K)
structure AOps (ops : Array Oper) (l : List Oper) (env : Env) (H : Heap) (K : Env → Heap → Prop) : Prop where
  out : AOpsR P n ops l env H K
end
section
variable {P : Program} {n : Nat}
theorem AP.aq {o env H d} (h : AP P n o env H d) (Mod : List Nat) : AQ P n Mod o env H d :=
  ⟨fun F M w0 a w hr => let ⟨v, h1, h2⟩ := h.out F M w0 a w hr; ⟨v, h1, fun w' _ => h2 w'⟩⟩
theorem AStep.mono {o env H} {K K' : Env → Heap → Prop} (h : AStep P n o env H K) (hk : ∀ e h', K e h' → K' e h') : AStep P n o env H K' :=
  ⟨fun F M w0 a w hr Kc Q hK => h.out F M w0 a w hr Kc Q (fun env' H' a' w' k => hK env' H' a' w' (hk _ _ k))⟩
theorem AQ.step {o env H d t} {K : Env → Heap → Prop} (h : AQ P n [] o env H d) (hd : o.dst = some t) (ht : Nat.blt t n = true) (hk : K ((t, d) :: env) H) : AStep P n o env H K := by
  refine ⟨fun F M w0 a w hr Kc Q hK => ?_⟩
  obtain ⟨v, h1, h2⟩ := h.out F M w0 a w hr
  unfold Oper.wp
  rw [h2 w (fun _ _ _ => rfl), Oper.upon_value, hd]
  exact hK _ _ _ _ hk (hr.put h1 (by simpa [Nat.blt_eq] using ht))
theorem Rel.drop {F M w0 env H a w t} (h : Rel F M w0 n env H a w) (hl : look env t = none) (u : Value) : Rel F M w0 n env H (a.put (some t) u) w := by
  refine ⟨fun i d hi => ?_, h.heap, h.fr, h.mine, h.f0, h.dfr, by simp [Act.put, h.tsz]⟩
  obtain ⟨v, h1, h2⟩ := h.env i d hi
  refine ⟨v, ?_, h2⟩
  have : t ≠ i := fun e => by subst e; rw [hl] at hi; cases hi
  simp [Act.put, this, h1]
theorem yielded_of {ops : Array Oper} {F M w0 env H a w j b} (h : Rel F M w0 n env H a w) (hj : ((ops[j]?).bind (·.dst)).bind (look env) = some (D.b b)) : yielded ops a.tmps j = some b := by
  unfold yielded
  cases e : (ops[j]?).bind (·.dst) with
  | none => rw [e] at hj; simp at hj
  | some t =>
    rw [e] at hj
    simp only [Option.bind_some] at hj ⊢
    obtain ⟨v, h1, h2⟩ := h.env t _ hj
    simp only [Rep] at h2
    subst h2
    rw [h1]
theorem yielded_not {ops : Array Oper} {F M w0 env H a w j x want} (h : Rel F M w0 n env H a w) (hj : ((ops[j]?).bind (·.dst)).bind (look env) = some (D.v x)) (hx : x ≠ .bool want) : yielded ops a.tmps j ≠ some want := by
  unfold yielded
  cases e : (ops[j]?).bind (·.dst) with
  | none => rw [e] at hj; simp at hj
  | some t =>
    rw [e] at hj
    simp only [Option.bind_some] at hj ⊢
    obtain ⟨v, h1, h2⟩ := h.env t _ hj
    simp only [Rep] at h2
    subst h2
    rw [h1]
    intro h3
    split at h3
    · rename_i b hb
      simp only [Option.some.injEq] at h3
      subst h3
      injection hb with hb
      exact hx hb
    · cases h3
/-- What is walked so holds of the model's own list. -/
theorem AOpsR.sound {ops : Array Oper} : ∀ (l : List Oper) (env : Env) (H : Heap) (K : Env → Heap → Prop), AOpsR P n ops l env H K →
    ∀ F M w0 a w, Rel F M w0 n env H a w → ∀ (Q : Exit → Act → World → Prop), (∀ env' H' a' w', K env' H' → Rel F M w0 n env' H' a' w' → Q .normal a' w') → wpList P ops Q l a w
  | [], env, H, K, h, F, M, w0, a, w, hr, Q, hQ => hQ _ _ _ _ h hr
  | o :: l, env, H, K, h, F, M, w0, a, w, hr, Q, hQ => by
    unfold AOpsR at h
    unfold wpList
    cases hg : o.guard with
    | none =>
      rw [hg] at h
      rw [if_pos (by simp [Region.wanted, hg])]
      exact .inl (h.out F M w0 a w hr _ _ (fun env' H' a' w' hk hr' => AOpsR.sound l env' H' K hk F M w0 a' w' hr' Q hQ))
    | some jw =>
      obtain ⟨j, want⟩ := jw
      rw [hg] at h
      obtain ⟨t, x, h1, h3, h4, h5, h6⟩ := h
      by_cases hb : x = .bool want
      · have hy := yielded_of hr (hb ▸ h4)
        rw [if_pos (by simp [Region.wanted, hg, hy])]
        exact .inl ((h5 hb).out F M w0 a w hr _ _ (fun env' H' a' w' hk hr' => AOpsR.sound l env' H' K hk F M w0 a' w' hr' Q hQ))
      · have hy := yielded_not hr h4 hb
        rw [if_neg (by simp [Region.wanted, hg, hy])]
        rw [h1]
        exact AOpsR.sound l _ H K (h6 hb) F M w0 _ w (hr.put (by simp [Rep]) h3) Q hQ
theorem AOps.sound {ops : Array Oper} (l : List Oper) (env : Env) (H : Heap) (K : Env → Heap → Prop) (h : AOps P n ops l env H K) :
    ∀ F M w0 a w, Rel F M w0 n env H a w → ∀ (Q : Exit → Act → World → Prop), (∀ env' H' a' w', K env' H' → Rel F M w0 n env' H' a' w' → Q .normal a' w') → wpList P ops Q l a w :=
  AOpsR.sound l env H K h.out
theorem aops_nil {ops env H} {K : Env → Heap → Prop} (h : K env H) : AOps P n ops [] env H K := ⟨h⟩
theorem aops_step {ops o rest env H} {K : Env → Heap → Prop} (hg : o.guard = none) (h : AStep P n o env H (fun env' H' => AOps P n ops rest env' H' K)) : AOps P n ops (o :: rest) env H K := by
  refine ⟨?_⟩
  unfold AOpsR
  rw [hg]
  exact h.mono fun _ _ k => k.out
/-- An operation that only computes. -/
theorem aops_p {ops o rest env H d t} {K : Env → Heap → Prop} (h : AP P n o env H d) (hg : o.guard = none) (hd : o.dst = some t) (ht : Nat.blt t n = true)
    (hk : AOps P n ops rest ((t, d) :: env) H K) : AOps P n ops (o :: rest) env H K :=
  aops_step hg ((h.aq []).step hd ht hk)
/-- An operation that only reads. -/
theorem aops_q {ops o rest env H d t} {K : Env → Heap → Prop} (h : AQ P n [] o env H d) (hg : o.guard = none) (hd : o.dst = some t) (ht : Nat.blt t n = true)
    (hk : AOps P n ops rest ((t, d) :: env) H K) : AOps P n ops (o :: rest) env H K :=
  aops_step hg (h.step hd ht hk)
/-- A guarded operation: the guard said yes; no; either. -/
theorem aops_yes {ops rest env H} {K : Env → Heap → Prop} {op : Op} {dst : Option Tmp} {ty pos after j want b t} (hd : dst = some t) (hl : look env t = none) (ht : Nat.blt t n = true) (hj : ((ops[j]?).bind (·.dst)).bind (look env) = some (D.b b)) (hb : b = want)
    (h : AOps P n ops (⟨dst, op, ty, pos, after, none⟩ :: rest) env H K) : AOps P n ops (⟨dst, op, ty, pos, after, some (j, want)⟩ :: rest) env H K := by
  subst hd
  have h := h.out
  refine ⟨?_⟩
  unfold AOpsR at h ⊢
  refine ⟨t, .bool b, rfl, by simpa [Nat.blt_eq] using ht, hj, fun _ => ⟨fun F M w0 a w hr Kc Q hK => ?_⟩, fun hb' => absurd (congrArg Value.bool hb) hb'⟩
  have := h.out F M w0 a w hr Kc Q hK
  exact this
theorem aops_no {ops rest env H} {K : Env → Heap → Prop} {op : Op} {dst : Option Tmp} {ty pos after j want b t} (hd : dst = some t) (hl : look env t = none) (ht : Nat.blt t n = true) (hj : ((ops[j]?).bind (·.dst)).bind (look env) = some (D.b b)) (hb : b = !want)
    (h : AOps P n ops rest ((t, .v undef) :: env) H K) : AOps P n ops (⟨dst, op, ty, pos, after, some (j, want)⟩ :: rest) env H K := by
  subst hd
  refine ⟨?_⟩
  unfold AOpsR
  exact ⟨t, .bool b, rfl, by simpa [Nat.blt_eq] using ht, hj, fun hb' => by injection hb' with hb'; subst hb'; cases b <;> simp at hb, fun _ => h.out⟩
/-- The guard itself was left out. -/
theorem aops_no_u {ops rest env H} {K : Env → Heap → Prop} {op : Op} {dst : Option Tmp} {ty pos after j want t} (hd : dst = some t) (ht : Nat.blt t n = true) (hj : ((ops[j]?).bind (·.dst)).bind (look env) = some (.v undef))
    (h : AOps P n ops rest ((t, .v undef) :: env) H K) : AOps P n ops (⟨dst, op, ty, pos, after, some (j, want)⟩ :: rest) env H K := by
  subst hd
  refine ⟨?_⟩
  unfold AOpsR
  exact ⟨t, undef, rfl, by simpa [Nat.blt_eq] using ht, hj, fun hb' => (by unfold undef at hb'; cases hb'), fun _ => h.out⟩
theorem aops_guard {ops rest env H} {K : Env → Heap → Prop} {op : Op} {dst : Option Tmp} {ty pos after j want b t} (hd : dst = some t) (hl : look env t = none) (ht : Nat.blt t n = true) (hj : ((ops[j]?).bind (·.dst)).bind (look env) = some (D.b b))
    (h : b = want → AOps P n ops (⟨dst, op, ty, pos, after, none⟩ :: rest) env H K) (h' : b = (!want) → AOps P n ops rest ((t, .v undef) :: env) H K) : AOps P n ops (⟨dst, op, ty, pos, after, some (j, want)⟩ :: rest) env H K := by
  by_cases hb : b = want
  · exact aops_yes hd hl ht hj hb (h hb)
  · exact aops_no hd hl ht hj (by cases b <;> cases want <;> simp_all) (h' (by cases b <;> cases want <;> simp_all))
section pure
variable {env : Env} {H : Heap} {dst : Option Tmp} {ty : TypeId} {pos : String} {after : Array Edge} {gd : Option (Nat × Bool)} {x y z : Operand}
theorem ap_move {d} (hx : opd env x = some d) : AP P n ⟨dst, .move x, ty, pos, after, gd⟩ env H d :=
  ⟨fun F M w0 a w hr => ⟨a.eval x, hr.opd hx, fun w' => rfl⟩⟩
theorem ap_assign {d} (hx : opd env x = some d) : AP P n ⟨dst, .assign x, ty, pos, after, gd⟩ env H d :=
  ⟨fun F M w0 a w hr => ⟨a.eval x, hr.opd hx, fun w' => rfl⟩⟩
theorem ap_not {c t} (hx : opd env x = some (.b c)) : AP P n ⟨dst, .unOp .not t x, ty, pos, after, gd⟩ env H (.b !c) := by
  refine ⟨fun F M w0 a w hr => ?_⟩
  have h1 := hr.opdv hx
  refine ⟨.bool !c, by simp [Rep], fun w' => ?_⟩
  simp [execOp, h1, Op.unary]
theorem ap_pick_true {c d} (hx : opd env x = some (.b c)) (hc : c = true) (hy : opd env y = some d) : AP P n ⟨dst, .pick x y z, ty, pos, after, gd⟩ env H d := by
  refine ⟨fun F M w0 a w hr => ?_⟩
  have h1 := hr.opdv hx
  subst hc
  exact ⟨a.eval y, hr.opd hy, fun w' => by simp [execOp, h1, asBool]⟩
theorem ap_pick_false {c d} (hx : opd env x = some (.b c)) (hc : c = false) (hy : opd env z = some d) : AP P n ⟨dst, .pick x y z, ty, pos, after, gd⟩ env H d := by
  refine ⟨fun F M w0 a w hr => ?_⟩
  have h1 := hr.opdv hx
  subst hc
  exact ⟨a.eval z, hr.opd hy, fun w' => by simp [execOp, h1, asBool]⟩
/-- A comparison of two integers. -/
def cmpI : BinOp → Int → Int → Option Bool
  | .lss, x, y => some (decide (x < y))
  | .leq, x, y => some (decide (x ≤ y))
  | .gtr, x, y => some (decide (y < x))
  | .geq, x, y => some (decide (y ≤ x))
  | .eql, x, y => some (decide (x = y))
  | .neq, x, y => some (!decide (x = y))
  | _, _, _ => none
theorem ap_cmp {op k p q c t u} (hx : opd env x = some (.v (.int k p))) (hy : opd env y = some (.v (.int k q))) (hc : cmpI op p q = some c) : AP P n ⟨dst, .binOp op t x y u, ty, pos, after, gd⟩ env H (.b c) := by
  refine ⟨fun F M w0 a w hr => ?_⟩
  have h1 := hr.opdv hx
  have h2 := hr.opdv hy
  refine ⟨.bool c, by simp [Rep], fun w' => ?_⟩
  cases op <;> simp only [cmpI, Option.some.injEq, reduceCtorEq] at hc <;> subst hc <;>
    simp [execOp, h1, h2, eqGuard, binOp, Op.intCmp] <;> rfl
theorem wrap_id {m : Int} (h : -9223372036854775808 ≤ m) (h' : m ≤ 9223372036854775807) : IntKind.i64.wrap m = m := by
  simp only [IntKind.wrap, IntKind.bits, IntKind.signed]
  simp
  split <;> omega
def addI : BinOp → Int → Int → Option Int
  | .add, x, y => some (x + y)
  | .sub, x, y => some (x - y)
  | .mul, x, y => some (x * y)
  | _, _, _ => none
/-- Sums, differences and products that fit. -/
theorem ap_arith {op p q m t u} (hx : opd env x = some (.i p)) (hy : opd env y = some (.i q)) (hm : addI op p q = some m) (hb : -9223372036854775808 ≤ m ∧ m ≤ 9223372036854775807) : AP P n ⟨dst, .binOp op t x y u, ty, pos, after, gd⟩ env H (.i m) := by
  refine ⟨fun F M w0 a w hr => ?_⟩
  have h1 := hr.opdv hx
  have h2 := hr.opdv hy
  refine ⟨.int .i64 m, by simp [Rep], fun w' => ?_⟩
  cases op <;> simp only [addI, Option.some.injEq, reduceCtorEq] at hm <;> subst hm <;>
    simp [execOp, h1, h2, eqGuard, binOp, Op.intArith, wrap_id hb.1 hb.2]
/-- The same, at any kind, with the wrap. -/
theorem ap_arithw {op k p q m t u} (hx : opd env x = some (.v (.int k p))) (hy : opd env y = some (.v (.int k q))) (hm : addI op p q = some m) : AP P n ⟨dst, .binOp op t x y u, ty, pos, after, gd⟩ env H (.v (.int k (k.wrap m))) := by
  refine ⟨fun F M w0 a w hr => ?_⟩
  have h1 := hr.opdv hx
  have h2 := hr.opdv hy
  refine ⟨.int k (k.wrap m), by simp [Rep], fun w' => ?_⟩
  cases op <;> simp only [addI, Option.some.injEq, reduceCtorEq] at hm <;> subst hm <;>
    simp [execOp, h1, h2, eqGuard, binOp, Op.intArith]
theorem ap_rem {k p q t u} (hx : opd env x = some (.v (.int k p))) (hy : opd env y = some (.v (.int k q))) (hq : q ≠ 0) : AP P n ⟨dst, .binOp .rem t x y u, ty, pos, after, gd⟩ env H (.v (.int k (p.tmod q))) := by
  refine ⟨fun F M w0 a w hr => ?_⟩
  have h1 := hr.opdv hx
  have h2 := hr.opdv hy
  refine ⟨.int k (p.tmod q), by simp [Rep], fun w' => ?_⟩
  simp [execOp, h1, h2, eqGuard, binOp, Op.intDiv, hq]
theorem ap_quo {k p q t u} (hx : opd env x = some (.v (.int k p))) (hy : opd env y = some (.v (.int k q))) (hq : q ≠ 0) : AP P n ⟨dst, .binOp .quo t x y u, ty, pos, after, gd⟩ env H (.v (.int k (k.wrap (p.tdiv q)))) := by
  refine ⟨fun F M w0 a w hr => ?_⟩
  have h1 := hr.opdv hx
  have h2 := hr.opdv hy
  refine ⟨.int k (k.wrap (p.tdiv q)), by simp [Rep], fun w' => ?_⟩
  simp [execOp, h1, h2, eqGuard, binOp, Op.intDiv, hq]
/-- Bits of two sets. -/
def bitN : BinOp → Nat → Nat → Option Nat
  | .and, x, y => some (x &&& y)
  | .or, x, y => some (x ||| y)
  | .xor, x, y => some (x ^^^ y)
  | .andNot, x, y => some (x &&& (2 ^ 63 - 1 - y))
  | _, _, _ => none
theorem wrap_nat {m : Nat} (h : m < 9223372036854775808) : IntKind.i64.wrap (m : Int) = m := wrap_id (by omega) (by omega)
theorem andNot_nat {p q : Nat} (hp : p < 9223372036854775808) (hq : q < 9223372036854775808) : (BitVec.ofNat 64 p &&& ~~~BitVec.ofNat 64 q).toNat = p &&& (2 ^ 63 - 1 - q) := by
  have hp64 : p % 2 ^ 64 = p := Nat.mod_eq_of_lt (by omega)
  have hq64 : q % 2 ^ 64 = q := Nat.mod_eq_of_lt (by omega)
  rw [BitVec.toNat_and, BitVec.toNat_not, BitVec.toNat_ofNat, BitVec.toNat_ofNat, hp64, hq64]
  apply Nat.eq_of_testBit_eq
  intro i
  rw [Nat.testBit_and, Nat.testBit_and]
  by_cases hi : i < 63
  · rw [show 2 ^ 64 - 1 - q = 2 ^ 64 - (q + 1) by omega, show 2 ^ 63 - 1 - q = 2 ^ 63 - (q + 1) by omega, Nat.testBit_two_pow_sub_succ (by omega), Nat.testBit_two_pow_sub_succ (by omega)]
    simp [hi, show i < 64 by omega]
  · have : p.testBit i = false := Nat.testBit_lt_two_pow (Nat.lt_of_lt_of_le hp (by show 2 ^ 63 ≤ _; exact Nat.pow_le_pow_right (by omega) (by omega)))
    simp [this]
theorem intBits_nat {op : BinOp} {p q m : Nat} (hm : bitN op p q = some m) (hp : p < 9223372036854775808) (hq : q < 9223372036854775808) : Op.intBits op .i64 p q = pure (.int .i64 m) := by
  have hp64 : p % 2 ^ 64 = p := Nat.mod_eq_of_lt (by omega)
  have hq64 : q % 2 ^ 64 = q := Nat.mod_eq_of_lt (by omega)
  have e1 := BitVec.ofInt_natCast 64 p
  have e2 := BitVec.ofInt_natCast 64 q
  cases op <;> simp only [bitN, Option.some.injEq, reduceCtorEq] at hm <;> subst hm
  · refine congrArg (fun z => (pure (Value.int .i64 z) : Sem Value)) (?_ : IntKind.i64.wrap (((BitVec.ofInt 64 (p : Int)) &&& (BitVec.ofInt 64 (q : Int))).toNat : Int) = _)
    rw [e1, e2, show (BitVec.ofNat 64 p &&& BitVec.ofNat 64 q).toNat = p &&& q by simp [BitVec.toNat_and, hp64, hq64]]
    exact wrap_nat (Nat.lt_of_le_of_lt Nat.and_le_left hp)
  · refine congrArg (fun z => (pure (Value.int .i64 z) : Sem Value)) (?_ : IntKind.i64.wrap (((BitVec.ofInt 64 (p : Int)) ||| (BitVec.ofInt 64 (q : Int))).toNat : Int) = _)
    have hlt : p ||| q < 2 ^ 63 := Nat.or_lt_two_pow (by omega) (by omega)
    rw [e1, e2, show (BitVec.ofNat 64 p ||| BitVec.ofNat 64 q).toNat = p ||| q by simp [BitVec.toNat_or, hp64, hq64]]
    exact wrap_nat (by omega)
  · refine congrArg (fun z => (pure (Value.int .i64 z) : Sem Value)) (?_ : IntKind.i64.wrap (((BitVec.ofInt 64 (p : Int)) ^^^ (BitVec.ofInt 64 (q : Int))).toNat : Int) = _)
    have hlt : p ^^^ q < 2 ^ 63 := Nat.xor_lt_two_pow (by omega) (by omega)
    rw [e1, e2, show (BitVec.ofNat 64 p ^^^ BitVec.ofNat 64 q).toNat = p ^^^ q by simp [BitVec.toNat_xor, hp64, hq64]]
    exact wrap_nat (by omega)
  · refine congrArg (fun z => (pure (Value.int .i64 z) : Sem Value)) (?_ : IntKind.i64.wrap (((BitVec.ofInt 64 (p : Int)) &&& ~~~(BitVec.ofInt 64 (q : Int))).toNat : Int) = _)
    rw [e1, e2, andNot_nat hp hq]
    exact wrap_nat (Nat.lt_of_le_of_lt Nat.and_le_left hp)
theorem ap_bits {op} {p q m : Nat} {t u} (hx : opd env x = some (.i p)) (hy : opd env y = some (.i q)) (hm : bitN op p q = some m) (hp : p < 9223372036854775808) (hq : q < 9223372036854775808) :
    AP P n ⟨dst, .binOp op t x y u, ty, pos, after, gd⟩ env H (.i m) := by
  refine ⟨fun F M w0 a w hr => ?_⟩
  have h1 := hr.opdv hx
  have h2 := hr.opdv hy
  refine ⟨.int .i64 m, by simp [Rep], fun w' => ?_⟩
  have hi := intBits_nat hm hp hq
  cases op <;> simp only [bitN, reduceCtorEq] at hm <;> simp [execOp, h1, h2, eqGuard, binOp, hi]
theorem ap_shl {p k : Nat} {m : Nat} {t u kk} (hx : opd env x = some (.i p)) (hy : opd env y = some (.v (.int kk (k : Int)))) (hm : m = p * 2 ^ k) (hk : k ≤ 62) (hp : m < 9223372036854775808) :
    AP P n ⟨dst, .binOp .shl t x y u, ty, pos, after, gd⟩ env H (.i m) := by
  refine ⟨fun F M w0 a w hr => ?_⟩
  have h1 := hr.opdv hx
  have h2 := hr.opdv hy
  refine ⟨.int .i64 m, by simp [Rep], fun w' => ?_⟩
  have hmin : min k 64 = k := by omega
  have e : (p : Int) * 2 ^ k = (m : Int) := by subst hm; push_cast; rfl
  simp [execOp, h1, h2, eqGuard, binOp, Op.shift, show ¬ ((k : Int) < 0) by omega, IntKind.bits, hmin, e, wrap_nat hp]
theorem ap_shr {p k : Nat} {t u kk} (hx : opd env x = some (.i p)) (hy : opd env y = some (.v (.int kk (k : Int)))) (hk : k ≤ 62) :
    AP P n ⟨dst, .binOp .shr t x y u, ty, pos, after, gd⟩ env H (.i ((p / 2 ^ k : Nat) : Int)) := by
  refine ⟨fun F M w0 a w hr => ?_⟩
  have h1 := hr.opdv hx
  have h2 := hr.opdv hy
  refine ⟨.int .i64 ((p / 2 ^ k : Nat) : Int), by simp [Rep], fun w' => ?_⟩
  have hmin : min k 64 = k := by omega
  have e : (p : Int).fdiv (2 ^ k) = ((p / 2 ^ k : Nat) : Int) := by
    rw [Int.fdiv_eq_ediv_of_nonneg _ (Int.le_of_lt (Int.pow_pos (by omega)))]
    push_cast
    rfl
  simp [execOp, h1, h2, eqGuard, binOp, Op.shift, show ¬ ((k : Int) < 0) by omega, IntKind.bits, hmin, e]
end pure
end
end Go.Av
namespace Go.Av
open Go
set_option linter.unusedSimpArgs false
set_option linter.unusedVariables false
section
variable {w : World} {O : Nat → Prop}
theorem RepL.length : ∀ {l : List D} {cs : List Value}, RepL w O l cs → l.length = cs.length
  | [], cs, h => by simp only [RepL] at h; subst h; rfl
  | d :: r, cs, h => by
    simp only [RepL] at h
    obtain ⟨c, cr, rfl, _, _, h4⟩ := h
    simp [RepL.length h4]
theorem RepL.one : ∀ {l : List D} {cs : List Value}, RepL w O l cs → ∀ u ∈ cs, u.oneCell' = true
  | [], cs, h, u, hu => by simp only [RepL] at h; subst h; cases hu
  | d :: r, cs, h, u, hu => by
    simp only [RepL] at h
    obtain ⟨c, cr, rfl, _, h3, h4⟩ := h
    rcases List.mem_cons.1 hu with rfl | hu
    · exact h3
    · exact RepL.one h4 u hu
theorem RepL.get : ∀ {l : List D} {cs : List Value} {i : Nat} {d : D}, RepL w O l cs → l[i]? = some d → ∃ c, cs[i]? = some c ∧ Rep w O d c ∧ c.oneCell' = true
  | [], cs, i, d, h, hi => by simp at hi
  | e :: r, cs, i, d, h, hi => by
    simp only [RepL] at h
    obtain ⟨c, cr, rfl, h2, h3, h4⟩ := h
    cases i with
    | zero => simp only [List.getElem?_cons_zero, Option.some.injEq] at hi; subst hi; exact ⟨c, rfl, h2, h3⟩
    | succ i => simp only [List.getElem?_cons_succ] at hi ⊢; exact RepL.get h4 hi
theorem RepL.append : ∀ {l l' : List D} {cs cs' : List Value}, RepL w O l cs → RepL w O l' cs' → RepL w O (l ++ l') (cs ++ cs')
  | [], l', cs, cs', h, h' => by simp only [RepL] at h; subst h; simpa using h'
  | d :: r, l', cs, cs', h, h' => by
    simp only [RepL] at h
    obtain ⟨c, cr, rfl, h2, h3, h4⟩ := h
    simp only [List.cons_append, RepL]
    exact ⟨c, cr ++ cs', rfl, h2, h3, RepL.append h4 h'⟩
theorem RepL.drop : ∀ {l : List D} {cs : List Value} (i : Nat), RepL w O l cs → RepL w O (l.drop i) (cs.drop i)
  | l, cs, 0, h => by simpa using h
  | [], cs, i + 1, h => by simp only [RepL] at h; subst h; simp [RepL]
  | d :: r, cs, i + 1, h => by
    simp only [RepL] at h
    obtain ⟨c, cr, rfl, _, _, h4⟩ := h
    simpa using RepL.drop i h4
theorem RepL.take : ∀ {l : List D} {cs : List Value} (i : Nat), RepL w O l cs → RepL w O (l.take i) (cs.take i)
  | l, cs, 0, h => by simp [RepL]
  | [], cs, i + 1, h => by simp only [RepL] at h; subst h; simp [RepL]
  | d :: r, cs, i + 1, h => by
    simp only [RepL] at h
    obtain ⟨c, cr, rfl, h2, h3, h4⟩ := h
    simp only [List.take_succ_cons, RepL]
    exact ⟨c, _, rfl, h2, h3, RepL.take i h4⟩
theorem RepE.len {sz : Nat} : ∀ {l : List D} {cs : List Value}, RepE w O sz l cs → cs.length = l.length * sz
  | [], cs, h => by simp only [RepE] at h; subst h; simp
  | d :: r, cs, h => by
    simp only [RepE] at h
    obtain ⟨c, cr, rfl, h2, _, _, h5⟩ := h
    simp only [List.length_append, Array.length_toList, h2, RepE.len h5, List.length_cons]
    rw [Nat.add_mul, Nat.one_mul, Nat.add_comm]
theorem RepE.one {sz : Nat} : ∀ {l : List D} {cs : List Value}, RepE w O sz l cs → ∀ u ∈ cs, u.oneCell' = true
  | [], cs, h, u, hu => by simp only [RepE] at h; subst h; cases hu
  | d :: r, cs, h, u, hu => by
    simp only [RepE] at h
    obtain ⟨c, cr, rfl, h2, h3, _, h5⟩ := h
    rcases List.mem_append.1 hu with hu | hu
    · exact h3 u hu
    · exact RepE.one h5 u hu
theorem RepE.append {sz : Nat} : ∀ {l l' : List D} {cs cs' : List Value}, RepE w O sz l cs → RepE w O sz l' cs' → RepE w O sz (l ++ l') (cs ++ cs')
  | [], l', cs, cs', h, h' => by simp only [RepE] at h; subst h; simpa using h'
  | d :: r, l', cs, cs', h, h' => by
    simp only [RepE] at h
    obtain ⟨c, cr, rfl, h2, h3, h4, h5⟩ := h
    simp only [List.cons_append, RepE]
    exact ⟨c, cr ++ cs', by simp, h2, h3, h4, RepE.append h5 h'⟩
theorem RepE.get {sz : Nat} : ∀ {l : List D} {cs : List Value} {k : Nat} {d : D}, RepE w O sz l cs → l[k]? = some d →
    ∃ c, c.cells.size = sz ∧ (∀ u ∈ c.cells.toList, u.oneCell' = true) ∧ Rep w O d c ∧ ∀ j u, c.cells.toList[j]? = some u → cs[k * sz + j]? = some u
  | [], cs, k, d, h, hi => by simp at hi
  | e :: r, cs, k, d, h, hi => by
    simp only [RepE] at h
    obtain ⟨c, cr, rfl, h2, h3, h4, h5⟩ := h
    cases k with
    | zero =>
      simp only [List.getElem?_cons_zero, Option.some.injEq] at hi
      subst hi
      refine ⟨c, h2, h3, h4, fun j u hu => ?_⟩
      have hj : j < c.cells.toList.length := (List.getElem?_eq_some_iff.1 hu).1
      rw [Nat.zero_mul, Nat.zero_add, List.getElem?_append_left hj]
      exact hu
    | succ k =>
      simp only [List.getElem?_cons_succ] at hi
      obtain ⟨c', g1, g2, g3, g4⟩ := RepE.get h5 hi
      refine ⟨c', g1, g2, g3, fun j u hu => ?_⟩
      have : (k + 1) * sz + j = c.cells.toList.length + (k * sz + j) := by
        rw [Array.length_toList, h2, Nat.add_mul, Nat.one_mul]; omega
      rw [this, List.getElem?_append_right (by omega), Nat.add_sub_cancel_left]
      exact g4 j u hu
theorem RepE.take {sz : Nat} : ∀ {l : List D} {cs : List Value} (i : Nat), RepE w O sz l cs → RepE w O sz (l.take i) (cs.take (i * sz))
  | l, cs, 0, h => by simp [RepE]
  | [], cs, i + 1, h => by simp only [RepE] at h; subst h; simp [RepE]
  | d :: r, cs, i + 1, h => by
    simp only [RepE] at h
    obtain ⟨c, cr, rfl, h2, h3, h4, h5⟩ := h
    simp only [List.take_succ_cons, RepE]
    refine ⟨c, cr.take (i * sz), ?_, h2, h3, h4, RepE.take i h5⟩
    have : (i + 1) * sz = c.cells.toList.length + i * sz := by rw [Array.length_toList, h2, Nat.add_mul, Nat.one_mul]; omega
    rw [this, List.take_append, List.take_of_length_le (by omega), Nat.add_sub_cancel_left]
theorem RepE.drop {sz : Nat} : ∀ {l : List D} {cs : List Value} (i : Nat), RepE w O sz l cs → RepE w O sz (l.drop i) (cs.drop (i * sz))
  | l, cs, 0, h => by simpa using h
  | [], cs, i + 1, h => by simp only [RepE] at h; subst h; simp [RepE]
  | d :: r, cs, i + 1, h => by
    simp only [RepE] at h
    obtain ⟨c, cr, rfl, h2, h3, h4, h5⟩ := h
    have : (i + 1) * sz = c.cells.toList.length + i * sz := by rw [Array.length_toList, h2, Nat.add_mul, Nat.one_mul]; omega
    have e1 : c.cells.toList.drop (c.cells.toList.length + i * sz) = [] := List.drop_eq_nil_of_le (by omega)
    rw [List.drop_succ_cons, this, List.drop_append, e1, Nat.add_sub_cancel_left, List.nil_append]
    exact RepE.drop i h5
end
/-- 'o' stands in the heap; the heap with another in its place. -/
inductive UpdF : Heap → Ob → (Ob → Heap) → Prop
  | here {o r} : UpdF (o :: r) o (fun o' => o' :: r)
  | there {x r o f} (h : UpdF r o f) : UpdF (x :: r) o (fun o' => x :: f o')
theorem UpdF.set {H o f} (h : UpdF H o f) : ∃ k, H[k]? = some o ∧ ∀ o', f o' = H.set k o' := by
  induction h with
  | here => exact ⟨0, rfl, fun _ => rfl⟩
  | there h ih => obtain ⟨k, h1, h2⟩ := ih; exact ⟨k + 1, by simpa using h1, fun o' => by simp [h2]⟩
theorem UpdF.mem {H o f} (h : UpdF H o f) : o ∈ H := by
  obtain ⟨k, h1, _⟩ := h.set
  exact List.mem_of_getElem? h1
/-- The cells from 'off' on. -/
inductive SubL : List D → Nat → Nat → List D → Prop
  | nil {cs} : SubL cs 0 0 []
  | cons {c cs n r} (h : SubL cs 0 n r) : SubL (c :: cs) 0 (n + 1) (c :: r)
  | skip {c cs o n r} (h : SubL cs o n r) : SubL (c :: cs) (o + 1) n r
theorem SubL.eq {cs o n r} (h : SubL cs o n r) : r = (cs.drop o).take n ∧ o + n ≤ cs.length := by
  induction h with
  | nil => simp
  | cons h ih => obtain ⟨h1, h2⟩ := ih; subst h1; simp at h2 ⊢; omega
  | skip h ih => obtain ⟨h1, h2⟩ := ih; subst h1; simp at h2 ⊢; omega
/-- Other cells in the place of those from 'off' on. -/
inductive Spl : List D → Nat → List D → List D → Prop
  | nil {cs} : Spl cs 0 [] cs
  | cons {c cs d ds r} (h : Spl cs 0 ds r) : Spl (c :: cs) 0 (d :: ds) (d :: r)
  | skip {c cs o ds r} (h : Spl cs o ds r) : Spl (c :: cs) (o + 1) ds (c :: r)
theorem Spl.eq {cs o ds r} (h : Spl cs o ds r) : r = cs.take o ++ ds ++ cs.drop (o + ds.length) ∧ o + ds.length ≤ cs.length := by
  induction h with
  | nil => simp
  | cons h ih => obtain ⟨h1, h2⟩ := ih; subst h1; simp at h2 ⊢; omega
  | skip h ih =>
    obtain ⟨h1, h2⟩ := ih
    subst h1
    simp only [List.length_cons, List.take_succ_cons, List.cons_append]
    refine ⟨?_, by omega⟩
    congr 2
    rw [show ∀ a b c : Nat, a + 1 + b = (a + b) + 1 by omega, List.drop_succ_cons]
    all_goals first | rfl | exact 0
/-- The cells of what is stored. -/
inductive Flat : D → List D → Prop
  | agg {l} : Flat (.agg l) l
  | v {x} (h : x.oneCell' = true) : Flat (.v x) [.v x]
  | sl {sz l} : Flat (.sl sz l) [.sl sz l]
theorem Flat.rep {w : World} {O : Nat → Prop} {d l v} (h : Flat d l) (hr : Rep w O d v) : ∃ cs : List Value, v.cells = cs.toArray ∧ RepL w O l cs := by
  cases h with
  | agg =>
    simp only [Rep] at hr
    obtain ⟨cs, rfl, h2⟩ := hr
    exact ⟨cs, rfl, h2⟩
  | v hx =>
    simp only [Rep] at hr
    subst hr
    refine ⟨[v], ?_, ?_⟩
    · cases v <;> simp [Value.oneCell'] at hx <;> rfl
    · simp only [RepL]
      exact ⟨v, [], rfl, by simp [Rep], hx, rfl⟩
  | sl =>
    have h1 : v.oneCell' = true ∧ v.cells = #[v] := by
      simp only [Rep] at hr
      obtain ⟨_, cs, _, ⟨a, cap, rfl, _⟩ | ⟨rfl, _⟩⟩ := hr <;> exact ⟨rfl, rfl⟩
    refine ⟨[v], h1.2, ?_⟩
    simp only [RepL]
    exact ⟨v, [], rfl, hr, h1.1, rfl⟩
inductive Scal : D → Prop
  | v {x} (h : x.oneCell' = true) : Scal (.v x)
  | sl {sz l} : Scal (.sl sz l)
inductive AllV : List Value → List D → Prop
  | nil : AllV [] []
  | cons {u us ds} (hu : u.oneCell' = true) (h : AllV us ds) : AllV (u :: us) (.v u :: ds)
theorem AllV.rep {w : World} {O : Nat → Prop} {us ds} (h : AllV us ds) : RepL w O ds us := by
  induction h with
  | nil => simp [RepL]
  | cons hu h ih => simp only [RepL]; exact ⟨_, _, rfl, by simp [Rep], hu, ih⟩
section
variable (P : Program)
def tagg (t : TypeId) : Option Bool := match P.underlying t with
  | some (.struct _) => some true
  | some (.array _ _) => some true
  | some _ => some false
  | none => none
def tsize (t : TypeId) : Option Nat := (P.info? t).map (·.size)
def telem (t : TypeId) : Option TypeId := match P.underlying t with | some (.slice e) => some e | _ => none
def tzero (t : TypeId) : Option (List Value) := match P.info? t with | some i => (match i.zero with | some z => some z.cells.toList | none => none) | none => none
/-- A field's place, its cells, and whether it is a struct or an array. -/
def tfield (s : TypeId) (f : Nat) : Option (Nat × Nat × Bool) := match P.underlying s with
  | some (.struct fs) => (match fs[f]? with
    | some fd => (match tsize P fd.type, tagg P fd.type with | some (n + 1), some g => some (fd.offset, n + 1, g) | _, _ => none)
    | none => none)
  | _ => none
end
section
variable {P : Program}
theorem run_isAgg {t g} (h : tagg P t = some g) (w : World) : (isAgg t).run P w = .ok g w := by
  unfold tagg at h
  cases e : P.underlying t with
  | none => rw [e] at h; cases h
  | some d =>
    rw [e] at h
    unfold isAgg
    rw [Sem.run_bind, run_underlying e w]
    cases d <;> simp_all
theorem run_sizeOf {t m} (h : tsize P t = some m) (w : World) : (sizeOf t).run P w = .ok m w := by
  unfold tsize at h
  cases e : P.info? t with
  | none => rw [e] at h; cases h
  | some i => rw [e] at h; simp only [Option.map_some, Option.some.injEq] at h; subst h; simp [sizeOf, typeInfo, e]
theorem telem_under {t e} (h : telem P t = some e) : P.underlying t = some (.slice e) := by
  unfold telem at h
  split at h
  · rename_i e' he; simp only [Option.some.injEq] at h; subst h; exact he
  · cases h
variable {n : Nat} {env : Env} {H : Heap} {dst : Option Tmp} {ty : TypeId} {pos : String} {after : Array Edge} {gd : Option (Nat × Bool)} {x y z : Operand}
theorem tfield_spec {s f off sz g} (h : tfield P s f = some (off, sz, g)) : ∃ (fs : Array Field) (fd : Field), P.underlying s = some (.struct fs) ∧ fs[f]? = some fd ∧ tsize P fd.type = some sz ∧ 0 < sz ∧ tagg P fd.type = some g ∧ fd.offset = off := by
  unfold tfield at h
  split at h
  · rename_i fs e
    split at h
    · rename_i fd e2
      split at h
      · rename_i m g' e3 e4
        simp only [Option.some.injEq, Prod.mk.injEq] at h
        obtain ⟨h1, h2, h3⟩ := h
        exact ⟨fs, fd, e, e2, by rw [e3]; exact congrArg some h2, by omega, by rw [e4, h3], h1⟩
      · cases h
    · cases h
  · cases h
theorem ap_fieldAddr {s f b o off sz g} (hx : opd env x = some (.p b o)) (hf : tfield P s f = some (off, sz, g)) : AP P n ⟨dst, .fieldAddr s x f, ty, pos, after, gd⟩ env H (.p b (o + off)) := by
  refine ⟨fun F M w0 a w hr => ?_⟩
  have h1 := hr.opdv hx
  obtain ⟨fs, fd, e1, e2, e3, e4, _, e6⟩ := tfield_spec hf
  refine ⟨.pointer (some ⟨b, o + off, none⟩), by simp [Rep], fun w' => ?_⟩
  have hadd : (⟨b, o, none⟩ : Addr).add off = ⟨b, o + off, none⟩ := by unfold Addr.add; split <;> simp_all
  have hne : sz ≠ 0 := by omega
  simp [execOp, h1, Instr.fieldAt, run_underlying e1, e2, Instr.sureAddr, fieldPlace, run_sizeOf e3, e6, hadd, hne]
/-- The address of a field of a struct that nobody writes. -/
theorem ap_fieldAddr_el {s f l off sz g r} (hx : opd env x = some (.el (.agg l))) (hf : tfield P s f = some (off, sz, g)) (hs : SubL l off sz r) : AP P n ⟨dst, .fieldAddr s x f, ty, pos, after, gd⟩ env H (.el (.agg r)) := by
  refine ⟨fun F M w0 a w hr => ?_⟩
  have h1 := hr.opd hx
  obtain ⟨fs, fd, e1, e2, e3, e4, _, e6⟩ := tfield_spec hf
  obtain ⟨q1, q2⟩ := hs.eq
  simp only [Rep] at h1
  obtain ⟨ad, c, h1, ⟨cs, rfl, h2⟩, h3, h4, h5⟩ := h1
  have hlen := h2.length
  simp only [Value.cells] at h3 h4 h5
  refine ⟨.pointer (some (ad.add off)), ?_, fun w' => ?_⟩
  · simp only [Rep]
    refine ⟨ad.add off, .agg ((cs.drop off).take sz).toArray, rfl, ⟨_, rfl, ?_⟩, ?_, ?_, ?_⟩
    · rw [q1]; exact (h2.drop off).take sz
    · intro u hu; simp only [Value.cells] at hu; exact h3 u (List.mem_of_mem_drop (List.mem_of_mem_take hu))
    · simp only [Value.cells]
      intro e0
      have := congrArg List.length e0
      simp at this
      omega
    · simp only [Value.cells]
      rcases h5 with h5 | ⟨h5, h6, h7⟩
      · exact absurd h5 h4
      · have hadd : ad.add off = ⟨ad.block, ad.off + off, none⟩ := by cases ad; simp only at h6; subst h6; unfold Addr.add; split <;> simp_all
        rw [hadd]
        refine .inr ⟨h5, rfl, fun j c hj => ?_⟩
        rw [List.getElem?_take] at hj
        split at hj
        · rw [List.getElem?_drop] at hj
          have := h7 (off + j) c hj
          simpa [Nat.add_assoc] using this
        · cases hj
  · have hne : sz ≠ 0 := by omega
    simp [execOp, h1, Instr.fieldAt, run_underlying e1, e2, Instr.sureAddr, fieldPlace, run_sizeOf e3, e6, hne]
theorem addr_add (b o k : Nat) : (⟨b, o, none⟩ : Addr).add k = ⟨b, o + k, none⟩ := by unfold Addr.add; split <;> simp_all
/-- A struct out of a variable. -/
theorem aq_load {Mod : List Nat} {t b off bty cs sz r f} (hx : opd env x = some (.p b off)) (hk : UpdF H (.box b bty cs) f) (hm : b ∉ Mod) (hg : tagg P t = some true) (hs : tsize P t = some sz) (hr : SubL cs off sz r) :
    AQ P n Mod ⟨dst, .load t x, ty, pos, after, gd⟩ env H (.agg r) := by
  refine ⟨fun F M w0 a w hr' => ?_⟩
  have h1 := hr'.opdv hx
  obtain ⟨vs, h2, h3⟩ := hr'.heap.holds _ hk.mem
  obtain ⟨q1, q2⟩ := hr.eq
  have hlen := h3.length
  refine ⟨.agg ((vs.drop off).take sz).toArray, by simp only [Rep]; exact ⟨_, rfl, by rw [q1]; exact (h3.drop off).take sz⟩, fun w' hw => ?_⟩
  have hb : w'.heap[b]? = some (.cells vs.toArray bty (0, 0)) := by rw [hw b (Array.getElem?_eq_some_iff.1 h2).1 hm]; exact h2
  have hsz : ((vs.drop off).take sz).length = sz := by simp; omega
  have hl := run_loadCells_list (P := P) w' ⟨b, off, none⟩ ((vs.drop off).take sz) (fun j u hu => by
    rw [addr_add, cell_of_row w' b _ vs.toArray bty (0, 0) hb]
    rw [List.getElem?_take] at hu
    split at hu
    · rw [List.getElem?_drop] at hu; simpa using hu
    · cases hu)
  rw [hsz] at hl
  simp [execOp, h1, Instr.loadAt, Instr.sureAddr, loadVar, run_isAgg hg, run_sizeOf hs, hl]
theorem getSub {cs : List D} {off : Nat} {d : D} (h : SubL cs off 1 [d]) : cs[off]? = some d := by
  obtain ⟨h1, h2⟩ := h.eq
  have : (cs.drop off)[0]? = some d := by
    have := congrArg (·[0]?) h1
    simp only [List.getElem?_cons_zero] at this
    rw [List.getElem?_take] at this
    simpa using this.symm
  simpa using this
/-- One cell out of a variable. -/
theorem aq_load1 {Mod : List Nat} {t b off bty cs d f} (hx : opd env x = some (.p b off)) (hk : UpdF H (.box b bty cs) f) (hm : b ∉ Mod) (hg : tagg P t = some false) (hr : SubL cs off 1 [d]) :
    AQ P n Mod ⟨dst, .load t x, ty, pos, after, gd⟩ env H d := by
  refine ⟨fun F M w0 a w hr' => ?_⟩
  have h1 := hr'.opdv hx
  obtain ⟨vs, h2, h3⟩ := hr'.heap.holds _ hk.mem
  obtain ⟨c, h4, h5, h6⟩ := h3.get (getSub hr)
  refine ⟨c, h5, fun w' hw => ?_⟩
  have hb : w'.heap[b]? = some (.cells vs.toArray bty (0, 0)) := by rw [hw b (Array.getElem?_eq_some_iff.1 h2).1 hm]; exact h2
  have hc : w'.cell? ⟨b, off, none⟩ = some c := by rw [cell_of_row w' b _ vs.toArray bty (0, 0) hb]; simpa using h4
  simp [execOp, h1, Instr.loadAt, Instr.sureAddr, loadVar, run_isAgg hg, hc]
/-- Out of memory that nobody writes. -/
theorem aq_load_el {Mod : List Nat} {t l sz} (hx : opd env x = some (.el (.agg l))) (hg : tagg P t = some true) (hs : tsize P t = some sz) (hl : l.length = sz) (hM : ∀ b ∈ Mod, b ∈ Hb H) :
    AQ P n Mod ⟨dst, .load t x, ty, pos, after, gd⟩ env H (.agg l) := by
  refine ⟨fun F M w0 a w hr' => ?_⟩
  have h1 := hr'.opd hx
  simp only [Rep] at h1
  obtain ⟨ad, c, h1, ⟨cs, rfl, h2⟩, h3, h4, h5⟩ := h1
  simp only [Value.cells] at h3 h4 h5
  refine ⟨.agg cs.toArray, by simp only [Rep]; exact ⟨_, rfl, h2⟩, fun w' hw => ?_⟩
  rcases h5 with h5 | ⟨h5, h6, h7⟩
  · exact absurd h5 h4
  · have hn : ad.block ∉ Mod := fun hm => h5 (.inr (hM _ hm))
    have hsame : ∀ j u, cs[j]? = some u → w'.cell? (ad.add j) = some u := fun j u hu => by
      have h8 := h7 j u hu
      have hlt := World.block_lt_of_cell? w _ h8
      have hadd : ad.add j = ⟨ad.block, ad.off + j, none⟩ := by cases ad; simp only at h6; subst h6; exact addr_add _ _ _
      rw [hadd]
      exact (World.cell?_of_block (w := w) (w' := w') (a := ⟨ad.block, ad.off + j, none⟩) (hw ad.block hlt hn)).trans h8
    have hl' := run_loadCells_list (P := P) w' ad cs hsame
    have e : cs.length = sz := by rw [← h2.length, hl]
    rw [e] at hl'
    simp [execOp, h1, Instr.loadAt, Instr.sureAddr, loadVar, run_isAgg hg, run_sizeOf hs, hl']
theorem rep_scal {w : World} {O : Nat → Prop} {d l v} (h : Flat d l) (h' : ∀ m, d ≠ .agg m) (hr : Rep w O d v) : v.cells = #[v] := by
  cases h with
  | agg => exact absurd rfl (h' _)
  | v hx =>
    simp only [Rep] at hr
    subst hr
    cases v <;> simp [Value.oneCell'] at hx <;> rfl
  | sl =>
    simp only [Rep] at hr
    obtain ⟨_, cs, _, ⟨a, cap, rfl, _⟩ | ⟨rfl, _⟩⟩ := hr <;> rfl
theorem Scal.cells {w : World} {O : Nat → Prop} {d v} (h : Scal d) (hr : Rep w O d v) : v.cells = #[v] := by
  cases h with
  | v hx => exact rep_scal (.v hx) (fun m => by simp) hr
  | sl => exact rep_scal .sl (fun m => by simp) hr
theorem aq_load_el1 {Mod : List Nat} {t d} (hx : opd env x = some (.el d)) (hg : tagg P t = some false) (hd : Scal d) (hM : ∀ b ∈ Mod, b ∈ Hb H) :
    AQ P n Mod ⟨dst, .load t x, ty, pos, after, gd⟩ env H d := by
  refine ⟨fun F M w0 a w hr' => ?_⟩
  have h1 := hr'.opd hx
  simp only [Rep] at h1
  obtain ⟨ad, c, h1, h2, h3, h4, h5⟩ := h1
  refine ⟨c, h2, fun w' hw => ?_⟩
  rcases h5 with h5 | ⟨h5, h6, h7⟩
  · exact absurd h5 h4
  · have hn : ad.block ∉ Mod := fun hm => h5 (.inr (hM _ hm))
    have h8 := h7 0 c (by rw [hd.cells h2]; rfl)
    have hlt := World.block_lt_of_cell? w _ h8
    have hc : w'.cell? ad = some c := by
      rw [World.cell?_of_block (w := w) (w' := w') (a := ad) (hw ad.block hlt hn)]
      have hadd : ad = ⟨ad.block, ad.off + 0, none⟩ := by cases ad; simp only at h6; subst h6; rfl
      rw [hadd]
      exact h8
    simp [execOp, h1, Instr.loadAt, Instr.sureAddr, loadVar, run_isAgg hg, hc]
/-- One field out of a struct that nobody writes: the address was '.el (.agg [d])'. -/
theorem aq_load_el1' {Mod : List Nat} {t d} (hx : opd env x = some (.el (.agg [d]))) (hg : tagg P t = some false) (hd : Scal d) (hM : ∀ b ∈ Mod, b ∈ Hb H) :
    AQ P n Mod ⟨dst, .load t x, ty, pos, after, gd⟩ env H d := by
  refine ⟨fun F M w0 a w hr' => ?_⟩
  have h1 := hr'.opd hx
  simp only [Rep] at h1
  obtain ⟨ad, c, h1, ⟨cs, rfl, h2⟩, h3, h4, h5⟩ := h1
  simp only [RepL] at h2
  obtain ⟨c, cr, rfl, h2, h2', rfl⟩ := h2
  refine ⟨c, h2, fun w' hw => ?_⟩
  simp only [Value.cells] at h5
  rcases h5 with h5 | ⟨h5, h6, h7⟩
  · cases h5
  · have hn : ad.block ∉ Mod := fun hm => h5 (.inr (hM _ hm))
    have h8 := h7 0 c rfl
    have hlt := World.block_lt_of_cell? w _ h8
    have hc : w'.cell? ad = some c := by
      rw [World.cell?_of_block (w := w) (w' := w') (a := ad) (hw ad.block hlt hn)]
      have hadd : ad = ⟨ad.block, ad.off + 0, none⟩ := by cases ad; simp only at h6; subst h6; rfl
      rw [hadd]
      exact h8
    simp [execOp, h1, Instr.loadAt, Instr.sureAddr, loadVar, run_isAgg hg, hc]
/-- The address of an element. -/
theorem ap_index {t e sz l j k d} (hx : opd env x = some (.sl sz l)) (hy : opd env y = some (.i j)) (ht : telem P t = some e) (hs : tsize P e = some sz) (hz : 0 < sz) (hj : j = ((k : Nat) : Int)) (hd : l[k]? = some d) :
    AP P n ⟨dst, .indexAddr t x y, ty, pos, after, gd⟩ env H (.el d) := by
  refine ⟨fun F M w0 a w hr => ?_⟩
  have h1 := hr.opd hx
  have h2 := hr.opdv hy
  subst hj
  have hkl : k < l.length := (List.getElem?_eq_some_iff.1 hd).1
  simp only [Rep] at h1
  obtain ⟨_, cs, hE, ⟨ad, cap, h1, h3, h4⟩ | ⟨_, rfl⟩⟩ := h1
  · obtain ⟨c, g1, g2, g3, g4⟩ := hE.get hd
    refine ⟨.pointer (some (ad.add (k * sz))), ?_, fun w' => ?_⟩
    · simp only [Rep]
      have hne : c.cells.toList ≠ [] := fun e0 => by have := congrArg List.length e0; simp at this; rw [this] at g1; simp at g1; omega
      refine ⟨_, c, rfl, g3, g2, hne, ?_⟩
      rcases h4 with h4 | ⟨h4, h5, h6⟩
      · exfalso
        have h7 := hE.len
        rw [h4, List.length_nil] at h7
        have h8 : 0 < l.length * sz := Nat.mul_pos (by omega) hz
        omega
      · have hadd : ad.add (k * sz) = ⟨ad.block, ad.off + k * sz, none⟩ := by cases ad; simp only at h5; subst h5; exact addr_add _ _ _
        rw [hadd]
        exact .inr ⟨h4, rfl, fun j u hu => by have := h6 _ _ (g4 j u hu); simpa [Nat.add_assoc] using this⟩
    · have hi : (0 : Int) ≤ (k : Int) ∧ (k : Int) < (l.length : Int) := by omega
      have hi' : ¬ l.length ≤ k := by omega
      simp [execOp, h1, h2, Instr.indexAt, asIntOf, run_underlying (telem_under ht), run_sizeOf hs, hi, hi']
  · simp at hkl
theorem ap_len {t e sz l} (hx : opd env x = some (.sl sz l)) (ht : telem P t = some e) : AP P n ⟨dst, .call { callee := .builtin .len, args := #[x], argTypes := #[t] }, ty, pos, after, gd⟩ env H (.i (l.length : Int)) := by
  refine ⟨fun F M w0 a w hr => ?_⟩
  have h1 := hr.opd hx
  refine ⟨.int .i64 l.length, by simp [Rep], fun w' => ?_⟩
  simp only [Rep] at h1
  obtain ⟨_, cs, _, ⟨ad, cap, h1, _⟩ | ⟨h1, rfl⟩⟩ := h1 <;>
    simp [execOp, resolve, invoke, builtin, h1, Builtin.len_, run_underlying (telem_under ht), goInt]
/-- A slice's length is bounded, as the reader's reach has it. -/
theorem aops_len {ops rest t e sz l dst' K} (hx : opd env x = some (.sl sz l)) (ht : telem P t = some e) (hd : dst = some dst') (hn : Nat.blt dst' n = true)
    (hk : l.length ≤ capB → AOps P n ops rest ((dst', .i (l.length : Int)) :: env) H K) : AOps P n ops (⟨dst, .call { callee := .builtin .len, args := #[x], argTypes := #[t] }, ty, pos, after, none⟩ :: rest) env H K := by
  refine aops_step rfl ⟨fun F M w0 a w hr Kc Q hK => ?_⟩
  have h1 := hr.opd hx
  simp only [Rep] at h1
  exact (((ap_len (P := P) (n := n) (dst := dst) (ty := ty) (pos := pos) (after := after) (gd := none) hx ht).aq []).step hd hn (K := fun env' H' => AOps P n ops rest env' H' K) (hk h1.1)).out F M w0 a w hr Kc Q hK
/-- The length of a slice that is being built. -/
theorem ap_len_arr {t e v ety sz l f} (hx : opd env x = some (.v v)) (hk : UpdF H (.arr v ety sz l) f) (ht : telem P t = some e) : AP P n ⟨dst, .call { callee := .builtin .len, args := #[x], argTypes := #[t] }, ty, pos, after, gd⟩ env H (.i (l.length : Int)) := by
  refine ⟨fun F M w0 a w hr => ?_⟩
  have h1 := hr.opdv hx
  obtain ⟨_, _, xs, hown, _⟩ := hr.heap.holds _ hk.mem
  refine ⟨.int .i64 l.length, by simp [Rep], fun w' => ?_⟩
  rcases hown.2 with ⟨hv, hl⟩ | ⟨g, cap, cur, hv, _⟩
  · rw [hv] at h1
    simp [execOp, resolve, invoke, builtin, h1, Builtin.len_, run_underlying (telem_under ht), goInt]
    omega
  · rw [hv] at h1
    simp [execOp, resolve, invoke, builtin, h1, Builtin.len_, run_underlying (telem_under ht), goInt]
theorem ap_len_nil {t e} (hx : opd env x = some .nil) (ht : telem P t = some e) : AP P n ⟨dst, .call { callee := .builtin .len, args := #[x], argTypes := #[t] }, ty, pos, after, gd⟩ env H (.i 0) := by
  refine ⟨fun F M w0 a w hr => ?_⟩
  have h1 := hr.opdv hx
  refine ⟨.int .i64 0, by simp [Rep], fun w' => ?_⟩
  simp [execOp, resolve, invoke, builtin, h1, Builtin.len_, run_underlying (telem_under ht), goInt]
theorem ap_nilCheck {b off} (hx : opd env x = some (.p b off)) : AP P n ⟨dst, .nilCheck x, ty, pos, after, gd⟩ env H (.p b off) := by
  refine ⟨fun F M w0 a w hr => ?_⟩
  have h1 := hr.opdv hx
  refine ⟨.pointer (some ⟨b, off, none⟩), by simp [Rep], fun w' => ?_⟩
  simp [execOp, h1]
theorem ap_nilCheck_el {d} (hx : opd env x = some (.el d)) : AP P n ⟨dst, .nilCheck x, ty, pos, after, gd⟩ env H (.el d) := by
  refine ⟨fun F M w0 a w hr => ?_⟩
  have h1 := hr.opd hx
  simp only [Rep] at h1
  obtain ⟨ad, c, h1, hrest⟩ := h1
  refine ⟨.pointer (some ad), by simp only [Rep]; exact ⟨ad, c, rfl, hrest⟩, fun w' => ?_⟩
  simp [execOp, h1]
/-- x[:k] of a slice that nobody writes. -/
theorem ap_slice_to {t e sz l j k} (hx : opd env x = some (.sl sz l)) (hy : opd env y = some (.i j)) (ht : telem P t = some e) (hs : tsize P e = some sz) (hj : j = ((k : Nat) : Int)) (hk : k ≤ l.length) :
    AP P n ⟨dst, .slice t x none (some y) none, ty, pos, after, gd⟩ env H (.sl sz (l.take k)) := by
  refine ⟨fun F M w0 a w hr => ?_⟩
  have h1 := hr.opd hx
  have h2 := hr.opdv hy
  subst hj
  simp only [Rep] at h1
  obtain ⟨hb, cs, hE, ⟨ad, cap, h1, h3, h4⟩ | ⟨h1, rfl⟩⟩ := h1
  · refine ⟨.slice (some ad) k cap, ?_, fun w' => ?_⟩
    · simp only [Rep]
      have hlk : (l.take k).length = k := by simp; omega
      refine ⟨by omega, cs.take (k * sz), hE.take k, .inl ⟨ad, cap, by rw [hlk], by omega, ?_⟩⟩
      rcases h4 with h4 | ⟨h4, h5, h6⟩
      · exact .inl (by simp [h4])
      · refine .inr ⟨h4, h5, fun j c hj => ?_⟩
        rw [List.getElem?_take] at hj
        split at hj
        · exact h6 j c hj
        · cases hj
    · have hi : (0 : Int) ≤ (k : Int) ∧ (k : Int) ≤ (cap : Int) := by omega
      have hi' : ¬ cap < k := by omega
      simp [hi', execOp, h1, h2, Instr.sliceAt, Instr.slice, run_underlying (telem_under ht), Instr.sliceBounds, Instr.sliceBound, asIntOf, hi, run_sizeOf hs, Addr.add]
  · have hk0 : k = 0 := by simpa using hk
    subst hk0
    refine ⟨.slice none 0 0, ?_, fun w' => ?_⟩
    · simp only [Rep]
      exact ⟨by simp, [], by simp [RepE], .inr (by simp)⟩
    · simp [execOp, h1, h2, Instr.sliceAt, Instr.slice, run_underlying (telem_under ht), Instr.sliceBounds, Instr.sliceBound, asIntOf, run_sizeOf hs]
theorem RepT.get {w : World} {O : Nat → Prop} : ∀ {l : List D} {cs : List Value} {i : Nat} {d : D}, RepT w O l cs → l[i]? = some d → ∃ c, cs[i]? = some c ∧ Rep w O d c
  | [], cs, i, d, h, hi => by simp at hi
  | e :: r, cs, i, d, h, hi => by
    simp only [RepT] at h
    obtain ⟨c, cr, rfl, h3, h4⟩ := h
    cases i with
    | zero => simp only [List.getElem?_cons_zero, Option.some.injEq] at hi; subst hi; exact ⟨c, rfl, h3⟩
    | succ i => simp only [List.getElem?_cons_succ] at hi ⊢; exact RepT.get h4 hi
/-- A component of several results. -/
theorem ap_extract {l i d} (hx : opd env x = some (.tup l)) (hi : l[i]? = some d) : AP P n ⟨dst, .extract x i, ty, pos, after, gd⟩ env H d := by
  refine ⟨fun F M w0 a w hr => ?_⟩
  have h1 := hr.opd hx
  simp only [Rep] at h1
  obtain ⟨cs, h1, h2⟩ := h1
  have := h2.get hi
  obtain ⟨c, h3, h4⟩ := this
  exact ⟨c, h4, fun w' => by simp [execOp, h1, Instr.extract, h3]⟩
/-- A field of a struct's value. -/
theorem ap_field {s f l off sz d} (hx : opd env x = some (.agg l)) (hf : tfield P s f = some (off, sz, false)) (hs : SubL l off 1 [d]) : AP P n ⟨dst, .field s x f, ty, pos, after, gd⟩ env H d := by
  refine ⟨fun F M w0 a w hr => ?_⟩
  have h1 := hr.opd hx
  obtain ⟨fs, fd, e1, e2, e3, e4, e5, e6⟩ := tfield_spec hf
  simp only [Rep] at h1
  obtain ⟨cs, h1, h2⟩ := h1
  obtain ⟨c, h4, h5, h6⟩ := h2.get (getSub hs)
  exact ⟨c, h5, fun w' => by simp [execOp, h1, Instr.field, run_underlying e1, e2, asAgg, part, run_isAgg e5, e6, h4]⟩
theorem ap_field_agg {s f l off sz r} (hx : opd env x = some (.agg l)) (hf : tfield P s f = some (off, sz, true)) (hs : SubL l off sz r) : AP P n ⟨dst, .field s x f, ty, pos, after, gd⟩ env H (.agg r) := by
  refine ⟨fun F M w0 a w hr => ?_⟩
  have h1 := hr.opd hx
  obtain ⟨fs, fd, e1, e2, e3, e4, e5, e6⟩ := tfield_spec hf
  obtain ⟨q1, q2⟩ := hs.eq
  simp only [Rep] at h1
  obtain ⟨cs, h1, h2⟩ := h1
  refine ⟨.agg ((cs.drop off).take sz).toArray, by simp only [Rep]; exact ⟨_, rfl, by rw [q1]; exact (h2.drop off).take sz⟩, fun w' => ?_⟩
  simp [execOp, h1, Instr.field, run_underlying e1, e2, asAgg, part, run_isAgg e5, e6, run_sizeOf e3]
end
end Go.Av
namespace Go.Av
open Go
set_option linter.unusedSimpArgs false
set_option linter.unusedVariables false
section
variable {P : Program} {n : Nat} {env : Env} {H : Heap} {dst : Option Tmp} {ty : TypeId} {pos : String} {after : Array Edge} {gd : Option (Nat × Bool)} {x y z : Operand}
theorem Fr.alloc (w : World) (o : Obj) : Fr [] w (w.alloc o) := ⟨rfl, rfl, rfl, by simp, fun b hb _ => heap_alloc_old w o b hb⟩
theorem Fr.drew (w : World) : Fr [] w w.drew := ⟨rfl, rfl, rfl, Nat.le_refl _, fun _ _ _ => rfl⟩
theorem Fr.setRow (w : World) (g : Nat) (cs : Array Value) : Fr [g] w (w.setRow g cs) := ⟨rfl, rfl, rfl, by simp, fun b _ hm => setRow_other w g b cs (by simpa using hm)⟩
/-- A new variable with a value. -/
theorem aops_box {ops rest ety d ds t K} (hx : opd env x = some d) (hfl : Flat d ds) (hd : dst = some t) (hn : Nat.blt t n = true)
    (hk : ∀ b, AOps P n ops rest ((t, .p b 0) :: env) (.box b ety ds :: H) K) : AOps P n ops (⟨dst, .box ety x, ty, pos, after, none⟩ :: rest) env H K := by
  refine aops_step rfl ⟨fun F M w0 a w hr Kc Q hK => ?_⟩
  obtain ⟨cs, h1, h2⟩ := hfl.rep (hr.opd hx)
  have hr1 := hr.add (o' := .box w.heap.size ety ds) (Fr.alloc w (.cells cs.toArray ety))
    (fun O' hO => ⟨cs, heap_alloc_new w _, RepL.mono (fun b hb hb' => ⟨hO b hb hb', heap_alloc_old w _ b hb⟩) _ _ h2⟩)
    (fun b hb => by simp only [Ob.blk, Option.some.injEq] at hb; omega)
  unfold Oper.wp
  simp only [execOp, Instr.box, newVar, newRow, Sem.run_bind, run_newObj, Result.andThen_ok, Sem.run_pure, World.alloc_eq, Oper.upon_value, hd, h1]
  exact hK _ _ _ _ (hk w.heap.size) (hr1.put (by simp [Rep]) (by simpa [Nat.blt_eq] using hn))
theorem tzero_spec {t us} (h : tzero P t = some us) (w : World) : ∃ zv : Value, (zeroValue t).run P w = .ok zv w ∧ zv.cells = us.toArray := by
  unfold tzero at h
  cases e : P.info? t with
  | none => rw [e] at h; cases h
  | some i =>
    rw [e] at h
    simp only at h
    cases e2 : i.zero with
    | none => rw [e2] at h; cases h
    | some z =>
      rw [e2] at h
      simp only [Option.some.injEq] at h
      exact ⟨z, by simp [zeroValue, typeInfo, e, e2], by rw [← h]⟩
/-- A new variable at its zero value. -/
theorem aops_alloc {ops rest ety us ds t K} (hz : tzero P ety = some us) (hu : AllV us ds) (hd : dst = some t) (hn : Nat.blt t n = true)
    (hk : ∀ b, AOps P n ops rest ((t, .p b 0) :: env) (.box b ety ds :: H) K) : AOps P n ops (⟨dst, .alloc ety, ty, pos, after, none⟩ :: rest) env H K := by
  refine aops_step rfl ⟨fun F M w0 a w hr Kc Q hK => ?_⟩
  obtain ⟨zv, h0, h1⟩ := tzero_spec hz w
  have hr1 := hr.add (o' := .box w.heap.size ety ds) (Fr.alloc w (.cells us.toArray ety))
    (fun O' hO => ⟨us, heap_alloc_new w _, hu.rep⟩)
    (fun b hb => by simp only [Ob.blk, Option.some.injEq] at hb; omega)
  unfold Oper.wp
  simp only [execOp, Instr.alloc, h0, newVar, newRow, Sem.run_bind, run_newObj, Result.andThen_ok, Sem.run_pure, World.alloc_eq, Oper.upon_value, hd, h1]
  exact hK _ _ _ _ (hk w.heap.size) (hr1.put (by simp [Rep]) (by simpa [Nat.blt_eq] using hn))
/-- A store into a variable. -/
theorem aops_store {ops rest t b off d ds bty cs cs' f K} (hx : opd env x = some (.p b off)) (hy : opd env y = some d) (hfl : Flat d ds) (hk : UpdF H (.box b bty cs) f) (hs : tsize P t = some ds.length) (hsp : Spl cs off ds cs')
    (h : AOps P n ops rest env (f (.box b bty cs')) K) : AOps P n ops (⟨none, .store t x y, ty, pos, after, none⟩ :: rest) env H K := by
  refine aops_step rfl ⟨fun F M w0 a w hr Kc Q hK => ?_⟩
  have h1 := hr.opdv hx
  obtain ⟨us, h2, h3⟩ := hfl.rep (hr.opd hy)
  obtain ⟨k, hk1, hk2⟩ := hk.set
  obtain ⟨vs, h4, h5⟩ := hr.heap.holds _ hk.mem
  obtain ⟨q1, q2⟩ := hsp.eq
  have l1 := h5.length
  have l2 := h3.length
  have hrun := run_storeCells_at P b off bty us 0 vs.toArray w h4 (by simp; omega) h3.one
  simp only [Nat.add_zero] at hrun
  have hr1 := hr.upd (o' := .box b bty cs') hk1 (Fr.setRow w b (vs.take off ++ us ++ vs.drop (off + us.length)).toArray)
    (fun O' hO => ⟨vs.take off ++ us ++ vs.drop (off + us.length), setRow_heap w b vs.toArray _ bty _ h4, by
      rw [q1, l2]
      have hm : ∀ bb, bb < w.heap.size → ¬ Own F H bb → ¬ O' bb ∧ (w.setRow b (vs.take off ++ us ++ vs.drop (off + us.length)).toArray).heap[bb]? = w.heap[bb]? := fun bb hb hb' =>
        ⟨hO bb hb hb', setRow_other w b bb _ (fun e => hb' (.inr (mem_Hb hk.mem (by simp [Ob.blk, e]))))⟩
      exact RepL.append (RepL.append ((RepL.mono hm _ _ h5).take off) (RepL.mono hm _ _ h3)) ((RepL.mono hm _ _ h5).drop _)⟩) (.inl rfl)
  unfold Oper.wp
  simp only [execOp, h1, Instr.storeAt, Instr.sureAddr, storeVar, Sem.run_bind, Sem.run_pure, Result.andThen_ok, run_sizeOf hs, h2]
  simp only [List.size_toArray, ← l2, ne_eq, not_true_eq_false, if_false, hrun, Sem.run_pure, Result.andThen_ok, Oper.upon_skip, Sem.run_ite, Sem.run_bind, List.toList_toArray]
  have := hK env (f (.box b bty cs')) (a.put none undef) _ h (by rw [hk2]; exact hr1)
  rw [← l2] at this
  exact this
/-- Cells set one behind the other. -/
theorem foldl_splice : ∀ (vs : List Value) (off k : Nat) (cs : Array Value), off + k + vs.length ≤ cs.size →
    (vs.zipIdx k).foldl (fun cs (p : Value × Nat) => cs.setIfInBounds (off + p.2) p.1) cs = (cs.toList.take (off + k) ++ vs ++ cs.toList.drop (off + k + vs.length)).toArray
  | [], off, k, cs, h => by simp
  | v :: r, off, k, cs, h => by
    simp only [List.length_cons] at h
    rw [List.zipIdx_cons, List.foldl_cons, foldl_splice r off (k + 1) _ (by simp; omega)]
    apply Array.ext'
    simp only [Array.toList_setIfInBounds, List.length_cons]
    have e1 : off + (k + 1) = off + k + 1 := by omega
    rw [e1]
    have hlt : off + k < cs.toList.length := by simp; omega
    have e2 : (cs.toList.set (off + k) v).take (off + k + 1) = cs.toList.take (off + k) ++ [v] := by
      rw [List.take_succ_eq_append_getElem (by simpa using hlt), List.take_set_of_le (by omega)]
      simp
    have e3 : (cs.toList.set (off + k) v).drop (off + k + 1 + r.length) = cs.toList.drop (off + k + (r.length + 1)) := by
      rw [List.drop_set_of_lt (by omega)]
      congr 1
      omega
    rw [e2, e3]
    simp
/-- The places of a slice's elements. -/
def plc (sz : Nat) : Nat → Option (Nat × Nat) := fun i => some (i * sz, sz)
inductive PartsIn (env : Env) (sz : Nat) : Nat → List (Nat × Operand) → List D → Prop
  | nil {k} : PartsIn env sz k [] []
  | cons {k x d ds rest l} (hx : opd env x = some d) (hf : Flat d ds) (hs : ds.length = sz) (h : PartsIn env sz (k + 1) rest l) : PartsIn env sz k ((k, x) :: rest) (d :: l)
theorem fill_parts {F M w0 a w} (hr : Rel F M w0 n env H a w) {sz : Nat} : ∀ {k : Nat} {parts : List (Nat × Operand)} {l : List D}, PartsIn env sz k parts l → ∀ (pre : List Value) (cs : Array Value), pre.length = k * sz → cs.toList.take (k * sz) = pre → cs.size = (k + l.length) * sz →
    ∃ out : List Value, Instr.fill (fun i => some (i * sz, sz)) cs (parts.map fun p => (p.1, a.eval p.2)) = some (pre ++ out).toArray ∧ RepE w (Own F H) sz l out ∧ out.length = l.length * sz := by
  intro k parts l h
  induction h with
  | nil =>
    intro pre cs h1 h2 h3
    refine ⟨[], ?_, by simp [RepE], by simp⟩
    simp only [List.map_nil, Instr.fill, List.append_nil, Option.some.injEq]
    apply Array.ext'
    rw [← h2, List.take_of_length_le (by simp [h3])]
  | @cons k x d ds rest l hx hf hs h ih =>
    intro pre cs h1 h2 h3
    obtain ⟨us, q1, q2⟩ := hf.rep (hr.opd hx)
    have hus : us.length = sz := by rw [← q2.length, hs]
    simp only [List.length_cons] at h3
    have h3' : cs.size = k * sz + sz + l.length * sz := by rw [h3]; rw [show k + (l.length + 1) = k + 1 + l.length by omega, Nat.add_mul, Nat.add_mul, Nat.one_mul]
    have hsp := foldl_splice us (k * sz) 0 cs (by omega)
    simp only [Nat.add_zero] at hsp
    rw [h2] at hsp
    obtain ⟨out, g1, g2, g3⟩ := ih (pre ++ us) (pre ++ us ++ cs.toList.drop (k * sz + us.length)).toArray (by simp [h1, hus, Nat.add_mul])
      (by simp only [List.toList_toArray]; rw [List.take_left' (by simp [h1, hus, Nat.add_mul])])
      (by simp [h1, hus]; rw [h3', Nat.add_mul, Nat.add_mul, Nat.one_mul]; omega)
    refine ⟨us ++ out, ?_, ?_, by simp [hus, g3, Nat.add_mul]; omega⟩
    · simp only [List.map_cons, Instr.fill, q1]
      rw [if_neg (by simp [hus]; omega)]
      have e : (us.toArray.zipIdx.foldl (fun cs x => cs.setIfInBounds (k * sz + x.2) x.1) cs) = (us.zipIdx 0).foldl (fun cs (p : Value × Nat) => cs.setIfInBounds (k * sz + p.2) p.1) cs := by
        rw [← Array.foldl_toList, Array.toList_zipIdx]
      rw [show ((us.toArray.zipIdx.foldl (fun cs (x : Value × Nat) => match x with | (c, j) => cs.setIfInBounds (k * sz + j) c) cs)) = (us.toArray.zipIdx.foldl (fun cs x => cs.setIfInBounds (k * sz + x.2) x.1) cs) from rfl, e, hsp]
      rw [g1, List.append_assoc]
    · simp only [RepE]
      exact ⟨a.eval x, out, by rw [q1], by rw [q1]; simp [hus], by rw [q1]; simpa using q2.one, hr.opd hx, g2⟩
/-- What the table says of a slice's element: its cells, its bytes. -/
def tinfo (P : Program) (e : TypeId) : Option (Nat × Nat) := match P.info? e with
  | some i => (match i.zero with
    | some z => if z.cells.size = i.size ∧ 0 < i.size then some (i.size, i.bytes) else none
    | none => none)
  | none => none
theorem tinfo_spec {e sz by_} (h : tinfo P e = some (sz, by_)) : ∃ i z, P.info? e = some i ∧ i.zero = some z ∧ i.size = sz ∧ i.bytes = by_ ∧ z.cells.size = sz ∧ 0 < sz := by
  unfold tinfo at h
  cases e1 : P.info? e with
  | none => rw [e1] at h; cases h
  | some i =>
    rw [e1] at h
    simp only at h
    cases e2 : i.zero with
    | none => rw [e2] at h; cases h
    | some z =>
      rw [e2] at h
      simp only at h
      split at h
      · rename_i hz
        simp only [Option.some.injEq, Prod.mk.injEq] at h
        obtain ⟨rfl, rfl⟩ := h
        exact ⟨i, z, rfl, e2, rfl, rfl, hz.1, hz.2⟩
      · cases h
theorem run_buildSlice {F M w0 a w} (hr : Rel F M w0 n env H a w) {t e sz by_ len parts l} (ht : telem P t = some e) (hi : tinfo P e = some (sz, by_)) (hp : PartsIn env sz 0 parts l) (hl : l.length = len) (hsm : len * sz ≤ 16777216) :
    ∃ out : List Value, RepE w (Own F H) sz l out ∧ out.length = l.length * sz ∧
      (Instr.buildSlice t len (parts.map fun p => (p.1, a.eval p.2)).toArray).run P w = .ok (.slice (some ⟨w.heap.size, 0, none⟩) len len) (w.alloc (.cells out.toArray e)) := by
  obtain ⟨i, z, h1, h2, h3, h4, h5, h6⟩ := tinfo_spec hi
  subst hl
  have hsz : (sizeOf e).run P w = .ok sz w := by simp [sizeOf, typeInfo, h1, h3]
  have hzero : (zeroValue e).run P w = .ok z w := by simp [zeroValue, typeInfo, h1, h2]
  have hfin : ∀ (zc : Array Value), ∃ out : List Value, Instr.fill (fun i => some (i * sz, sz)) ((Array.range (l.length * sz)).map (zc[· % zc.size]!)) (parts.map fun p => (p.1, a.eval p.2)) = some out.toArray ∧ RepE w (Own F H) sz l out ∧ out.length = l.length * sz := fun zc => by
    obtain ⟨out, g1, g2, g3⟩ := fill_parts hr hp [] ((Array.range (l.length * sz)).map (zc[· % zc.size]!)) (by simp) (by simp) (by simp)
    exact ⟨out, by simpa using g1, g2, g3⟩
  have hsm' : ¬ (l.length * sz > 2 ^ 24) := by omega
  by_cases hz : l.length * sz = 0
  · obtain ⟨out, g1, g2, g3⟩ := hfin #[]
    refine ⟨out, g2, g3, ?_⟩
    unfold Instr.buildSlice
    simp only [Sem.run_bind, run_underlying (telem_under ht), Result.andThen_ok, hsz, Sem.run_ite, hsm', if_false, hz, if_true, Sem.run_pure, List.toList_toArray]
    rw [hz] at g1
    rw [g1]
    simp [newRow]
  · obtain ⟨out, g1, g2, g3⟩ := hfin z.cells
    refine ⟨out, g2, g3, ?_⟩
    unfold Instr.buildSlice
    simp only [Sem.run_bind, run_underlying (telem_under ht), Result.andThen_ok, hsz, Sem.run_ite, hsm', if_false, hz, hzero, Sem.run_pure, List.toList_toArray]
    rw [g1]
    simp [newRow]
/-- A slice's literal, as a slice that nobody writes. -/
theorem aops_lit {ops rest t e sz by_ len parts l d K} (ht : telem P t = some e) (hi : tinfo P e = some (sz, by_)) (hp : PartsIn env sz 0 parts l) (hl : l.length = len) (hsm : Nat.ble (len * sz) 16777216 = true) (hd : dst = some d) (hn : Nat.blt d n = true)
    (hk : AOps P n ops rest ((d, .sl sz l) :: env) H K) : AOps P n ops (⟨dst, .buildSlice t len parts.toArray, ty, pos, after, none⟩ :: rest) env H K := by
  refine aops_step rfl ⟨fun F M w0 a w hr Kc Q hK => ?_⟩
  have hsm' : len * sz ≤ 16777216 := by simpa using hsm
  obtain ⟨out, h1, h2, h3⟩ := run_buildSlice (P := P) hr ht hi hp hl hsm'
  obtain ⟨_, _, _, _, _, _, _, hsz⟩ := tinfo_spec hi
  have hmono : ∀ b, b < w.heap.size → ¬ Own F H b → ¬ Own F H b ∧ (w.alloc (.cells out.toArray e)).heap[b]? = w.heap[b]? := fun b hb hb' => ⟨hb', heap_alloc_old w _ b hb⟩
  have hok : HeapOk F H (w.alloc (.cells out.toArray e)) :=
    ⟨fun o ho => (hr.heap.holds o ho).mono hmono (fun b hb => heap_alloc_old w _ b ((hr.heap.holds o ho).blk_lt hb)), hr.heap.nodup, hr.heap.disj, fun b hb => Nat.lt_of_lt_of_le (hr.heap.frb b hb) (by simp)⟩
  have hr1 := hr.step hok ((Fr.alloc w _).weaken (by simp)) (fun b hb => .inl hb)
  have hnew : ¬ Own F H w.heap.size := by
    rintro (h | h)
    · have := hr.heap.frb _ h; omega
    · have := hr.heap.blk_lt h; omega
  have hrep : Rep (w.alloc (.cells out.toArray e)) (Own F H) (.sl sz l) (.slice (some ⟨w.heap.size, 0, none⟩) len len) := by
    simp only [Rep]
    have hb : l.length ≤ capB := by
      unfold capB
      have : l.length * 1 ≤ l.length * sz := Nat.mul_le_mul_left _ hsz
      rw [hl] at this ⊢
      omega
    refine ⟨hb, out, RepE.mono hmono sz l out h1, .inl ⟨⟨w.heap.size, 0, none⟩, len, by rw [hl], by omega, .inr ⟨hnew, rfl, fun j c hj => ?_⟩⟩⟩
    rw [cell_of_row _ w.heap.size _ out.toArray e (0, 0) (heap_alloc_new w _)]
    simpa using hj
  unfold Oper.wp
  have e : (execOp a.eval ⟨dst, .buildSlice t len parts.toArray, ty, pos, after, none⟩) = (do pure (.value (← Instr.buildSlice t len (parts.map fun p => (p.1, a.eval p.2)).toArray))) := by simp [execOp]
  rw [e, Sem.run_bind, h3, Result.andThen_ok, Sem.run_pure, Oper.upon_value, hd]
  exact hK _ _ _ _ hk (hr1.put hrep (by simpa [Nat.blt_eq] using hn))
/-- A slice's literal, as a slice of the function's own. -/
theorem aops_own {ops rest t e sz by_ len parts l d K} (ht : telem P t = some e) (hi : tinfo P e = some (sz, by_)) (hp : PartsIn env sz 0 parts l) (hl : l.length = len) (hsm : Nat.ble (len * sz) 16777216 = true) (hd : dst = some d) (hn : Nat.blt d n = true)
    (hk : ∀ v, v.oneCell' = true → AOps P n ops rest ((d, .v v) :: env) (.arr v e sz l :: H) K) : AOps P n ops (⟨dst, .buildSlice t len parts.toArray, ty, pos, after, none⟩ :: rest) env H K := by
  refine aops_step rfl ⟨fun F M w0 a w hr Kc Q hK => ?_⟩
  have hsm' : len * sz ≤ 16777216 := by simpa using hsm
  obtain ⟨out, h1, h2, h3⟩ := run_buildSlice (P := P) hr ht hi hp hl hsm'
  obtain ⟨_, _, _, _, _, _, _, hsz⟩ := tinfo_spec hi
  have hle : len ≤ 16777216 := by
    have : len * 1 ≤ len * sz := Nat.mul_le_mul_left _ hsz
    omega
  have hr1 := hr.add (o' := .arr (.slice (some ⟨w.heap.size, 0, none⟩) len len) e sz l) (Fr.alloc w (.cells out.toArray e))
    (fun O' hO => ⟨hsz, by unfold capB; omega, out, ⟨h2, .inr ⟨w.heap.size, len, out.toArray, by rw [hl], Nat.zero_le _, heap_alloc_new w _, by omega, by simp only [maxLen]; omega, by simp [h2, hl], by simp only [List.toList_toArray]; rw [List.take_of_length_le (by omega)]⟩⟩,
      RepE.mono (fun b hb hb' => ⟨hO b hb hb', heap_alloc_old w _ b hb⟩) _ _ _ h1⟩)
    (fun b hb => by simp only [Ob.blk, Value.ownBlock, Option.some.injEq] at hb; omega)
  unfold Oper.wp
  have e : (execOp a.eval ⟨dst, .buildSlice t len parts.toArray, ty, pos, after, none⟩) = (do pure (.value (← Instr.buildSlice t len (parts.map fun p => (p.1, a.eval p.2)).toArray))) := by simp [execOp]
  rw [e, Sem.run_bind, h3, Result.andThen_ok, Sem.run_pure, Oper.upon_value, hd]
  exact hK _ _ _ _ (hk _ rfl) (hr1.put (by simp [Rep]) (by simpa [Nat.blt_eq] using hn))
/-- An append on a row of the function's own: what came in is kept, what is new lies behind it; the row is the old block or a new one. -/
theorem run_append (w : World) (t ty' e : TypeId) {sz by_ : Nat} (ht : P.underlying t = some (.slice e)) (hi : tinfo P e = some (sz, by_))
    (v : Value) (m : Nat) (xs : List Value) (hown : w.ownsRow 0 e sz v m xs)
    (a : Addr) (k c : Nat) (news : List Value) (hl : news.length = k * sz) (hnews : ∀ j u, news[j]? = some u → w.cell? (a.add j) = some u) (h1 : ∀ u ∈ news, u.oneCell' = true)
    (h63 : m + k ≤ maxLen) (hbytes : (m + k) * by_ ≤ 140737488355328) :
    ∃ v' w', (Builtin.append_ #[t, t] ty' #[v, .slice (some a) k c]).run P w = .ok v' w' ∧ w'.ownsRow 0 e sz v' (m + k) (xs ++ news) ∧ w.grownBy w' v.ownBlock ∧
      (v'.ownBlock = v.ownBlock ∨ ∀ b, v'.ownBlock = some b → w.heap.size ≤ b) := by
  obtain ⟨i, z, hi1, hi2, rfl, rfl, hzs, hsz⟩ := tinfo_spec hi
  obtain ⟨v', w', q1, q2, q3, q4⟩ := run_append_own (P := P) w 0 t ty' e i z i.size i.bytes ht hi1 hi2 rfl rfl hzs hsz v m xs hown a k c news hl hnews h1 h63 hbytes (Nat.zero_le _)
  refine ⟨v', w', q1, q2, q3, ?_⟩
  rcases hown.2 with ⟨rfl, rfl⟩ | ⟨g, cap, cur, rfl, hbg, hg, hnc, hcm, hcs, htake⟩
  · have hx : xs = [] := List.eq_nil_of_length_eq_zero (by simpa using hown.1)
    subst hx
    have hown' : w.ownsRow w.heap.size e i.size (.slice none 0 0) 0 [] := World.ownsRow_nil w _ e i.size
    obtain ⟨v2, w2, r1, r2, r3, r4⟩ := run_append_own (P := P) w w.heap.size t ty' e i z i.size i.bytes ht hi1 hi2 rfl rfl hzs hsz _ 0 [] hown' a k c news hl hnews h1 h63 hbytes (Nat.le_refl _)
    rw [q1] at r1
    simp only [Result.ok.injEq] at r1
    obtain ⟨rfl, rfl⟩ := r1
    exact .inr fun b hb => (r2.lt b hb).1
  · by_cases hroom : m + k ≤ cap
    · have hfit : m * i.size + news.length ≤ cur.size := by rw [hl, hcs, ← Nat.add_mul]; exact Nat.mul_le_mul_right _ hroom
      have hr := run_append_room (P := P) w t ty' e i ht hi1 g m cap cur hg a k c news hl hnews h1 hroom hfit
      rw [q1] at hr
      simp only [Result.ok.injEq] at hr
      obtain ⟨rfl, rfl⟩ := hr
      exact .inl rfl
    · have holds : ∀ j u, xs[j]? = some u → w.cell? ((⟨g, 0, none⟩ : Addr).add j) = some u := hown.cells (g := g) rfl
      have hr := run_append_grow (P := P) w t ty' e i z ht hi1 hi2 ⟨g, 0, none⟩ m cap xs hown.1 holds a k c news hl hnews (by omega) (by unfold maxLen at h63; omega) (growslice_fits (by omega) hbytes)
      rw [q1] at hr
      simp only [Result.ok.injEq] at hr
      obtain ⟨rfl, rfl⟩ := hr
      exact .inr fun b hb => by simp only [Value.ownBlock, Option.some.injEq] at hb; omega
theorem LieAt.cells {w : World} {O : Nat → Prop} {a : Addr} {cs : List Value} (h : LieAt w O a cs) : ∀ j u, cs[j]? = some u → w.cell? (a.add j) = some u := by
  intro j u hu
  rcases h with rfl | ⟨_, h2, h3⟩
  · simp at hu
  · have hadd : a.add j = ⟨a.block, a.off + j, none⟩ := by cases a; simp only at h2; subst h2; exact addr_add _ _ _
    rw [hadd]
    exact h3 j u hu
/-- 'append(s, x...)', s a slice of the function's own, x one that nobody writes. -/
theorem aops_append {ops rest t e sz by_ v l l2 f d K} (hx : opd env x = some (.v v)) (hk : UpdF H (.arr v e sz l) f) (hy : opd env y = some (.sl sz l2)) (ht : telem P t = some e) (hi : tinfo P e = some (sz, by_)) (hd : dst = some d) (hn : Nat.blt d n = true)
    (hb : (l.length + l2.length) * by_ ≤ capB ∧ l.length + l2.length ≤ capB)
    (h : ∀ v', v'.oneCell' = true → AOps P n ops rest ((d, .v v') :: env) (f (.arr v' e sz (l ++ l2))) K) :
    AOps P n ops (⟨dst, .call { callee := .builtin .append, args := #[x, y], argTypes := #[t, t] }, ty, pos, after, none⟩ :: rest) env H K := by
  refine aops_step rfl ⟨fun F M w0 a w hr Kc Q hK => ?_⟩
  have h1 := hr.opdv hx
  have h2 := hr.opd hy
  obtain ⟨k, hk1, hk2⟩ := hk.set
  obtain ⟨hsz, hlb, xs, hown, hE⟩ := hr.heap.holds _ hk.mem
  simp only [Rep] at h2
  obtain ⟨_, cs, hE2, h2⟩ := h2
  unfold capB at hb
  have main : ∃ v' w', (Builtin.append_ #[t, t] ty #[v, a.eval y]).run P w = .ok v' w' ∧ w'.ownsRow 0 e sz v' (l.length + l2.length) (xs ++ cs) ∧ w.grownBy w' v.ownBlock ∧
      (v'.ownBlock = v.ownBlock ∨ ∀ b, v'.ownBlock = some b → w.heap.size ≤ b) := by
    rcases h2 with ⟨ad, cap, h2, h3, h4⟩ | ⟨h2, rfl⟩
    · rw [h2]
      exact run_append w t ty e (telem_under ht) hi v l.length xs hown ad l2.length cap cs hE2.len h4.cells hE2.one (by unfold maxLen; omega) hb.1
    · simp only [RepE] at hE2
      subst hE2
      obtain ⟨i, z, hi1, hi2, rfl, rfl, hzs, _⟩ := tinfo_spec hi
      rw [h2]
      exact ⟨v, w, run_append_owned_none (P := P) w 0 t ty e i i.size (telem_under ht) hi1 v l.length xs hown, by simpa using hown, ⟨rfl, rfl, rfl, Nat.le_refl _, fun _ _ _ => rfl⟩, .inl rfl⟩
  obtain ⟨v', w', q1, q2, q3, q4⟩ := main
  have hfr : Fr (Ob.blk (.arr v e sz l)).toList w w' := Fr.grown q3
  have hr1 := hr.upd (o' := .arr v' e sz (l ++ l2)) hk1 hfr
    (fun O' hO => ⟨hsz, by simp only [List.length_append]; unfold capB; omega, xs ++ cs, by simpa using q2, by
      have hm : ∀ bb, bb < w.heap.size → ¬ Own F H bb → ¬ O' bb ∧ w'.heap[bb]? = w.heap[bb]? := fun bb hbb hb' =>
        ⟨hO bb hbb hb', hfr.block bb hbb (fun hm => hb' (.inr (mem_Hb hk.mem (by simpa using hm))))⟩
      exact RepE.append (RepE.mono hm _ _ _ hE) (RepE.mono hm _ _ _ hE2)⟩) q4
  unfold Oper.wp
  have e1 : (execOp a.eval ⟨dst, .call { callee := .builtin .append, args := #[x, y], argTypes := #[t, t] }, ty, pos, after, none⟩) = (do pure (.value (← Builtin.append_ #[t, t] ty #[a.eval x, a.eval y]))) := by
    simp [execOp, resolve, invoke, builtin]
  rw [e1, Sem.run_bind, h1, q1, Result.andThen_ok, Sem.run_pure, Oper.upon_value, hd]
  exact hK _ _ _ _ (h v' (by rcases q2.2 with ⟨hv, _⟩ | ⟨_, _, _, hv, _⟩ <;> rw [hv] <;> rfl)) (by rw [hk2]; exact hr1.put (by simp [Rep]) (by simpa [Nat.blt_eq] using hn))
/-- A nil slice is an empty row of the function's own. -/
theorem Rel.nilArr {F M w0 a w} (hr : Rel F M w0 n env H a w) (e sz : Nat) (hsz : 0 < sz) : Rel F M w0 n env (.arr (.slice none 0 0) e sz [] :: H) a w :=
  hr.add (Fr.refl _ _) (fun O' hO => ⟨hsz, by unfold capB; simp, [], World.ownsRow_nil w 0 e sz, by simp [RepE]⟩) (fun b hb => by simp [Ob.blk, Value.ownBlock] at hb)
/-- 'append(nil, x...)'. -/
theorem aops_append_nil {ops rest t e sz by_ l2 d K} (hx : opd env x = some .nil) (hy : opd env y = some (.sl sz l2)) (ht : telem P t = some e) (hi : tinfo P e = some (sz, by_)) (hd : dst = some d) (hn : Nat.blt d n = true)
    (hb : l2.length * by_ ≤ capB ∧ l2.length ≤ capB)
    (h : ∀ v', v'.oneCell' = true → AOps P n ops rest ((d, .v v') :: env) (.arr v' e sz l2 :: H) K) :
    AOps P n ops (⟨dst, .call { callee := .builtin .append, args := #[x, y], argTypes := #[t, t] }, ty, pos, after, none⟩ :: rest) env H K := by
  refine aops_step rfl ⟨fun F M w0 a w hr Kc Q hK => ?_⟩
  obtain ⟨_, _, _, _, _, _, _, hsz⟩ := tinfo_spec hi
  have hs := aops_append (P := P) (n := n) (env := env) (H := .arr (.slice none 0 0) e sz [] :: H) (ops := ops) (rest := rest) (K := K) (dst := dst) (ty := ty) (pos := pos) (after := after) (l := []) hx .here hy ht hi hd hn (by simpa using hb) (fun v' h1 => by simpa using h v' h1)
  have hs' := hs.out
  unfold AOpsR at hs'
  exact hs'.out F M w0 a w (hr.nilArr e sz hsz) Kc Q (fun env' H' a' w' k => hK env' H' a' w' ⟨k⟩)
inductive FillL (place : Nat → Option (Nat × Nat)) (env : Env) : List (Nat × Operand) → List D → List D → Prop
  | nil {cs} : FillL place env [] cs cs
  | cons {i x d ds off cs cs' rest out} (hx : opd env x = some d) (hf : Flat d ds) (hp : place i = some (off, ds.length)) (hs : Spl cs off ds cs') (h : FillL place env rest cs' out) : FillL place env ((i, x) :: rest) cs out
theorem FillL.run {F M w0 a w} (hr : Rel F M w0 n env H a w) {place : Nat → Option (Nat × Nat)} {parts cs out} (h : FillL place env parts cs out) : ∀ (us : List Value), RepL w (Own F H) cs us →
    ∃ vs : List Value, Instr.fill place us.toArray (parts.map fun p => (p.1, a.eval p.2)) = some vs.toArray ∧ RepL w (Own F H) out vs := by
  induction h with
  | nil => intro us h; exact ⟨us, by simp [Instr.fill], h⟩
  | @cons i x d ds off cs cs' rest out hx hf hp hs h ih =>
    intro us hus
    obtain ⟨ws, q1, q2⟩ := hf.rep (hr.opd hx)
    obtain ⟨r1, r2⟩ := hs.eq
    have l1 := hus.length
    have l2 := q2.length
    have hsp := foldl_splice ws off 0 us.toArray (by simp; omega)
    simp only [Nat.add_zero] at hsp
    obtain ⟨vs, g1, g2⟩ := ih (us.take off ++ ws ++ us.drop (off + ws.length)) (by
      rw [r1, l2]
      exact RepL.append (RepL.append (hus.take off) q2) (hus.drop _))
    refine ⟨vs, ?_, g2⟩
    simp only [List.map_cons, Instr.fill, q1, hp]
    rw [if_neg (by simp [l2]; omega)]
    have e : (ws.toArray.zipIdx.foldl (fun cs x => cs.setIfInBounds (off + x.2) x.1) us.toArray) = (ws.zipIdx 0).foldl (fun cs (p : Value × Nat) => cs.setIfInBounds (off + p.2) p.1) us.toArray := by
      rw [← Array.foldl_toList, Array.toList_zipIdx]
    rw [show ((ws.toArray.zipIdx.foldl (fun cs (x : Value × Nat) => match x with | (c, j) => cs.setIfInBounds (off + j) c) us.toArray)) = (ws.toArray.zipIdx.foldl (fun cs x => cs.setIfInBounds (off + x.2) x.1) us.toArray) from rfl, e, hsp]
    simpa using g1
/-- The places of a struct's fields. -/
def tplace (P : Program) (t : TypeId) : Nat → Option (Nat × Nat) := fun i => match P.underlying t with
  | some (.struct fs) => (match fs[i]? with | some fd => some (fd.offset, ((P.info? fd.type).map (·.size)).getD 0) | none => none)
  | _ => none
def tstruct (P : Program) (t : TypeId) : Bool := match P.underlying t with
  | some (.struct fs) => fs.all fun fd => (P.info? fd.type).isSome
  | _ => false
theorem run_places (w : World) (fs : Array Field) (h : ∀ fd ∈ fs, (P.info? fd.type).isSome = true) :
    (fs.mapM fun f => (do pure (f.offset, ← sizeOf f.type) : Sem (Nat × Nat))).run P w = .ok (fs.map fun f => (f.offset, ((P.info? f.type).map (·.size)).getD 0)) w := by
  rw [Array.mapM_eq_mapM_toList, Sem.run_map]
  have : ∀ (l : List Field), (∀ fd ∈ l, (P.info? fd.type).isSome = true) → (l.mapM fun f => (do pure (f.offset, ← sizeOf f.type) : Sem (Nat × Nat))).run P w = .ok (l.map fun f => (f.offset, ((P.info? f.type).map (·.size)).getD 0)) w := by
    intro l
    induction l with
    | nil => intro _; simp
    | cons f r ih =>
      intro hl
      have h1 := hl f (List.mem_cons_self ..)
      obtain ⟨i, hi⟩ := Option.isSome_iff_exists.1 h1
      simp only [List.mapM_cons, Sem.run_bind, sizeOf, typeInfo, run_program, Result.andThen_ok, hi, Sem.run_pure] at ih ⊢
      rw [ih (fun fd hfd => hl fd (List.mem_cons_of_mem _ hfd))]
      simp [hi]
  rw [this fs.toList (fun fd hfd => h fd (by simpa using hfd)), Result.andThen_ok]
  congr 1
  apply Array.ext'
  simp
theorem ap_build {t us cs parts out} (hst : tstruct P t = true) (hz : tzero P t = some us) (hu : AllV us cs) (hf : FillL (tplace P t) env parts cs out) :
    AP P n ⟨dst, .build t parts.toArray, ty, pos, after, gd⟩ env H (.agg out) := by
  refine ⟨fun F M w0 a w hr => ?_⟩
  obtain ⟨vs, g1, g2⟩ := hf.run hr us hu.rep
  refine ⟨.agg vs.toArray, by simp only [Rep]; exact ⟨vs, rfl, g2⟩, fun w' => ?_⟩
  obtain ⟨zv, z1, z2⟩ := tzero_spec hz w'
  unfold tstruct at hst
  cases e : P.underlying t with
  | none => rw [e] at hst; cases hst
  | some d =>
    rw [e] at hst
    cases d <;> simp only [Bool.false_eq_true] at hst
    rename_i fs
    have hp : (fun i => (fs.map fun f => (f.offset, ((P.info? f.type).map (·.size)).getD 0))[i]?) = tplace P t := by
      funext i
      simp only [tplace, e, Array.getElem?_map]
      cases fs[i]? <;> rfl
    have hpl := run_places (P := P) w' fs (fun fd hfd => by have := Array.all_eq_true_iff_forall_mem.1 hst fd hfd; exact this)
    simp only [execOp, Instr.build, Sem.run_bind, z1, Result.andThen_ok, run_underlying e, hpl, List.map_toArray, List.toList_toArray, z2, hp, g1, Sem.run_pure]
theorem ap_min {t u p q} (hx : opd env x = some (.i p)) (hy : opd env y = some (.i q)) : AP P n ⟨dst, .call { callee := .builtin .min, args := #[x, y], argTypes := #[t, u] }, ty, pos, after, gd⟩ env H (.i (min p q)) := by
  refine ⟨fun F M w0 a w hr => ?_⟩
  have h1 := hr.opdv hx
  have h2 := hr.opdv hy
  refine ⟨.int .i64 (min p q), by simp [Rep], fun w' => ?_⟩
  have : (if q < p then q else p) = min p q := by split <;> omega
  simp [execOp, resolve, invoke, builtin, h1, h2, Builtin.min_, Builtin.min2, this]
theorem ap_max {t u p q} (hx : opd env x = some (.i p)) (hy : opd env y = some (.i q)) : AP P n ⟨dst, .call { callee := .builtin .max, args := #[x, y], argTypes := #[t, u] }, ty, pos, after, gd⟩ env H (.i (max p q)) := by
  refine ⟨fun F M w0 a w hr => ?_⟩
  have h1 := hr.opdv hx
  have h2 := hr.opdv hy
  refine ⟨.int .i64 (max p q), by simp [Rep], fun w' => ?_⟩
  have : (if p < q then q else p) = max p q := by split <;> omega
  simp [execOp, resolve, invoke, builtin, h1, h2, Builtin.max_, Builtin.max2, this]
/-- A function value; what it captured is known. -/
inductive Caps (env : Env) : List Operand → List Value → Prop
  | nil : Caps env [] []
  | cons {x v r vs} (hx : opd env x = some (.v v)) (h : Caps env r vs) : Caps env (x :: r) (v :: vs)
theorem Caps.eval {F M w0 a w} (hr : Rel F M w0 n env H a w) {xs vs} (h : Caps env xs vs) : xs.map a.eval = vs := by
  induction h with
  | nil => rfl
  | cons hx h ih => simp [hr.opdv hx, ih]
theorem ap_makeFunc {fn xs vs} (hc : Caps env xs vs) : AP P n ⟨dst, .makeFunc fn #[] xs.toArray, ty, pos, after, gd⟩ env H (.v (.func fn #[] vs.toArray)) := by
  refine ⟨fun F M w0 a w hr => ?_⟩
  refine ⟨.func fn #[] vs.toArray, by simp [Rep], fun w' => ?_⟩
  simp [execOp, Instr.makeFunc, hc.eval hr]
theorem ap_index_own {t e sz len cap g j k} (hx : opd env x = some (.v (.slice (some ⟨g, 0, none⟩) len cap))) (hy : opd env y = some (.i j)) (ht : telem P t = some e) (hs : tsize P e = some sz) (hj : j = ((k : Nat) : Int)) (hk : k < len) :
    AP P n ⟨dst, .indexAddr t x y, ty, pos, after, gd⟩ env H (.p g (k * sz)) := by
  refine ⟨fun F M w0 a w hr => ?_⟩
  have h1 := hr.opdv hx
  have h2 := hr.opdv hy
  subst hj
  refine ⟨.pointer (some ⟨g, k * sz, none⟩), by simp [Rep], fun w' => ?_⟩
  have hi : (0 : Int) ≤ (k : Int) ∧ (k : Int) < (len : Int) := by omega
  have hi' : ¬ len ≤ k := by omega
  simp [execOp, h1, h2, Instr.indexAt, asIntOf, run_underlying (telem_under ht), run_sizeOf hs, hi, hi', addr_add]
/-- One cell out of a slice of the function's own. -/
theorem aq_load_own1 {Mod : List Nat} {t g k len cap ety l d f} (hx : opd env x = some (.p g (k * 1))) (hk : UpdF H (.arr (.slice (some ⟨g, 0, none⟩) len cap) ety 1 l) f) (hm : g ∉ Mod) (hg : tagg P t = some false) (hd : l[k]? = some d) (hsc : Scal d) :
    AQ P n Mod ⟨dst, .load t x, ty, pos, after, gd⟩ env H d := by
  refine ⟨fun F M w0 a w hr' => ?_⟩
  have h1 := hr'.opdv hx
  obtain ⟨_, _, xs, hown, hE⟩ := hr'.heap.holds _ hk.mem
  obtain ⟨c, g1, g2, g3, g4⟩ := hE.get hd
  rcases hown.2 with ⟨hv, _⟩ | ⟨g', cap', cur, hv, h3, h4, h5, h6, h7, h8⟩
  · cases hv
  · simp only [Value.slice.injEq, Option.some.injEq, Addr.mk.injEq] at hv
    obtain ⟨⟨rfl, _, _⟩, _, _⟩ := hv
    refine ⟨c, g3, fun w' hw => ?_⟩
    have hb : w'.heap[g]? = some (.cells cur ety (0, 0)) := by rw [hw g (Array.getElem?_eq_some_iff.1 h4).1 hm]; exact h4
    have hx2 := g4 0 c (by rw [hsc.cells g3]; rfl)
    rw [← h8, List.getElem?_take] at hx2
    split at hx2
    · have hc : w'.cell? ⟨g, k * 1, none⟩ = some c := by rw [cell_of_row w' g _ cur ety (0, 0) hb]; simpa using hx2
      simp [execOp, h1, Instr.loadAt, Instr.sureAddr, loadVar, run_isAgg hg]
      simp only [Nat.mul_one] at hc
      simp [hc]
    · cases hx2
end
end Go.Av
namespace Go.Av
open Go
set_option linter.unusedSimpArgs false
set_option linter.unusedVariables false
/-- The heap in two parts. -/
inductive Split : Heap → Heap → Heap → Prop
  | nil : Split [] [] []
  | left {o H A B} (h : Split H A B) : Split (o :: H) (o :: A) B
  | right {o H A B} (h : Split H A B) : Split (o :: H) A (o :: B)
theorem Split.none : ∀ (H : Heap), Split H [] H
  | [] => .nil
  | _ :: r => .right (Split.none r)
theorem Split.all : ∀ (H : Heap), Split H H []
  | [] => .nil
  | _ :: r => .left (Split.all r)
theorem Split.mem {H A B} (h : Split H A B) : ∀ o, o ∈ H ↔ o ∈ A ∨ o ∈ B := by
  induction h with
  | nil => simp
  | left h ih => intro o; simp only [List.mem_cons, ih]; grind
  | right h ih => intro o; simp only [List.mem_cons, ih]; grind
theorem Split.hb {H A B} (h : Split H A B) (b : Nat) : b ∈ Hb H ↔ b ∈ Hb A ∨ b ∈ Hb B := by
  simp only [Hb, List.mem_filterMap]
  constructor
  · rintro ⟨o, ho, hb⟩
    rcases (h.mem o).1 ho with h' | h'
    · exact .inl ⟨o, h', hb⟩
    · exact .inr ⟨o, h', hb⟩
  · rintro (⟨o, ho, hb⟩ | ⟨o, ho, hb⟩)
    · exact ⟨o, (h.mem o).2 (.inl ho), hb⟩
    · exact ⟨o, (h.mem o).2 (.inr ho), hb⟩
theorem Hb_cons (o : Ob) (H : Heap) : Hb (o :: H) = o.blk.toList ++ Hb H := by
  simp only [Hb, List.filterMap_cons]
  cases o.blk <;> rfl
theorem Split.nodup {H A B} (h : Split H A B) : (Hb H).Nodup → (Hb A).Nodup ∧ (Hb B).Nodup ∧ ∀ b ∈ Hb A, b ∉ Hb B := by
  induction h with
  | nil => simp [Hb]
  | @left o H A B h ih =>
    intro hn
    rw [Hb_cons] at hn
    obtain ⟨h1, h2, h3⟩ := List.nodup_append.1 hn
    obtain ⟨i1, i2, i3⟩ := ih h2
    refine ⟨?_, i2, fun b hb hb' => ?_⟩
    · rw [Hb_cons]
      exact List.nodup_append.2 ⟨h1, i1, fun x hx y hy => h3 x hx y ((h.hb y).2 (.inl hy))⟩
    · rw [Hb_cons] at hb
      rcases List.mem_append.1 hb with hb | hb
      · exact h3 b hb b ((h.hb b).2 (.inr hb')) rfl
      · exact i3 b hb hb'
  | @right o H A B h ih =>
    intro hn
    rw [Hb_cons] at hn
    obtain ⟨h1, h2, h3⟩ := List.nodup_append.1 hn
    obtain ⟨i1, i2, i3⟩ := ih h2
    refine ⟨i1, ?_, fun b hb hb' => ?_⟩
    · rw [Hb_cons]
      exact List.nodup_append.2 ⟨h1, i2, fun x hx y hy => h3 x hx y ((h.hb y).2 (.inr hy))⟩
    · rw [Hb_cons] at hb'
      rcases List.mem_append.1 hb' with hb' | hb'
      · exact h3 b hb' b ((h.hb b).2 (.inl hb)) rfl
      · exact i3 b hb hb'
theorem Split.own {F H A B} (h : Split H A B) (b : Nat) : Own (Own F B) A b ↔ Own F H b := by
  simp only [Own, h.hb b]
  grind
theorem Ob.Holds.iff {w : World} {O O' : Nat → Prop} (h : ∀ b, O' b → O b) {o : Ob} (ho : o.Holds w O) : o.Holds w O' :=
  ho.mono (fun b _ hb => ⟨fun hb' => hb (h b hb'), rfl⟩) (fun _ _ => rfl)
theorem Rep.iff {w : World} {O O' : Nat → Prop} (h : ∀ b, O' b → O b) {d : D} {v : Value} (hr : Rep w O d v) : Rep w O' d v :=
  Rep.mono (fun b _ hb => ⟨fun hb' => hb (h b hb'), rfl⟩) d v hr
theorem HeapOk.split {F H A B w} (hok : HeapOk F H w) (h : Split H A B) : HeapOk (Own F B) A w := by
  obtain ⟨n1, n2, n3⟩ := h.nodup hok.nodup
  refine ⟨fun o ho => (hok.holds o ((h.mem o).2 (.inl ho))).iff (fun b hb => (h.own b).1 hb), n1, fun b hb hO => ?_, fun b hb => ?_⟩
  · rcases hO with hO | hO
    · exact hok.disj b ((h.hb b).2 (.inl hb)) hO
    · exact n3 b hb hO
  · rcases hb with hb | hb
    · exact hok.frb b hb
    · exact hok.blk_lt ((h.hb b).2 (.inr hb))
theorem own_append {F A B} (b : Nat) : Own F (A ++ B) b ↔ Own (Own F B) A b := by
  simp only [Own, Hb, List.filterMap_append, List.mem_append]
  grind
theorem HeapOk.join {F H A B A' w w'} (hok : HeapOk F H w) (h : Split H A B) (hA : HeapOk (Own F B) A' w') (hfr : Fr (Hb A) w w') (hnew : ∀ b ∈ Hb A', b ∈ Hb A ∨ w.heap.size ≤ b) : HeapOk F (A' ++ B) w' := by
  obtain ⟨n1, n2, n3⟩ := h.nodup hok.nodup
  refine ⟨fun o ho => ?_, ?_, fun b hb => ?_, fun b hb => hA.frb b (.inl hb)⟩
  · rcases List.mem_append.1 ho with ho | ho
    · exact (hA.holds o ho).iff (fun b hb => (own_append b).1 hb)
    · have hH := hok.holds o ((h.mem o).2 (.inr ho))
      refine hH.mono (fun b hb hO => ⟨fun hO' => ?_, hfr.block b hb (fun hm => hO (.inr ((h.hb b).2 (.inl hm))))⟩) (fun b hb => hfr.block b (hH.blk_lt hb) (fun hm => n3 b hm (mem_Hb ho hb)))
      rcases (own_append b).1 hO' with hO' | hO'
      · rcases hO' with hO' | hO'
        · exact hO (.inl hO')
        · exact hO (.inr ((h.hb b).2 (.inr hO')))
      · rcases hnew b hO' with h' | h'
        · exact hO (.inr ((h.hb b).2 (.inl h')))
        · omega
  · simp only [Hb, List.filterMap_append]
    exact List.nodup_append.2 ⟨hA.nodup, n2, fun x hx y hy e => hA.disj x hx (.inr (e ▸ hy))⟩
  · simp only [Hb, List.filterMap_append, List.mem_append] at hb
    intro hF
    rcases hb with hb | hb
    · exact hA.disj b hb (.inl hF)
    · exact hok.disj b ((h.hb b).2 (.inr hb)) hF
/-- WHAT A CALL DOES: called with values that read as 'args', owning 'H', it returns a value that reads as d and owns H', with R d H'; nothing else has turned. -/
structure Con (P : Program) (f : FuncId) (args : List D) (H : Heap) (R : D → Heap → Prop) : Prop where
  enter : ∀ (vs : Array Value) (w : World), (callFunc f vs).run P w = .ok (.enter f vs) w
  run : ∀ (F : Nat → Prop) (w : World) (vs : List Value), HeapOk F H w → RepT w (Own F H) args vs →
    Calls P f vs.toArray w (fun e w' => ∃ v d H', e = .returned v ∧ R d H' ∧ Rep w' (Own F H') d v ∧ HeapOk F H' w' ∧ Fr (Hb H) w w' ∧ ∀ b ∈ Hb H', b ∈ Hb H ∨ w.heap.size ≤ b)
theorem Con.mono {P f args H} {R R' : D → Heap → Prop} (h : Con P f args H R) (hR : ∀ d H', R d H' → R' d H') : Con P f args H R' :=
  ⟨h.enter, fun F w vs h1 h2 => (h.run F w vs h1 h2).mono fun e w' ⟨v, d, H', q1, q2, q3⟩ => ⟨v, d, H', q1, hR d H' q2, q3⟩⟩
section
variable {P : Program} {n : Nat} {env : Env} {H : Heap} {dst : Option Tmp} {ty : TypeId} {pos : String} {after : Array Edge} {gd : Option (Nat × Bool)} {x y z : Operand}
inductive ArgsL (env : Env) : List Operand → List D → Prop
  | nil : ArgsL env [] []
  | cons {x d r ds} (hx : opd env x = some d) (h : ArgsL env r ds) : ArgsL env (x :: r) (d :: ds)
theorem ArgsL.rep {F M w0 a w} (hr : Rel F M w0 n env H a w) {xs ds} (h : ArgsL env xs ds) : RepT w (Own F H) ds (xs.map a.eval) := by
  induction h with
  | nil => simp [RepT]
  | cons hx h ih => simp only [List.map_cons, RepT]; exact ⟨_, _, rfl, hr.opd hx, ih⟩
theorem RepT.iff {w : World} {O O' : Nat → Prop} (h : ∀ b, O' b → O b) {l : List D} {vs : List Value} (hr : RepT w O l vs) : RepT w O' l vs :=
  RepT.mono (fun b _ hb => ⟨fun hb' => hb (h b hb'), rfl⟩) l vs hr
theorem RepT.vals {w : World} {O : Nat → Prop} : ∀ (vs : List Value), RepT w O (vs.map .v) vs
  | [] => by simp [RepT]
  | v :: r => by simp only [List.map_cons, RepT]; exact ⟨_, _, rfl, by simp [Rep], RepT.vals r⟩
theorem RepT.append {w : World} {O : Nat → Prop} : ∀ {l l' : List D} {cs cs' : List Value}, RepT w O l cs → RepT w O l' cs' → RepT w O (l ++ l') (cs ++ cs')
  | [], l', cs, cs', h, h' => by simp only [RepT] at h; subst h; simpa using h'
  | d :: r, l', cs, cs', h, h' => by
    simp only [RepT] at h
    obtain ⟨c, cr, rfl, h2, h4⟩ := h
    simp only [List.cons_append, RepT]
    exact ⟨c, cr ++ cs', rfl, h2, RepT.append h4 h'⟩
theorem step_call {g xs ds Hin Hr R K d'} {caps : List Value} {c : Operand} {tys : Array TypeId} (hc : Con P g (ds ++ caps.map .v) Hin R) (hf : opd env c = some (.v (.func (.func g) #[] caps.toArray))) (ha : ArgsL env xs ds) (hs : Split H Hin Hr) (hd : dst = some d') (hn : Nat.blt d' n = true)
    (hk : ∀ d H', R d H' → K ((d', d) :: env) (H' ++ Hr)) : AStep P n ⟨dst, .call { callee := .value c, args := xs.toArray, argTypes := tys }, ty, pos, after, gd⟩ env H K := by
  refine ⟨fun F M w0 a w hr Kc Q hK => ?_⟩
  have h1 := hr.opdv hf
  have hargs : RepT w (Own F H) (ds ++ caps.map .v) (xs.map a.eval ++ caps) := RepT.append (ha.rep hr) (RepT.vals caps)
  have hrun := hc.run (Own F Hr) w _ (hr.heap.split hs) (hargs.iff (fun b hb => (hs.own b).1 hb))
  unfold Oper.wp
  have e : (execOp a.eval ⟨dst, .call { callee := .value c, args := xs.toArray, argTypes := tys }, ty, pos, after, gd⟩).run P w = .ok (.enter g (xs.map a.eval ++ caps).toArray) w := by
    simp [execOp, resolve, h1, Deferred.ofValue, invoke, hc.enter]
  rw [e, Oper.upon_enter]
  refine hrun.mono fun e w' ⟨v, d, H', q1, q2, q3, q4, q5, q6⟩ => ?_
  subst q1
  simp only [hd]
  have hr1 := hr.step (hr.heap.join hs q4 q5 q6) (q5.weaken (fun b hb => (hs.hb b).2 (.inl hb))) (fun b hb => by
    simp only [Hb, List.filterMap_append, List.mem_append] at hb
    rcases hb with hb | hb
    · rcases q6 b hb with h' | h'
      · exact .inl ((hs.hb b).2 (.inl h'))
      · exact .inr h'
    · exact .inl ((hs.hb b).2 (.inr hb)))
  exact hK _ _ _ _ (hk d H' q2) (hr1.put (q3.iff (fun b hb => (own_append b).1 hb)) (by simpa [Nat.blt_eq] using hn))
/-- A call of a function. -/
theorem aops_call {ops rest g xs ds Hin Hr R K d'} {tys : Array TypeId} (ha : ArgsL env xs ds) (hc : Con P g ds Hin R) (hs : Split H Hin Hr) (hd : dst = some d') (hn : Nat.blt d' n = true)
    (hk : ∀ d H', R d H' → AOps P n ops rest ((d', d) :: env) (H' ++ Hr) K) : AOps P n ops (⟨dst, .call { callee := .value (.func g), args := xs.toArray, argTypes := tys }, ty, pos, after, none⟩ :: rest) env H K :=
  aops_step rfl (step_call (caps := []) (by simpa using hc) rfl ha hs hd hn hk)
/-- A call of a function's value. -/
theorem aops_callv {ops rest g xs ds Hin Hr R K d'} {caps : List Value} {c : Operand} {tys : Array TypeId} (hf : opd env c = some (.v (.func (.func g) #[] caps.toArray))) (ha : ArgsL env xs ds) (hc : Con P g (ds ++ caps.map .v) Hin R) (hs : Split H Hin Hr) (hd : dst = some d') (hn : Nat.blt d' n = true)
    (hk : ∀ d H', R d H' → AOps P n ops rest ((d', d) :: env) (H' ++ Hr) K) : AOps P n ops (⟨dst, .call { callee := .value c, args := xs.toArray, argTypes := tys }, ty, pos, after, none⟩ :: rest) env H K :=
  aops_step rfl (step_call hc hf ha hs hd hn hk)
structure AWp (P : Program) (n : Nat) (c : Code) (env : Env) (H : Heap) (Q : Exit → Env → Heap → Prop) : Prop where
  out : ∀ F M w0 a w, Rel F M w0 n env H a w → c.wp P (fun e a' w' => ∃ env' H', Q e env' H' ∧ Rel F M w0 n env' H' a' w') a w
def seqR (N : Env → Heap → Prop) (Q : Exit → Env → Heap → Prop) : Exit → Env → Heap → Prop
  | .normal, e, h => N e h
  | x, e, h => Q x e h
def blockR (id : Nat) (Q : Exit → Env → Heap → Prop) : Exit → Env → Heap → Prop
  | .exit i, e, h => bif Nat.beq i id then Q .normal e h else Q (.exit i) e h
  | x, e, h => Q x e h
structure seqQ (N : Env → Heap → Prop) (Q : Exit → Env → Heap → Prop) (x : Exit) (e : Env) (h : Heap) : Prop where
  out : seqR N Q x e h
structure blockQ (id : Nat) (Q : Exit → Env → Heap → Prop) (x : Exit) (e : Env) (h : Heap) : Prop where
  out : blockR id Q x e h
theorem seqQ_n {N Q e h} (k : N e h) : seqQ N Q .normal e h := ⟨k⟩
theorem seqQ_x {N Q i e h} (k : Q (.exit i) e h) : seqQ N Q (.exit i) e h := ⟨k⟩
theorem seqQ_r {N Q e h} (k : Q .ret e h) : seqQ N Q .ret e h := ⟨k⟩
theorem blockQ_n {id Q e h} (k : Q .normal e h) : blockQ id Q .normal e h := ⟨k⟩
theorem blockQ_r {id Q e h} (k : Q .ret e h) : blockQ id Q .ret e h := ⟨k⟩
theorem blockQ_x {id i Q e h} (hi : Nat.beq i id = true) (k : Q .normal e h) : blockQ id Q (.exit i) e h := by
  refine ⟨?_⟩; simp only [blockR, hi, cond_true]; exact k
theorem blockQ_y {id i Q e h} (hi : Nat.beq i id = false) (k : Q (.exit i) e h) : blockQ id Q (.exit i) e h := by
  refine ⟨?_⟩; simp only [blockR, hi, cond_false]; exact k
variable {Q : Exit → Env → Heap → Prop}
theorem awp_skip (h : Q .normal env H) : AWp P n .skip env H Q := ⟨fun F M w0 a w hr => wp_skip ⟨env, H, h, hr⟩⟩
theorem awp_exit {id} (h : Q (.exit id) env H) : AWp P n (.exit id) env H Q := ⟨fun F M w0 a w hr => wp_exit ⟨env, H, h, hr⟩⟩
theorem awp_ret (h : Q .ret env H) : AWp P n .ret env H Q := ⟨fun F M w0 a w hr => wp_ret ⟨env, H, h, hr⟩⟩
theorem awp_seq {c c' : Code} (h : AWp P n c env H (seqQ (fun env' H' => AWp P n c' env' H' Q) Q)) : AWp P n (.seq c c') env H Q := by
  refine ⟨fun F M w0 a w hr => ?_⟩
  refine wp_seq (wp_mono (h.out F M w0 a w hr) fun e a' w' ⟨env', H', hq, hr'⟩ => ?_)
  cases e with
  | normal => exact hq.out.out F M w0 a' w' hr'
  | _ => exact ⟨env', H', hq.out, hr'⟩
theorem awp_block {c : Code} {id} (h : AWp P n c env H (blockQ id Q)) : AWp P n (.block id c) env H Q := by
  refine ⟨fun F M w0 a w hr => ?_⟩
  refine wp_block (wp_mono (h.out F M w0 a w hr) fun e a' w' ⟨env', H', hq, hr'⟩ => ?_)
  cases e with
  | exit i =>
    simp only [Exit.inBlock]
    by_cases e : i = id
    · subst e; rw [if_pos rfl]; exact ⟨env', H', by simpa [blockR] using hq.out, hr'⟩
    · rw [if_neg e]
      have : Nat.beq i id = false := Bool.eq_false_iff.2 (fun h' => e (Nat.eq_of_beq_eq_true h'))
      exact ⟨env', H', by simpa [blockR, this] using hq.out, hr'⟩
  | _ => exact ⟨env', H', hq.out, hr'⟩
theorem awp_cond {c : Operand} {t : Bool} {c1 c2 : Code} (hc : opd env c = some (.b t)) (ht : t = true → AWp P n c1 env H Q) (hf : t = false → AWp P n c2 env H Q) : AWp P n (.cond c c1 c2) env H Q := by
  refine ⟨fun F M w0 a w hr => ?_⟩
  exact wp_cond_split (hr.opdv hc) (fun h => (ht h).out F M w0 a w hr) (fun h => (hf h).out F M w0 a w hr)
theorem awp_cond_t {c : Operand} {t : Bool} {c1 c2 : Code} (hc : opd env c = some (.b t)) (ht : t = true) (h : AWp P n c1 env H Q) : AWp P n (.cond c c1 c2) env H Q :=
  awp_cond hc (fun _ => h) (fun hf => by rw [ht] at hf; cases hf)
theorem awp_cond_f {c : Operand} {t : Bool} {c1 c2 : Code} (hc : opd env c = some (.b t)) (ht : t = false) (h : AWp P n c2 env H Q) : AWp P n (.cond c c1 c2) env H Q :=
  awp_cond hc (fun hf => by rw [ht] at hf; cases hf) (fun _ => h)
theorem awp_region {id : Nat} {l : List Oper} (h : AOps P n l.toArray l env H (fun env' H' => Q .normal env' H')) : AWp P n (.region id l.toArray false) env H Q := by
  refine ⟨fun F M w0 a w hr => ?_⟩
  exact wp_region_lit (AOps.sound l env H _ h F M w0 a w hr _ fun env' H' a' w' hk hr' => ⟨env', H', hk, hr'⟩)
theorem awp_mono {c : Code} {Q' : Exit → Env → Heap → Prop} (h : AWp P n c env H Q) (hq : ∀ e env' H', Q e env' H' → Q' e env' H') : AWp P n c env H Q' := by
  refine ⟨fun F M w0 a w hr => ?_⟩
  exact wp_mono (h.out F M w0 a w hr) fun e a' w' ⟨env', H', q, hr'⟩ => ⟨env', H', hq _ _ _ q, hr'⟩
/-- What is known may be forgotten, or said otherwise. -/
structure Wk (env : Env) (H : Heap) (env' : Env) (H' : Heap) : Prop where
  out : ∀ F M w0 n a w, Rel F M w0 n env H a w → Rel F M w0 n env' H' a w
theorem awp_wk {c : Code} {env' H'} (hw : Wk env H env' H') (h : AWp P n c env' H' Q) : AWp P n c env H Q :=
  ⟨fun F M w0 a w hr => h.out F M w0 a w (hw.out F M w0 n a w hr)⟩
theorem awp_loop {ι : Type} {c : Code} (E : ι → Env) (Hp : ι → Heap) (I : ι → Prop) (μ : ι → Nat) (i0 : ι) (h0 : I i0) (hw : Wk env H (E i0) (Hp i0))
    (round : ∀ i, I i → AWp P n c (E i) (Hp i) (seqQ (fun env' H' => ∃ j, I j ∧ μ j < μ i ∧ Wk env' H' (E j) (Hp j)) Q)) : AWp P n (.loop c) env H Q := by
  refine ⟨fun F M w0 a w hr => ?_⟩
  have key : ∀ m, ∀ i, μ i = m → I i → ∀ a w, Rel F M w0 n (E i) (Hp i) a w → ∀ b k cs,
      ∃ e a' w', (∃ env' H', Q e env' H' ∧ Rel F M w0 n env' H' a' w') ∧ Arrives P (lone (b.at a (.code c :: .inLoop c :: k)) cs w) b k cs e a' w' := by
    intro m
    induction m using Nat.strongRecOn with
    | _ m ih =>
      intro i hm hi a w hr b k cs
      obtain ⟨e, a1, w1, hq, harr⟩ := (round i hi).out F M w0 a w hr b (.inLoop c :: k) cs
      obtain ⟨env', H', hq, hr'⟩ := hq
      cases e with
      | normal =>
        obtain ⟨j, hj, hlt, hwk⟩ := hq.out
        obtain ⟨e2, a2, w2, hq2, harr2⟩ := ih (μ j) (hm ▸ hlt) j rfl hj a1 w1 (hwk.out F M w0 n a1 w1 hr') b k cs
        exact ⟨e2, a2, w2, hq2, .of_steps (Steps.trans harr (.one step_inLoop)) harr2⟩
      | exit id => exact ⟨_, a1, w1, ⟨env', H', hq.out, hr'⟩, .pass (x := .inLoop c) rfl (fun _ _ => .inl (by simp)) harr⟩
      | goto l => exact ⟨_, a1, w1, ⟨env', H', hq.out, hr'⟩, .pass (x := .inLoop c) rfl (fun _ _ => .inl (by simp)) harr⟩
      | ret => exact ⟨_, a1, w1, ⟨env', H', hq.out, hr'⟩, .pass (x := .inLoop c) rfl (fun _ _ => .inl (by simp)) harr⟩
      | panic ch => exact ⟨_, a1, w1, ⟨env', H', hq.out, hr'⟩, .pass (x := .inLoop c) rfl (fun _ _ => .inl (by simp)) harr⟩
      | outgrown => exact ⟨_, a1, w1, ⟨env', H', hq.out, hr'⟩, .pass (x := .inLoop c) rfl (fun _ _ => .inl (by simp)) harr⟩
  intro b k cs
  obtain ⟨e, a', w', hq, harr⟩ := key _ i0 rfl h0 a w (hw.out F M w0 n a w hr) b k cs
  exact ⟨e, a', w', hq, .of_steps (.one step_loop) harr⟩
end
end Go.Av
namespace Go.Av
open Go
set_option linter.unusedSimpArgs false
set_option linter.unusedVariables false
inductive Sub (env : Env) : Env → Prop
  | nil : Sub env []
  | cons {i d r} (h : look env i = some d) (hr : Sub env r) : Sub env ((i, d) :: r)
theorem Sub.look {env env' : Env} (h : Sub env env') : ∀ i d, look env' i = some d → look env i = some d := by
  induction h with
  | nil => intro i d h; simp [Av.look] at h
  | @cons j e r h hr ih =>
    intro i d hi
    rw [look_cons] at hi
    by_cases e : j = i
    · subst e; simp only [if_true, Option.some.injEq] at hi; subst hi; exact h
    · rw [if_neg e] at hi; exact ih i d hi
inductive Rem : Heap → Ob → Heap → Prop
  | here {o r} : Rem (o :: r) o r
  | there {x r o r'} (h : Rem r o r') : Rem (x :: r) o (x :: r')
inductive Keep : Heap → Heap → Prop
  | nil {H} : Keep H []
  | cons {H o H1 r} (h : Rem H o H1) (hr : Keep H1 r) : Keep H (o :: r)
theorem Rem.perm {H o H1} (h : Rem H o H1) : H.Perm (o :: H1) := by
  induction h with
  | here => exact .refl _
  | there h ih => exact (List.Perm.cons _ ih).trans (List.Perm.swap ..)
theorem Keep.perm {H K} (h : Keep H K) : ∃ R, H.Perm (K ++ R) := by
  induction h with
  | @nil H => exact ⟨H, .refl _⟩
  | cons h hr ih =>
    obtain ⟨R, hR⟩ := ih
    exact ⟨R, h.perm.trans (List.Perm.cons _ hR)⟩
theorem HeapOk.perm {F H K R w} (h : HeapOk F H w) (hp : H.Perm (K ++ R)) : HeapOk F K w := by
  have hb : (Hb H).Perm (Hb K ++ Hb R) := by
    have := hp.filterMap Ob.blk
    rwa [List.filterMap_append] at this
  have hmem : ∀ b ∈ Hb K, b ∈ Hb H := fun b hb' => hb.symm.subset (List.mem_append_left _ hb')
  refine ⟨fun o ho => (h.holds o (hp.symm.subset (List.mem_append_left _ ho))).iff (fun b hb' => ?_), ?_, fun b hb' => h.disj b (hmem b hb'), h.frb⟩
  · rcases hb' with hb' | hb'
    · exact .inl hb'
    · exact .inr (hmem b hb')
  · exact (List.nodup_append.1 (hb.nodup_iff.1 h.nodup)).1
theorem own_sub {F H K R} (hp : List.Perm H (K ++ R)) (b : Nat) (h : Own F K b) : Own F H b := by
  rcases h with h | h
  · exact .inl h
  · refine .inr ?_
    have hb : (Hb H).Perm (Hb K ++ Hb R) := by
      have := hp.filterMap Ob.blk
      rwa [List.filterMap_append] at this
    exact hb.symm.subset (List.mem_append_left _ h)
theorem hb_sub {H K R} (hp : List.Perm H (K ++ R)) (b : Nat) (h : b ∈ Hb K) : b ∈ Hb H := by
  have hb : (Hb H).Perm (Hb K ++ Hb R) := by
    have := hp.filterMap Ob.blk
    rwa [List.filterMap_append] at this
  exact hb.symm.subset (List.mem_append_left _ h)
theorem wk {env H env' H'} (he : Sub env env') (hh : Keep H H') : Wk env H env' H' := by
  refine ⟨fun F M w0 n a w hr => ?_⟩
  obtain ⟨R, hp⟩ := hh.perm
  refine ⟨fun i d hi => ?_, hr.heap.perm hp, hr.fr, fun b hb => hr.mine b (hb_sub hp b hb), hr.f0, hr.dfr, hr.tsz⟩
  obtain ⟨v, h1, h2⟩ := hr.env i d (he.look i d hi)
  exact ⟨v, h1, h2.iff (own_sub hp)⟩
theorem Wk.trans {e1 H1 e2 H2 e3 H3} (h : Wk e1 H1 e2 H2) (k : Wk e2 H2 e3 H3) : Wk e1 H1 e3 H3 :=
  ⟨fun F M w0 n a w hr => k.out F M w0 n a w (h.out F M w0 n a w hr)⟩
theorem Wk.refl (e H) : Wk e H e H := ⟨fun _ _ _ _ _ _ h => h⟩
/-- What reads as d reads as d', once the slice value 'v' reads as '.sl sz l'. -/
def Cv (v : Value) (sz : Nat) (l : List D) (d d' : D) : Prop := ∀ w O, Rep w O (.sl sz l) v → ∀ y, Rep w O d y → Rep w O d' y
def CvL (v : Value) (sz : Nat) (l : List D) (ds ds' : List D) : Prop := ∀ w O, Rep w O (.sl sz l) v → ∀ ys, RepL w O ds ys → RepL w O ds' ys
def CvE (v : Value) (sz : Nat) (l : List D) (s : Nat) (ds ds' : List D) : Prop := ∀ w O, Rep w O (.sl sz l) v → ∀ ys, RepE w O s ds ys → RepE w O s ds' ys
section
variable {v : Value} {sz : Nat} {l : List D}
theorem Cv.same {d} : Cv v sz l d d := fun _ _ _ _ h => h
theorem Cv.fz : Cv v sz l (.v v) (.sl sz l) := fun w O h y hy => by
  have : y = v := by simpa [Rep] using hy
  subst this
  exact h
theorem Cv.nil {s} : Cv v sz l .nil (.sl s []) := fun w O h y hy => by
  have : y = .slice none 0 0 := by simpa [Rep] using hy
  subst this
  simp only [Rep]
  exact ⟨by simp, [], by simp [RepE], .inr (by simp)⟩
theorem Cv.agg {xs ys} (h : CvL v sz l xs ys) : Cv v sz l (.agg xs) (.agg ys) := fun w O hv y hy => by
  simp only [Rep] at hy ⊢
  obtain ⟨cs, h1, h2⟩ := hy
  exact ⟨cs, h1, h w O hv cs h2⟩
theorem CvL.nil : CvL v sz l [] [] := fun _ _ _ _ h => h
theorem CvL.cons {x y xs ys} (h : Cv v sz l x y) (hr : CvL v sz l xs ys) : CvL v sz l (x :: xs) (y :: ys) := fun w O hv zs hz => by
  simp only [RepL] at hz ⊢
  obtain ⟨c, cr, h1, h2, h3, h4⟩ := hz
  exact ⟨c, cr, h1, h w O hv c h2, h3, hr w O hv cr h4⟩
theorem CvE.same {s d} : CvE v sz l s d d := fun _ _ _ _ h => h
theorem CvE.nil {s} : CvE v sz l s [] [] := fun _ _ _ _ h => h
theorem CvE.cons {s x y xs ys} (h : Cv v sz l x y) (hr : CvE v sz l s xs ys) : CvE v sz l s (x :: xs) (y :: ys) := fun w O hv zs hz => by
  simp only [RepE] at hz ⊢
  obtain ⟨c, cr, h1, h2, h3, h4, h5⟩ := hz
  exact ⟨c, cr, h1, h2, h3, h w O hv c h4, hr w O hv cr h5⟩
end
inductive SubC (v : Value) (sz : Nat) (l : List D) (env : Env) : Env → Prop
  | nil : SubC v sz l env []
  | cons {i d d' r} (h : look env i = some d) (hc : Cv v sz l d d') (hr : SubC v sz l env r) : SubC v sz l env ((i, d') :: r)
theorem SubC.look {v sz l} {env env' : Env} (h : SubC v sz l env env') : ∀ i d', look env' i = some d' → ∃ d, look env i = some d ∧ Cv v sz l d d' := by
  induction h with
  | nil => intro i d h; simp [Av.look] at h
  | @cons j e e' r h hc hr ih =>
    intro i d hi
    rw [look_cons] at hi
    by_cases e : j = i
    · subst e; simp only [if_true, Option.some.injEq] at hi; subst hi; exact ⟨_, h, hc⟩
    · rw [if_neg e] at hi; exact ih i d hi
inductive HeapC (v : Value) (sz : Nat) (l : List D) : Heap → Heap → Prop
  | nil {H} : HeapC v sz l H []
  | box {H b ty cs cs' H1 r} (h : Rem H (.box b ty cs) H1) (hc : CvL v sz l cs cs') (hr : HeapC v sz l H1 r) : HeapC v sz l H (.box b ty cs' :: r)
  | arr {H u ety s cs cs' H1 r} (h : Rem H (.arr u ety s cs) H1) (hl : cs'.length = cs.length) (hc : CvE v sz l s cs cs') (hr : HeapC v sz l H1 r) : HeapC v sz l H (.arr u ety s cs' :: r)
theorem HeapC.spec {v sz l H H'} (h : HeapC v sz l H H') : ∃ K R, H.Perm (K ++ R) ∧ Hb K = Hb H' ∧ ∀ w O, Rep w O (.sl sz l) v → ∀ o' ∈ H', ∃ o ∈ K, o.blk = o'.blk ∧ (o.Holds w O → o'.Holds w O) := by
  induction h with
  | @nil H => exact ⟨[], H, .refl _, rfl, by simp⟩
  | @box H b ty cs cs' H1 r h hc hr ih =>
    obtain ⟨K, R, h1, h2, h3⟩ := ih
    refine ⟨.box b ty cs :: K, R, h.perm.trans (List.Perm.cons _ h1), by simp [Hb_cons, h2, Ob.blk], fun w O hv o' ho' => ?_⟩
    rcases List.mem_cons.1 ho' with rfl | ho'
    · exact ⟨_, List.mem_cons_self .., rfl, fun ⟨vs, q1, q2⟩ => ⟨vs, q1, hc w O hv vs q2⟩⟩
    · obtain ⟨o, k1, k2⟩ := h3 w O hv o' ho'
      exact ⟨o, List.mem_cons_of_mem _ k1, k2⟩
  | @arr H u ety s cs cs' H1 r h hl hc hr ih =>
    obtain ⟨K, R, h1, h2, h3⟩ := ih
    refine ⟨.arr u ety s cs :: K, R, h.perm.trans (List.Perm.cons _ h1), by simp [Hb_cons, h2, Ob.blk], fun w O hv o' ho' => ?_⟩
    rcases List.mem_cons.1 ho' with rfl | ho'
    · exact ⟨_, List.mem_cons_self .., rfl, fun ⟨p1, p2, xs, q1, q2⟩ => ⟨p1, by rw [hl]; exact p2, xs, by rw [hl]; exact q1, hc w O hv xs q2⟩⟩
    · obtain ⟨o, k1, k2⟩ := h3 w O hv o' ho'
      exact ⟨o, List.mem_cons_of_mem _ k1, k2⟩
/-- An owned slice is frozen. -/
theorem wk_freeze {env H env' H' v ety sz l H1} (hk : Rem H (.arr v ety sz l) H1) (he : SubC v sz l env env') (hh : HeapC v sz l H1 H') : Wk env H env' H' := by
  refine ⟨fun F M w0 n a w hr => ?_⟩
  obtain ⟨K, R, hp, hb, hho⟩ := hh.spec
  have hpH : H.Perm ([] ++ H) := .refl _
  have hpK : H.Perm (K ++ (.arr v ety sz l :: R)) := by
    refine hk.perm.trans ((List.Perm.cons _ hp).trans ?_)
    exact (List.perm_middle (l₁ := K)).symm
  have hok := hr.heap.perm hpK
  obtain ⟨hsz, hlb, xs, hown, hE⟩ := hr.heap.holds _ (hk.perm.symm.subset (List.mem_cons_self ..))
  have hownK : ∀ b, Own F K b → Own F H b := own_sub hpK
  -- the frozen slice reads
  have hv : Rep w (Own F K) (.sl sz l) v := by
    simp only [Rep]
    refine ⟨hlb, xs, RepE.mono (fun b _ hb' => ⟨fun h => hb' (hownK b h), rfl⟩) _ _ _ hE, ?_⟩
    rcases hown.2 with ⟨h1, h2⟩ | ⟨g, cap, cur, h1, h3, h4, h5, h6, h7, h8⟩
    · exact .inr ⟨h1, List.eq_nil_of_length_eq_zero h2⟩
    · refine .inl ⟨⟨g, 0, none⟩, cap, h1, h5, .inr ⟨fun hO => ?_, rfl, fun j c hj => ?_⟩⟩
      · have hg : (Ob.arr v ety sz l).blk = some g := by simp [Ob.blk, h1, Value.ownBlock]
        have hgH : g ∈ Hb H := mem_Hb (hk.perm.symm.subset (List.mem_cons_self ..)) hg
        rcases hO with hF | hm
        · exact hr.heap.disj g hgH hF
        · have hbn := ((hpK.filterMap Ob.blk).nodup_iff.1 hr.heap.nodup)
          rw [List.filterMap_append] at hbn
          obtain ⟨_, _, hd⟩ := List.nodup_append.1 hbn
          exact hd g hm g (List.mem_filterMap.2 ⟨_, List.mem_cons_self .., hg⟩) rfl
      · rw [← h8, List.getElem?_take] at hj
        split at hj
        · rw [cell_of_row w g _ cur ety (0, 0) h4]; simpa using hj
        · cases hj
  have hOK' : ∀ b, Own F H' b ↔ Own F K b := fun b => by simp only [Own, hb]
  refine ⟨fun i d' hi => ?_, ⟨fun o' ho' => ?_, by rw [← hb]; exact hok.nodup, fun b hb' => hok.disj b (by rw [hb]; exact hb'), hr.heap.frb⟩, hr.fr, fun b hb' => hr.mine b (hb_sub hpK b (by rw [hb]; exact hb')), hr.f0, hr.dfr, hr.tsz⟩
  · obtain ⟨d, h1, h2⟩ := he.look i d' hi
    obtain ⟨u, h3, h4⟩ := hr.env i d h1
    exact ⟨u, h3, (h2 w (Own F K) hv u (h4.iff hownK)).iff (fun b hb' => (hOK' b).1 hb')⟩
  · obtain ⟨o, k1, k2, k3⟩ := hho w (Own F K) hv o' ho'
    exact (k3 (hok.holds o k1)).iff (fun b hb' => (hOK' b).1 hb')
/-- Nil slices as empty ones, and forgetting. -/
theorem wk_nil {env H env' H'} (he : SubC (.slice none 0 0) 1 [] env env') (hh : HeapC (.slice none 0 0) 1 [] H H') : Wk env H env' H' := by
  refine ⟨fun F M w0 n a w hr => ?_⟩
  exact (wk_freeze .here he hh).out F M w0 n a w (hr.nilArr 0 1 (by omega))
/-- A nil slice becomes a row of the function's own. -/
theorem wk_own {env H} (e sz : Nat) (hsz : Nat.blt 0 sz = true) : Wk env H env (.arr (.slice none 0 0) e sz [] :: H) :=
  ⟨fun F M w0 n a w hr => hr.nilArr e sz (by simpa using hsz)⟩
def argEnv : Nat → List D → Env
  | _, [] => []
  | k, d :: r => (k, d) :: argEnv (k + 1) r
theorem argEnv_look : ∀ (ds : List D) (k i : Nat) (d : D), look (argEnv k ds) i = some d → k ≤ i ∧ ds[i - k]? = some d
  | [], k, i, d, h => by simp [argEnv, look] at h
  | e :: r, k, i, d, h => by
    rw [argEnv, look_cons] at h
    by_cases e' : k = i
    · subst e'; simp only [if_true, Option.some.injEq] at h; subst h; simp
    · rw [if_neg e'] at h
      obtain ⟨h1, h2⟩ := argEnv_look r (k + 1) i d h
      refine ⟨by omega, ?_⟩
      rw [show i - k = (i - (k + 1)) + 1 by omega, List.getElem?_cons_succ]
      exact h2
theorem RepT.length {w : World} {O : Nat → Prop} : ∀ {l : List D} {cs : List Value}, RepT w O l cs → l.length = cs.length
  | [], cs, h => by simp only [RepT] at h; subst h; rfl
  | d :: r, cs, h => by
    simp only [RepT] at h
    obtain ⟨c, cr, rfl, _, h4⟩ := h
    simp [RepT.length h4]
section
variable {P : Program} {n : Nat}
inductive ResL (P : Program) (env : Env) (H : Heap) : List ResultVar → List D → Prop
  | nil : ResL P env H [] []
  | tmp {t d rs ds} (h : look env t = some d) (hr : ResL P env H rs ds) : ResL P env H (.tmp t :: rs) (d :: ds)
  | cell {t ty b bty cs f rs ds} (h : look env t = some (.p b 0)) (hk : UpdF H (.box b bty cs) f) (hg : tagg P ty = some true) (hs : tsize P ty = some cs.length) (hr : ResL P env H rs ds) : ResL P env H (.cell t ty :: rs) (.agg cs :: ds)
  | cell1 {t ty b bty d f rs ds} (h : look env t = some (.p b 0)) (hk : UpdF H (.box b bty [d]) f) (hg : tagg P ty = some false) (hr : ResL P env H rs ds) : ResL P env H (.cell t ty :: rs) (d :: ds)
def resOf (tmps : Array Value) : ResultVar → Sem Value
  | .tmp t => pure (tmps.getD t undef)
  | .cell s t => do loadVar t (← asAddr (tmps.getD s undef))
def resV : List Value → Value
  | [v] => v
  | l => .tuple l.toArray
def resD : List D → D
  | [d] => d
  | l => .tup l
theorem ResL.run {F M w0 env H a w} (hr : Rel F M w0 n env H a w) {rs ds} (h : ResL P env H rs ds) :
    ∃ vs : List Value, RepT w (Own F H) ds vs ∧ (rs.mapM (resOf a.tmps)).run P w = .ok vs w := by
  induction h with
  | nil => exact ⟨[], by simp [RepT], by simp⟩
  | @tmp t d rs ds h hrs ih =>
    obtain ⟨vs, h1, h2⟩ := ih
    have h3 := hr.eval h
    refine ⟨a.tmps.getD t undef :: vs, by simp only [RepT]; exact ⟨_, _, rfl, h3, h1⟩, ?_⟩
    rw [List.mapM_cons, Sem.run_bind]
    simp only [resOf, Sem.run_pure, Result.andThen_ok, Sem.run_bind, h2]
  | @cell t ty b bty cs f rs ds h hk hg hs hrs ih =>
    obtain ⟨vs, h1, h2⟩ := ih
    have h3 : a.tmps.getD t undef = .pointer (some ⟨b, 0, none⟩) := by have := hr.eval h; simpa [Rep, Act.eval] using this
    obtain ⟨us, q1, q2⟩ := hr.heap.holds _ hk.mem
    refine ⟨.agg us.toArray :: vs, by simp only [RepT]; exact ⟨_, _, rfl, by simp only [Rep]; exact ⟨us, rfl, q2⟩, h1⟩, ?_⟩
    have hl := run_loadCells_list (P := P) w ⟨b, 0, none⟩ us (fun j u hu => by
      rw [addr_add, cell_of_row w b _ us.toArray bty (0, 0) q1]; simpa using hu)
    rw [← q2.length] at hl
    rw [List.mapM_cons, Sem.run_bind]
    simp only [resOf, Sem.run_bind, h3, asAddr, Sem.run_pure, Result.andThen_ok, loadVar, run_isAgg hg, if_true, run_sizeOf hs, hl, h2]
  | @cell1 t ty b bty d f rs ds h hk hg hrs ih =>
    obtain ⟨vs, h1, h2⟩ := ih
    have h3 : a.tmps.getD t undef = .pointer (some ⟨b, 0, none⟩) := by have := hr.eval h; simpa [Rep, Act.eval] using this
    obtain ⟨us, q1, q2⟩ := hr.heap.holds _ hk.mem
    simp only [RepL] at q2
    obtain ⟨c, cr, rfl, k1, k2, rfl⟩ := q2
    refine ⟨c :: vs, by simp only [RepT]; exact ⟨_, _, rfl, k1, h1⟩, ?_⟩
    have hc : w.cell? ⟨b, 0, none⟩ = some c := by rw [cell_of_row w b _ [c].toArray bty (0, 0) q1]; rfl
    rw [List.mapM_cons, Sem.run_bind]
    simp only [resOf, Sem.run_bind, h3, asAddr, Sem.run_pure, Result.andThen_ok, loadVar, run_isAgg hg, Bool.false_eq_true, if_false, run_load, hc, h2]
theorem results_run {fn : Func} {tmps : Array Value} {w : World} {vs : List Value}
    (h : (fn.results.toList.mapM (resOf tmps)).run P w = .ok vs w) :
    (results fn tmps).run P w = .ok (resV vs) w := by
  have e : results fn tmps = (do let vs ← fn.results.mapM (resOf tmps); pure (if h : vs.size = 1 then vs[0] else .tuple vs)) := rfl
  rw [e, Array.mapM_eq_mapM_toList, Sem.run_bind, Sem.run_map, h]
  simp only [Result.andThen_ok, Sem.run_pure]
  match vs with
  | [] => simp [resV]
  | [v] => simp [resV]
  | v :: u :: r => simp [resV]
theorem resD_rep {w : World} {O : Nat → Prop} : ∀ {ds : List D} {vs : List Value}, RepT w O ds vs → Rep w O (resD ds) (resV vs)
  | [], vs, h => by simp only [RepT] at h; subst h; simp only [resD, Rep, resV]; exact ⟨[], rfl, by simp [RepT]⟩
  | [d], vs, h => by
    simp only [RepT] at h
    obtain ⟨c, cr, rfl, h1, rfl⟩ := h
    exact h1
  | d :: e :: r, vs, h => by
    have hl := h.length
    match vs, hl with
    | v :: u :: q, _ => simp only [resD, Rep, resV]; exact ⟨v :: u :: q, rfl, h⟩
/-- The post that a body's walk must reach. -/
structure Post (P : Program) (rs : List ResultVar) (R : D → Heap → Prop) (e : Exit) (env : Env) (H : Heap) : Prop where
  out : (e = .ret ∨ e = .normal) ∧ ∃ ds K, ResL P env H rs ds ∧ Keep H K ∧ R (resD ds) K
theorem post_ret {rs R env H ds K} (h : ResL P env H rs ds) (hk : Keep H K) (hR : R (resD ds) K) : Post P rs R .ret env H := ⟨⟨.inl rfl, ds, K, h, hk, hR⟩⟩
theorem post_end {rs R env H ds K} (h : ResL P env H rs ds) (hk : Keep H K) (hR : R (resD ds) K) : Post P rs R .normal env H := ⟨⟨.inr rfl, ds, K, h, hk, hR⟩⟩
theorem con_intro {f : FuncId} {fn : Func} {c : Code} {args : List D} {H : Heap} {R : D → Heap → Prop} (hf : P.funcs[f]? = some fn) (hb : fn.body = some c)
    (hcall : ∀ (vs : Array Value) (w : World), (callFunc f vs).run P w = .ok (.enter f vs) w) (hlen : Nat.ble args.length fn.ntmps = true)
    (h : AWp P fn.ntmps c (argEnv 0 args) H (Post P fn.results.toList R)) : Con P f args H R := by
  refine ⟨hcall, fun F w vs hok hargs => calls_of_wp hf hb ?_⟩
  have hl := hargs.length
  have hlen' : args.length ≤ fn.ntmps := by simpa using hlen
  have hr : Rel F (Hb H) w fn.ntmps (argEnv 0 args) H { tmps := vs.toArray ++ Array.replicate (fn.ntmps - vs.toArray.size) undef, defers := [] } w := by
    refine ⟨fun i d hi => ?_, hok, Fr.refl _ _, fun b hb => .inl hb, hok.frb, rfl, ?_⟩
    · obtain ⟨h1, h2⟩ := argEnv_look args 0 i d hi
      simp only [Nat.sub_zero] at h2
      obtain ⟨u, h3, h4⟩ := hargs.get h2
      refine ⟨u, ?_, h4⟩
      have hil : i < vs.length := (List.getElem?_eq_some_iff.1 h3).1
      rw [Array.getElem?_append_left (by simpa using hil)]
      simpa using h3
    · simp only [Array.size_append, List.size_toArray, Array.size_replicate]; omega
  refine wp_mono (h.out F (Hb H) w _ w hr) fun e a' w' ⟨env', H', ⟨⟨he, ds, K, hres, hkeep, hR⟩⟩, hr'⟩ => ?_
  obtain ⟨us, k1, k2⟩ := hres.run hr'
  obtain ⟨Rm, hp⟩ := hkeep.perm
  have hfin : a'.defers = [] ∧ ∃ v, (results fn a'.tmps).run P w' = .ok v w' ∧ ∃ v' d H'', (Ending.returned v) = .returned v' ∧ R d H'' ∧ Rep w' (Own F H'') d v' ∧ HeapOk F H'' w' ∧ Fr (Hb H) w w' ∧ ∀ b ∈ Hb H'', b ∈ Hb H ∨ w.heap.size ≤ b :=
    ⟨hr'.dfr, _, results_run k2, _, resD ds, K, rfl, hR, (resD_rep k1).iff (own_sub hp), hr'.heap.perm hp, hr'.fr, fun b hb => hr'.mine b (hb_sub hp b hb)⟩
  rcases he with rfl | rfl
  · exact hfin
  · exact hfin
end
end Go.Av
namespace Go.Av
open Go
set_option linter.unusedSimpArgs false
set_option linter.unusedVariables false
section generic
variable {P : Program} {ops : Array Oper} {Q : Exit → Act → World → Prop} {md : Region.Mode} {X : Type} {G : X → World → X → World → Prop}
/-- Whatever order is picked from here on; each step is told by G. -/
def wpAnyG (P : Program) (md : Region.Mode) (ops : Array Oper) (Q : Exit → Act → World → Prop) (G : X → World → X → World → Prop) : Nat → Array Bool → Act → World → X → Prop
  | 0, listed, a, w, _ => Region.ready md ops listed = [] ∧ Q .normal a w
  | fuel + 1, listed, a, w, x =>
    (Region.ready md ops listed = [] → Q .normal a w) ∧
    ∀ i ∈ Region.ready md ops listed, wpOp P ops Q i (fun a' w' => ∃ x', G x w x' w' ∧ wpAnyG P md ops Q G fuel (listed.setIfInBounds i true) a' w' x') a w
theorem wpAny_of_G : ∀ (fuel : Nat) (listed : Array Bool) (a : Act) (w : World) (x : X), wpAnyG P md ops Q G fuel listed a w x → wpAny P md ops Q fuel listed a w
  | 0, _, _, _, _, h => h
  | fuel + 1, _, _, _, _, h => ⟨h.1, fun i hi => wpOp_mono (fun a' w' ⟨x', _, h'⟩ => wpAny_of_G fuel _ a' w' x' h') (h.2 i hi)⟩
/-- An operation that yields its value in every world that may come may be taken first. -/
theorem wpAnyG_first (hrefl : ∀ x w, G x w x w) (htrans : ∀ x w x' w' x'' w'', G x w x' w' → G x' w' x'' w'' → G x w x'' w'') {i : Nat} {oi : Oper} {v : Value} (hi : ops[i]? = some oi) (hsel : ∀ (j : Nat) (o : Oper) cs b, ops[j]? = some o → o.op ≠ .select cs b)
    (hQ : ∀ c a w, Q (.panic c) (a.put oi.dst v) w → Q (.panic c) a w) :
    ∀ (fuel : Nat) (listed : Array Bool) (a : Act) (w : World) (x : X),
      (∀ j oj, ops[j]? = some oj → j ≠ i → listed.getD j true = false → (∀ e ∈ oj.after, Region.binds md e = true → e.on ≠ i) → oi.apart ops oj = true) →
      i ∈ Region.ready md ops listed → YieldsIf P ops (fun w' => ∃ x', G x w x' w') oi v a →
      wpAnyG P md ops Q G fuel (listed.setIfInBounds i true) (a.put oi.dst v) w x → wpAnyG P md ops Q G (fuel + 1) listed a w x := by
  intro fuel
  induction fuel with
  | zero =>
    intro listed a w x _ hr hy H
    refine ⟨fun h => (by rw [h] at hr; cases hr), fun j hj => ?_⟩
    by_cases hji : j = i
    · subst hji; exact hy.wpOp hi ⟨x, hrefl x w⟩ ⟨x, hrefl x w, H⟩
    · have := ready_mono hj hji
      rw [H.1] at this
      cases this
  | succ fuel ih =>
    intro listed a w x hfree hr hy H
    refine ⟨fun h => (by rw [h] at hr; cases hr), fun j hj => ?_⟩
    by_cases hji : j = i
    · subst hji; exact hy.wpOp hi ⟨x, hrefl x w⟩ ⟨x, hrefl x w, H⟩
    · have h1 := H.2 j (ready_mono hj hji)
      obtain ⟨hjun, oj, hoj, hall⟩ := mem_ready.1 hj
      have hnot : ∀ e ∈ oj.after, Region.binds md e = true → e.on ≠ i := fun e he hb heq => by
        have h1 := hall e he hb
        have h0 := (mem_ready.1 hr).1
        rw [heq] at h1
        rcases Nat.lt_or_ge i listed.size with h' | h'
        · simp [h'] at h0 h1; rw [h0] at h1; cases h1
        · simp [Array.getElem?_eq_none h'] at h1
      have h2 := wpOp_putIf hoj (hfree j oj hoj hji hjun hnot) (fun cs b => hsel i oi cs b hi) (fun cs b => hsel j oj cs b hoj) hQ hy h1
      have hfree' : ∀ k ok, ops[k]? = some ok → k ≠ i → (listed.setIfInBounds j true).getD k true = false →
          (∀ e ∈ ok.after, Region.binds md e = true → e.on ≠ i) → oi.apart ops ok = true := fun k ok hk hki hun hno => by
        refine hfree k ok hk hki ?_ hno
        by_cases hjk : j = k
        · subst hjk; exact hjun
        · rw [getD_set_ne true hjk] at hun; exact hun
      refine wpOp_mono (fun a' w' h3 => ?_) h2
      obtain ⟨hy', x', hG, h4⟩ := h3
      refine ⟨x', hG, ih (listed.setIfInBounds j true) a' w' x' hfree' (ready_mono hr (Ne.symm hji)) ?_ ?_⟩
      · rcases hy' with ⟨k1, k2⟩ | k
        · exact .inl ⟨k1, fun w'' ⟨x'', h''⟩ => k2 w'' ⟨x'', htrans _ _ _ _ _ _ hG h''⟩⟩
        · exact .inr k
      · rw [Array.setIfInBounds_comm _ _ hji]
        exact h4
end generic
inductive Gd (ops : Array Oper) (env : Env) (o : Oper) : Bool → Prop
  | none (h : o.guard = none) : Gd ops env o true
  | yes {j want c} (h : o.guard = some (j, want)) (hl : ((ops[j]?).bind (·.dst)).bind (look env) = some (D.b c)) (hc : c = want) : Gd ops env o true
  | no {j want c} (h : o.guard = some (j, want)) (hl : ((ops[j]?).bind (·.dst)).bind (look env) = some (D.b c)) (hc : c = !want) : Gd ops env o false
  | nou {j want} (h : o.guard = some (j, want)) (hl : ((ops[j]?).bind (·.dst)).bind (look env) = some (D.v undef)) : Gd ops env o false
theorem Gd.wanted {n : Nat} {env : Env} {H : Heap} {ops : Array Oper} {o : Oper} {g F M w0 a w} (h : Gd ops env o g) (hr : Rel F M w0 n env H a w) : Region.wanted o (yielded ops a.tmps) = g := by
  cases h with
  | none h => simp [Region.wanted, h]
  | yes h hl hc => simp [Region.wanted, h, yielded_of hr hl, hc]
  | no h hl hc => rename_i j want c; subst hc; simp [Region.wanted, h, yielded_of hr hl]
  | nou h hl => rename_i j want; have := yielded_not (want := want) hr hl (by unfold undef; intro e; cases e); simp [Region.wanted, h]; exact this
/-- What is not owned stays. -/
structure Gr (x : Heap) (w : World) (x' : Heap) (w' : World) : Prop where
  size : w.heap.size ≤ w'.heap.size
  block : ∀ b, b < w.heap.size → b ∉ Hb x → w'.heap[b]? = w.heap[b]?
  mine : ∀ b ∈ Hb x', b ∈ Hb x ∨ w.heap.size ≤ b
theorem Gr.refl (x w) : Gr x w x w := ⟨Nat.le_refl _, fun _ _ _ => rfl, fun _ h => .inl h⟩
theorem Gr.trans (x w x' w' x'' w'') (h : Gr x w x' w') (k : Gr x' w' x'' w'') : Gr x w x'' w'' := by
  refine ⟨Nat.le_trans h.size k.size, fun b hb hx => ?_, fun b hb => ?_⟩
  · have hx' : b ∉ Hb x' := fun hm => by rcases h.mine b hm with h' | h'; exact hx h'; omega
    exact (k.block b (Nat.lt_of_lt_of_le hb h.size) hx').trans (h.block b hb hx)
  · rcases k.mine b hb with h' | h'
    · exact h.mine b h'
    · exact .inr (Nat.le_trans h.size h')
/-- The objects that a region leaves alone. -/
def Rest (F : Nat → Prop) (H Hr : Heap) (w : World) : Prop := ∀ o ∈ Hr, (∀ b, o.blk = some b → F b) ∧ o.Holds w (Own F H)
section
variable {P : Program} {n : Nat} {env : Env} {H Hr : Heap} {dst : Option Tmp} {ty : TypeId} {pos : String} {after : Array Edge} {gd : Option (Nat × Bool)} {x y z : Operand}
structure AR (P : Program) (n : Nat) (Hr : Heap) (o : Oper) (env : Env) (H : Heap) (d : D) : Prop where
  out : ∀ F M w0 a w, Rel F M w0 n env H a w → Rest F H Hr w → ∃ v, Rep w (Own F H) d v ∧ ∀ w', (∀ b, b < w.heap.size → b ∉ Hb H → w'.heap[b]? = w.heap[b]?) → (execOp a.eval o).run P w' = .ok (.value v) w'
structure AAny (P : Program) (n : Nat) (Hr : Heap) (ops : Array Oper) (fuel : Nat) (listed : Array Bool) (env : Env) (H : Heap) (K : Env → Heap → Prop) : Prop where
  out : ∀ F M w0 a w, Rel F M w0 n env H a w → Rest F H Hr w → ∀ (Q : Exit → Act → World → Prop), (∀ c a w a' w', Q (.panic c) a w → Q (.panic c) a' w') →
    (∀ env' H' a' w', K env' H' → Rel F M w0 n env' H' a' w' → Q .normal a' w') → wpAnyG P .any ops Q Gr fuel listed a w H
theorem AP.ar {o d} (h : AP P n o env H d) : AR P n Hr o env H d := ⟨fun F M w0 a w hr _ => let ⟨v, h1, h2⟩ := h.out F M w0 a w hr; ⟨v, h1, fun w' _ => h2 w'⟩⟩
theorem AQ.ar {o d} (h : AQ P n (Hb H) o env H d) : AR P n Hr o env H d := ⟨fun F M w0 a w hr _ => h.out F M w0 a w hr⟩
/-- A read out of an object that the region leaves alone. -/
theorem Rest.mem {F w} (h : Rest F H Hr w) (hok : HeapOk F H w) {o f b} (hk : UpdF Hr o f) (hb : o.blk = some b) : b ∉ Hb H ∧ o.Holds w (Own F H) :=
  ⟨fun hm => hok.disj b hm ((h o hk.mem).1 b hb), (h o hk.mem).2⟩
theorem ar_load {t b off bty cs sz r f} (hx : opd env x = some (.p b off)) (hk : UpdF Hr (.box b bty cs) f) (hg : tagg P t = some true) (hs : tsize P t = some sz) (hr : SubL cs off sz r) :
    AR P n Hr ⟨dst, .load t x, ty, pos, after, gd⟩ env H (.agg r) := by
  refine ⟨fun F M w0 a w hr' hrest => ?_⟩
  have h1 := hr'.opdv hx
  obtain ⟨hm, vs, h2, h3⟩ := hrest.mem hr'.heap hk rfl
  obtain ⟨q1, q2⟩ := hr.eq
  have hlen := h3.length
  refine ⟨.agg ((vs.drop off).take sz).toArray, by simp only [Rep]; exact ⟨_, rfl, by rw [q1]; exact (h3.drop off).take sz⟩, fun w' hw => ?_⟩
  have hb : w'.heap[b]? = some (.cells vs.toArray bty (0, 0)) := by rw [hw b (Array.getElem?_eq_some_iff.1 h2).1 hm]; exact h2
  have hsz : ((vs.drop off).take sz).length = sz := by simp; omega
  have hl := run_loadCells_list (P := P) w' ⟨b, off, none⟩ ((vs.drop off).take sz) (fun j u hu => by
    rw [addr_add, cell_of_row w' b _ vs.toArray bty (0, 0) hb]
    rw [List.getElem?_take] at hu
    split at hu
    · rw [List.getElem?_drop] at hu; simpa using hu
    · cases hu)
  rw [hsz] at hl
  simp [execOp, h1, Instr.loadAt, Instr.sureAddr, loadVar, run_isAgg hg, run_sizeOf hs, hl]
theorem ar_load1 {t b off bty cs d f} (hx : opd env x = some (.p b off)) (hk : UpdF Hr (.box b bty cs) f) (hg : tagg P t = some false) (hr : SubL cs off 1 [d]) :
    AR P n Hr ⟨dst, .load t x, ty, pos, after, gd⟩ env H d := by
  refine ⟨fun F M w0 a w hr' hrest => ?_⟩
  have h1 := hr'.opdv hx
  obtain ⟨hm, vs, h2, h3⟩ := hrest.mem hr'.heap hk rfl
  obtain ⟨c, h4, h5, h6⟩ := h3.get (getSub hr)
  refine ⟨c, h5, fun w' hw => ?_⟩
  have hb : w'.heap[b]? = some (.cells vs.toArray bty (0, 0)) := by rw [hw b (Array.getElem?_eq_some_iff.1 h2).1 hm]; exact h2
  have hc : w'.cell? ⟨b, off, none⟩ = some c := by rw [cell_of_row w' b _ vs.toArray bty (0, 0) hb]; simpa using h4
  simp [execOp, h1, Instr.loadAt, Instr.sureAddr, loadVar, run_isAgg hg, hc]
theorem ar_len_arr {t e v ety sz l f} (hx : opd env x = some (.v v)) (hk : UpdF Hr (.arr v ety sz l) f) (ht : telem P t = some e) : AR P n Hr ⟨dst, .call { callee := .builtin .len, args := #[x], argTypes := #[t] }, ty, pos, after, gd⟩ env H (.i (l.length : Int)) := by
  refine ⟨fun F M w0 a w hr hrest => ?_⟩
  have h1 := hr.opdv hx
  obtain ⟨_, _, xs, hown, _⟩ := (hrest _ hk.mem).2
  refine ⟨.int .i64 l.length, by simp [Rep], fun w' _ => ?_⟩
  rcases hown.2 with ⟨hv, hl⟩ | ⟨g, cap, cur, hv, _⟩
  · rw [hv] at h1
    simp [execOp, resolve, invoke, builtin, h1, Builtin.len_, run_underlying (telem_under ht), goInt]
    omega
  · rw [hv] at h1
    simp [execOp, resolve, invoke, builtin, h1, Builtin.len_, run_underlying (telem_under ht), goInt]
theorem Rel.rebase {F M w0 a w} (h : Rel F M w0 n env H a w) : Rel F (Hb H) w n env H a w :=
  ⟨h.env, h.heap, Fr.refl _ _, fun b hb => .inl hb, h.heap.frb, h.dfr, h.tsz⟩
theorem Rel.unbase {F M w0 a w env' H' a' w'} (h : Rel F M w0 n env H a w) (k : Rel F (Hb H) w n env' H' a' w') : Rel F M w0 n env' H' a' w' :=
  ⟨k.env, k.heap, h.fr.trans k.fr h.mine, fun b hb => by
    rcases k.mine b hb with h' | h'
    · exact h.mine b h'
    · exact .inr (Nat.le_trans h.fr.size h'), h.f0, k.dfr, k.tsz⟩
theorem Rest.step {F w w' env a' H'} (h : Rest F H Hr w) (hok : HeapOk F H w) (k : Rel F (Hb H) w n env H' a' w') : Rest F H' Hr w' := fun o ho => by
  obtain ⟨h1, h2⟩ := h o ho
  refine ⟨h1, h2.mono (fun b hb hO => ⟨fun hO' => ?_, k.fr.block b hb (fun hm => hO (.inr hm))⟩) (fun b hb => k.fr.block b (h2.blk_lt hb) (fun hm => hok.disj b hm (h1 b hb)))⟩
  rcases hO' with hO' | hO'
  · exact hO (.inl hO')
  · rcases k.mine b hO' with h' | h'
    · exact hO (.inr h')
    · omega
/-- What is carried out of operation i, whatever its guard says. -/
def GuardOk (P : Program) (n : Nat) (Hr : Heap) (ops : Array Oper) (fuel : Nat) (listed : Array Bool) (i : Nat) (env : Env) (H : Heap) (K : Env → Heap → Prop) : Prop :=
  ∃ o, ops[i]? = some o ∧ Gd ops env o true ∧ AStep P n o env H (fun env' H' => AAny P n Hr ops fuel (listed.setIfInBounds i true) env' H' K)
/-- Each of those that may come up. -/
theorem aany_all {ops fuel listed K} {rs : List Nat} (hr : Region.ready .any ops listed = rs) (hne : rs.isEmpty = false)
    (h : ∀ i ∈ rs, GuardOk P n Hr ops fuel listed i env H K) : AAny P n Hr ops (fuel + 1) listed env H K := by
  refine ⟨fun F M w0 a w hrel hrest Q hQp hQ => ⟨fun h0 => ?_, fun i hi => ?_⟩⟩
  · rw [hr] at h0; subst h0; simp at hne
  · obtain ⟨o, ho, hg, hst⟩ := h i (hr ▸ hi)
    unfold wpOp
    simp only [ho]
    rw [if_pos (hg.wanted hrel)]
    refine .inl (hst.out F (Hb H) w a w hrel.rebase _ _ fun env' H' a' w' hk hr' => ?_)
    refine ⟨H', ⟨hr'.fr.size, hr'.fr.block, hr'.mine⟩, ?_⟩
    exact hk.out F M w0 a' w' (hrel.unbase hr') (hrest.step hrel.heap hr') Q hQp hQ
theorem aany_nil {ops fuel listed} {K : Env → Heap → Prop} (hr : Region.ready .any ops listed = []) (hk : K env H) : AAny P n Hr ops fuel listed env H K := by
  refine ⟨fun F M w0 a w hrel hrest Q hQp hQ => ?_⟩
  cases fuel with
  | zero => exact ⟨hr, hQ _ _ _ _ hk hrel⟩
  | succ fuel => exact ⟨fun _ => hQ _ _ _ _ hk hrel, fun i hi => by rw [hr] at hi; cases hi⟩
variable {Q : Exit → Env → Heap → Prop}
theorem Rel.drew {F M w0 a w} (h : Rel F M w0 n env H a w) : Rel F M w0 n env H a w.drew := by
  have hm : ∀ b, b < w.heap.size → ¬ Own F H b → ¬ Own F H b ∧ w.drew.heap[b]? = w.heap[b]? := fun b _ hb => ⟨hb, rfl⟩
  refine h.step ⟨fun o ho => (h.heap.holds o ho).mono hm (fun _ _ => rfl), h.heap.nodup, h.heap.disj, h.heap.frb⟩ ((Fr.drew w).weaken (by simp)) (fun b hb => .inl hb)
/-- A region that draws its order: the spine works on 'Hm', all else stays. -/
theorem awp_draw {id : Nat} {l : List Oper} {Hm} (hmix : P.follows .mixedOrders = true) (hs : Split H Hm Hr)
    (h : AAny P n Hr l.toArray l.toArray.size (Array.replicate l.toArray.size false) env Hm (fun env' H' => Q .normal env' (H' ++ Hr))) : AWp P n (.region id l.toArray true) env H Q := by
  refine ⟨fun F M w0 a w hr => ?_⟩
  refine Code.wp_mono (Q := fun e a' w' => e = .normal ∧ ∃ env' H', Q .normal env' H' ∧ Rel F M w0 n env' H' a' w') (fun e a w ⟨he, h⟩ => by subst he; exact h) ?_
  refine wp_region_any hmix (wpAny_of_G (G := Gr) _ _ _ _ Hm ?_)
  have hr1 : Rel F M w0 n env H a { w with drawn := w.drawn + 1 } := hr.drew
  have hsp : HeapOk (Own F Hr) Hm { w with drawn := w.drawn + 1 } := hr1.heap.split hs
  have hrel : Rel (Own F Hr) (Hb Hm) { w with drawn := w.drawn + 1 } n env Hm a { w with drawn := w.drawn + 1 } :=
    ⟨fun i d hi => by obtain ⟨v, h1, h2⟩ := hr1.env i d hi; exact ⟨v, h1, h2.iff (fun b hb => (hs.own b).1 hb)⟩, hsp, Fr.refl _ _, fun b hb => .inl hb, hsp.frb, hr1.dfr, hr1.tsz⟩
  refine h.out _ _ _ a _ hrel (fun o ho => ⟨fun b hb => .inr (mem_Hb ho hb), (hr1.heap.holds o ((hs.mem o).2 (.inr ho))).iff (fun b hb => (hs.own b).1 hb)⟩) _ (fun c a w a' w' ⟨q, _⟩ => by cases q) (fun env' H' a' w' hk hr' => ?_)
  · refine ⟨rfl, env', H' ++ Hr, hk, ?_⟩
    have hj := hr1.heap.join hs hr'.heap hr'.fr hr'.mine
    refine ⟨fun i d hi => by obtain ⟨v, h1, h2⟩ := hr'.env i d hi; exact ⟨v, h1, h2.iff (fun b hb => (own_append b).1 hb)⟩, hj, hr1.fr.trans hr'.fr (fun b hb => hr1.mine b ((hs.hb b).2 (.inl hb))), fun b hb => ?_, hr1.f0, hr'.dfr, hr'.tsz⟩
    simp only [Hb, List.filterMap_append, List.mem_append] at hb
    rcases hb with hb | hb
    · rcases hr'.mine b hb with h' | h'
      · exact hr1.mine b ((hs.hb b).2 (.inl h'))
      · exact .inr (Nat.le_trans hr1.fr.size h')
    · exact hr1.mine b ((hs.hb b).2 (.inr hb))
end
end Go.Av
namespace Go.Av
open Go
set_option linter.unusedSimpArgs false
set_option linter.unusedVariables false
inductive Sel (env : Env) : List Nat → Env → Prop
  | nil : Sel env [] []
  | cons {i d is r} (h : look env i = some d) (hr : Sel env is r) : Sel env (i :: is) ((i, d) :: r)
inductive RemAt : Heap → Nat → Ob → Heap → Prop
  | here {o r} : RemAt (o :: r) 0 o r
  | there {x r k o r'} (h : RemAt r k o r') : RemAt (x :: r) (k + 1) o (x :: r')
inductive Pk : Heap → List Nat → Heap → Prop
  | nil {H} : Pk H [] []
  | cons {H k ks o H1 r} (h : RemAt H k o H1) (hr : Pk H1 ks r) : Pk H (k :: ks) (o :: r)
section
variable {P : Program} {n : Nat} {env : Env} {H Hr : Heap} {dst : Option Tmp} {ty : TypeId} {pos : String} {after : Array Edge} {gd : Option (Nat × Bool)} {x y z : Operand}
theorem aany_take {ops fuel listed K d t} (i : Nat) {o : Oper} (ho : ops[i]? = some o) (hgd : Gd ops env o true) (hs : Region.noSelect ops = true) (hf : Region.free .any ops listed i = true) (hr : (Region.ready .any ops listed).contains i = true)
    (h : AR P n Hr o env H d) (hd : o.dst = some t) (ht : Nat.blt t n = true) (hk : AAny P n Hr ops fuel (listed.setIfInBounds i true) ((t, d) :: env) H K) : AAny P n Hr ops (fuel + 1) listed env H K := by
  refine ⟨fun F M w0 a w hrel hrest Q hQp hQ => ?_⟩
  obtain ⟨v, h1, h2⟩ := h.out F M w0 a w hrel hrest
  refine wpAnyG_first Gr.refl Gr.trans ho (Region.noSelect_spec hs) (fun c a w h => hQp c _ _ _ _ h) fuel listed a w H (Region.free_spec ho hf) (by simpa using hr) (.inl ⟨hgd.wanted hrel, fun w' ⟨x', hG⟩ => h2 w' hG.block⟩) ?_
  rw [hd]
  exact hk.out F M w0 _ w (hrel.put h1 (by simpa [Nat.blt_eq] using ht)) hrest Q hQp hQ
/-- An operation that its guard shuts out. -/
theorem aany_skip {ops fuel listed K t} (i : Nat) {o : Oper} (ho : ops[i]? = some o) (hgd : Gd ops env o false) (hs : Region.noSelect ops = true) (hf : Region.free .any ops listed i = true) (hr : (Region.ready .any ops listed).contains i = true)
    (hd : o.dst = some t) (hl : look env t = none) (hk : AAny P n Hr ops fuel (listed.setIfInBounds i true) env H K) : AAny P n Hr ops (fuel + 1) listed env H K := by
  refine ⟨fun F M w0 a w hrel hrest Q hQp hQ => ?_⟩
  refine wpAnyG_first Gr.refl Gr.trans ho (Region.noSelect_spec hs) (fun c a w h => hQp c _ _ _ _ h) fuel listed a w H (Region.free_spec ho hf) (by simpa using hr) (.inr ⟨hgd.wanted hrel, rfl⟩) ?_
  rw [hd]
  exact hk.out F M w0 _ w (hrel.drop hl _) hrest Q hQp hQ
theorem aany_one {ops fuel listed K} (i : Nat) {op : Op} (hr : Region.ready .any ops listed = [i]) (ho : ops[i]? = some ⟨dst, op, ty, pos, after, gd⟩) (hgd : Gd ops env ⟨dst, op, ty, pos, after, gd⟩ true)
    (h : AOps P n ops [⟨dst, op, ty, pos, after, none⟩] env H (fun env' H' => AAny P n Hr ops fuel (listed.setIfInBounds i true) env' H' K)) : AAny P n Hr ops (fuel + 1) listed env H K := by
  have h' := h.out
  unfold AOpsR at h'
  refine ⟨fun F M w0 a w hrel hrest Q hQp hQ => ⟨fun h0 => absurd (hr.symm.trans h0) (by simp), fun j hj => ?_⟩⟩
  obtain rfl : j = i := by rw [hr] at hj; simpa using hj
  unfold wpOp
  simp only [ho]
  rw [if_pos (hgd.wanted hrel)]
  have := h'.out F (Hb H) w a w hrel.rebase (fun a' w' => ∃ x', Gr H w x' w' ∧ wpAnyG P Region.Mode.any ops Q Gr fuel (listed.setIfInBounds j true) a' w' x') Q (fun env' H' a' w' hk hr' =>
    ⟨H', ⟨hr'.fr.size, hr'.fr.block, hr'.mine⟩, (show AAny P n Hr ops fuel (listed.setIfInBounds j true) env' H' K from hk).out F M w0 a' w' (hrel.unbase hr') (hrest.step hrel.heap hr') Q hQp hQ⟩)
  exact .inl this
theorem aany_split {ops fuel listed K} (c : Bool) (h : c = true → AAny P n Hr ops fuel listed env H K) (h' : c = false → AAny P n Hr ops fuel listed env H K) : AAny P n Hr ops fuel listed env H K := by
  cases c
  · exact h' rfl
  · exact h rfl
theorem aany_guard {ops fuel listed K} {c : Bool} (j : Nat) (hl : ((ops[j]?).bind (·.dst)).bind (look env) = some (D.b c)) (h : c = true → AAny P n Hr ops fuel listed env H K) (h' : c = false → AAny P n Hr ops fuel listed env H K) : AAny P n Hr ops fuel listed env H K := aany_split c h h'
theorem aany_each2 {ops fuel listed K} (i j : Nat) {dst' : Option Tmp} {ty' : TypeId} {pos' : String} {after' : Array Edge} {gd' : Option (Nat × Bool)} {op op' : Op} (hr : Region.ready .any ops listed = [i, j])
    (ho : ops[i]? = some ⟨dst, op, ty, pos, after, gd⟩) (hgd : Gd ops env ⟨dst, op, ty, pos, after, gd⟩ true) (h : AOps P n ops [⟨dst, op, ty, pos, after, none⟩] env H (fun env' H' => AAny P n Hr ops fuel (listed.setIfInBounds i true) env' H' K))
    (ho' : ops[j]? = some ⟨dst', op', ty', pos', after', gd'⟩) (hgd' : Gd ops env ⟨dst', op', ty', pos', after', gd'⟩ true) (h' : AOps P n ops [⟨dst', op', ty', pos', after', none⟩] env H (fun env' H' => AAny P n Hr ops fuel (listed.setIfInBounds j true) env' H' K)) : AAny P n Hr ops (fuel + 1) listed env H K := by
  refine aany_all hr rfl fun k hk => ?_
  have key : ∀ (k : Nat) {dst : Option Tmp} {ty : TypeId} {pos : String} {after : Array Edge} {gd : Option (Nat × Bool)} {op : Op}, ops[k]? = some ⟨dst, op, ty, pos, after, gd⟩ → Gd ops env ⟨dst, op, ty, pos, after, gd⟩ true →
      AOps P n ops [⟨dst, op, ty, pos, after, none⟩] env H (fun env' H' => AAny P n Hr ops fuel (listed.setIfInBounds k true) env' H' K) → GuardOk P n Hr ops fuel listed k env H K := by
    intro k dst ty pos after gd op ho hgd h
    refine ⟨_, ho, hgd, ?_⟩
    have h' := h.out
    unfold AOpsR at h'
    exact ⟨fun F M w0 a w hr Kc Q hK => h'.out F M w0 a w hr Kc Q (fun env' H' a' w' k hr' => hK env' H' a' w' k hr')⟩
  rcases List.mem_cons.1 hk with rfl | hk
  · exact key _ ho hgd h
  · obtain rfl : k = j := by simpa using hk
    exact key _ ho' hgd' h'
variable {Q : Exit → Env → Heap → Prop}
theorem awp_loop1 {α : Type} {c : Code} (live : List Nat) {e0} (h0 : Heap) (U : α → Env → Env) (V : α → Heap → Heap) (I : α → Prop) (μ : α → Nat) (a0 : α) (hs : Sel env live e0) (hI : I a0) (hw : Wk env H (U a0 e0) (V a0 h0))
    (round : ∀ a, I a → AWp P n c (U a e0) (V a h0) (seqQ (fun env' H' => ∃ a', I a' ∧ μ a' < μ a ∧ Wk env' H' (U a' e0) (V a' h0)) Q)) : AWp P n (.loop c) env H Q :=
  awp_loop (fun a => U a e0) (fun a => V a h0) I μ a0 hI hw round
theorem awp_loop2 {α β : Type} {c : Code} (live : List Nat) {e0} (h0 : Heap) (U : α → β → Env → Env) (V : α → β → Heap → Heap) (I : α → β → Prop) (μ : α → β → Nat) (a0 : α) (b0 : β) (hs : Sel env live e0) (hI : I a0 b0) (hw : Wk env H (U a0 b0 e0) (V a0 b0 h0))
    (round : ∀ a b, I a b → AWp P n c (U a b e0) (V a b h0) (seqQ (fun env' H' => ∃ a' b', I a' b' ∧ μ a' b' < μ a b ∧ Wk env' H' (U a' b' e0) (V a' b' h0)) Q)) : AWp P n (.loop c) env H Q :=
  awp_loop (ι := α × β) (fun p => U p.1 p.2 e0) (fun p => V p.1 p.2 h0) (fun p => I p.1 p.2) (fun p => μ p.1 p.2) (a0, b0) hI hw (fun p hp => awp_mono (round p.1 p.2 hp) (fun e env' H' hq => by
    cases e with
    | normal => obtain ⟨⟨a', b', h⟩⟩ := hq; exact ⟨⟨(a', b'), h⟩⟩
    | _ => exact ⟨hq.out⟩))
theorem awp_loop3 {α β γ : Type} {c : Code} (live : List Nat) {e0} (h0 : Heap) (U : α → β → γ → Env → Env) (V : α → β → γ → Heap → Heap) (I : α → β → γ → Prop) (μ : α → β → γ → Nat) (a0 : α) (b0 : β) (c0 : γ) (hs : Sel env live e0) (hI : I a0 b0 c0) (hw : Wk env H (U a0 b0 c0 e0) (V a0 b0 c0 h0))
    (round : ∀ a b d, I a b d → AWp P n c (U a b d e0) (V a b d h0) (seqQ (fun env' H' => ∃ a' b' d', I a' b' d' ∧ μ a' b' d' < μ a b d ∧ Wk env' H' (U a' b' d' e0) (V a' b' d' h0)) Q)) : AWp P n (.loop c) env H Q :=
  awp_loop (ι := α × β × γ) (fun p => U p.1 p.2.1 p.2.2 e0) (fun p => V p.1 p.2.1 p.2.2 h0) (fun p => I p.1 p.2.1 p.2.2) (fun p => μ p.1 p.2.1 p.2.2) (a0, b0, c0) hI hw (fun p hp => awp_mono (round p.1 p.2.1 p.2.2 hp) (fun e env' H' hq => by
    cases e with
    | normal => obtain ⟨⟨a', b', d', h⟩⟩ := hq; exact ⟨⟨(a', b', d'), h⟩⟩
    | _ => exact ⟨hq.out⟩))
theorem awp_loop4 {α β γ δ : Type} {c : Code} (live : List Nat) {e0} (h0 : Heap) (U : α → β → γ → δ → Env → Env) (V : α → β → γ → δ → Heap → Heap) (I : α → β → γ → δ → Prop) (μ : α → β → γ → δ → Nat) (a0 : α) (b0 : β) (c0 : γ) (d0 : δ) (hs : Sel env live e0) (hI : I a0 b0 c0 d0) (hw : Wk env H (U a0 b0 c0 d0 e0) (V a0 b0 c0 d0 h0))
    (round : ∀ a b d e, I a b d e → AWp P n c (U a b d e e0) (V a b d e h0) (seqQ (fun env' H' => ∃ a' b' d' e', I a' b' d' e' ∧ μ a' b' d' e' < μ a b d e ∧ Wk env' H' (U a' b' d' e' e0) (V a' b' d' e' h0)) Q)) : AWp P n (.loop c) env H Q :=
  awp_loop (ι := α × β × γ × δ) (fun p => U p.1 p.2.1 p.2.2.1 p.2.2.2 e0) (fun p => V p.1 p.2.1 p.2.2.1 p.2.2.2 h0) (fun p => I p.1 p.2.1 p.2.2.1 p.2.2.2) (fun p => μ p.1 p.2.1 p.2.2.1 p.2.2.2) (a0, b0, c0, d0) hI hw (fun p hp => awp_mono (round p.1 p.2.1 p.2.2.1 p.2.2.2 hp) (fun e env' H' hq => by
    cases e with
    | normal => obtain ⟨⟨a', b', d', e', h⟩⟩ := hq; exact ⟨⟨(a', b', d', e'), h⟩⟩
    | _ => exact ⟨hq.out⟩))
abbrev Is (d : D) (H : Heap) : D → Heap → Prop := fun d' H' => d' = d ∧ H' = H
theorem aops_call_is {ops rest g xs ds Hin H' Hr d K d'} {tys : Array TypeId} (ha : ArgsL env xs ds) (hc : Con P g ds Hin (Is d H')) (hs : Split H Hin Hr) (hd : dst = some d') (hn : Nat.blt d' n = true)
    (hk : AOps P n ops rest ((d', d) :: env) (H' ++ Hr) K) : AOps P n ops (⟨dst, .call { callee := .value (.func g), args := xs.toArray, argTypes := tys }, ty, pos, after, none⟩ :: rest) env H K :=
  aops_call ha hc hs hd hn (fun d H' ⟨h1, h2⟩ => by subst h1; subst h2; exact hk)
/-- The same where nothing is handed over. -/
theorem aops_call_v {ops rest g xs ds d K d'} {tys : Array TypeId} (ha : ArgsL env xs ds) (hc : Con P g ds [] (Is d [])) (hd : dst = some d') (hn : Nat.blt d' n = true)
    (hk : AOps P n ops rest ((d', d) :: env) H K) : AOps P n ops (⟨dst, .call { callee := .value (.func g), args := xs.toArray, argTypes := tys }, ty, pos, after, none⟩ :: rest) env H K :=
  aops_call ha hc (Split.none H) hd hn (fun d H' ⟨h1, h2⟩ => by subst h1; subst h2; exact hk)
theorem aops_callv_v {ops rest g xs ds d K d'} {caps : List Value} {c : Operand} {tys : Array TypeId} (hf : opd env c = some (.v (.func (.func g) #[] caps.toArray))) (ha : ArgsL env xs ds) (hc : Con P g (ds ++ caps.map .v) [] (Is d [])) (hd : dst = some d') (hn : Nat.blt d' n = true)
    (hk : AOps P n ops rest ((d', d) :: env) H K) : AOps P n ops (⟨dst, .call { callee := .value c, args := xs.toArray, argTypes := tys }, ty, pos, after, none⟩ :: rest) env H K :=
  aops_callv hf ha hc (Split.none H) hd hn (fun d H' ⟨h1, h2⟩ => by subst h1; subst h2; exact hk)
theorem post_is {rs : List ResultVar} {d : D} {K : Heap} {ds} (h : ResL P env H rs ds) (hk : Keep H K) (hd : resD ds = d) : Post P rs (Is d K) .ret env H := post_ret h hk ⟨hd, rfl⟩
theorem post_is_end {rs : List ResultVar} {d : D} {K : Heap} {ds} (h : ResL P env H rs ds) (hk : Keep H K) (hd : resD ds = d) : Post P rs (Is d K) .normal env H := post_end h hk ⟨hd, rfl⟩
theorem Con.is {f args d d'} {H H'} (h : Con P f args H (Is d H')) (e : d = d') : Con P f args H (Is d' H') := e ▸ h
theorem run_eqb {t : TypeId} (hu : P.underlying t = some .bool) (p q : Bool) (w : World) : (Op.equal t (.bool p) (.bool q)).run P w = .ok (p == q) w := by
  have h : ∀ d, (Op.equalIn (d + 1) t (.bool p) (.bool q)).run P w = .ok (p == q) w := fun d => by
    simp only [Op.equalIn, Sem.run_bind, run_underlying hu, Result.andThen_ok, Sem.run_pure]
  exact h 9999
theorem ap_eqb {t u} {p q : Bool} (hx : opd env x = some (.b p)) (hy : opd env y = some (.b q)) (hu : P.underlying t = some .bool) : AP P n ⟨dst, .binOp .eql t x y u, ty, pos, after, gd⟩ env H (.b (p == q)) := by
  refine ⟨fun F M w0 a w hr => ?_⟩
  have h1 := hr.opdv hx
  have h2 := hr.opdv hy
  refine ⟨.bool (p == q), by simp [Rep], fun w' => ?_⟩
  simp [execOp, h1, h2, eqGuard, binOp, run_eqb hu]
theorem ap_neb {t u} {p q : Bool} (hx : opd env x = some (.b p)) (hy : opd env y = some (.b q)) (hu : P.underlying t = some .bool) : AP P n ⟨dst, .binOp .neq t x y u, ty, pos, after, gd⟩ env H (.b (p != q)) := by
  refine ⟨fun F M w0 a w hr => ?_⟩
  have h1 := hr.opdv hx
  have h2 := hr.opdv hy
  refine ⟨.bool (p != q), by simp [Rep], fun w' => ?_⟩
  simp [execOp, h1, h2, eqGuard, binOp, run_eqb hu]
  cases p <;> cases q <;> rfl
theorem aops_fact {ops o rest t sz l K} (hg : o.guard = none) (hx : look env t = some (.sl sz l)) (h : l.length ≤ capB → AOps P n ops (o :: rest) env H K) : AOps P n ops (o :: rest) env H K := by
  refine ⟨?_⟩
  unfold AOpsR
  rw [hg]
  refine ⟨fun F M w0 a w hr Kc Q hK => ?_⟩
  have h1 := hr.eval hx
  simp only [Rep] at h1
  have h2 := (h h1.1).out
  unfold AOpsR at h2
  rw [hg] at h2
  exact h2.out F M w0 a w hr Kc Q hK
/-- A slice of the function's own that is not empty lies in a block. -/
theorem awp_arr_open {c : Code} {v e sz l f} (hk : UpdF H (.arr v e sz l) f) (hl : l ≠ []) (h : ∀ g cap, v = .slice (some ⟨g, 0, none⟩) l.length cap → AWp P n c env H Q) : AWp P n c env H Q := by
  refine ⟨fun F M w0 a w hr => ?_⟩
  obtain ⟨_, _, xs, hown, _⟩ := hr.heap.holds _ hk.mem
  rcases hown.2 with ⟨_, h2⟩ | ⟨g, cap, cur, h2, _⟩
  · exact absurd (List.eq_nil_of_length_eq_zero h2) hl
  · exact (h g cap h2).out F M w0 a w hr
theorem RepE.set1 {w : World} {O : Nat → Prop} : ∀ {l : List D} {cs : List Value} {k : Nat} {d : D} {c : Value}, RepE w O 1 l cs → Rep w O d c → c.cells = #[c] → c.oneCell' = true → RepE w O 1 (l.set k d) (cs.set k c)
  | [], cs, k, d, c, h, _, _, _ => by simp only [RepE] at h; subst h; simp [RepE]
  | e :: r, cs, k, d, c, h, hd, hc, h1 => by
    simp only [RepE] at h
    obtain ⟨c', cr, rfl, h2, h3, h4, h5⟩ := h
    have hl : c'.cells.toList.length = 1 := by simpa using h2
    obtain ⟨q, hq⟩ : ∃ q, c'.cells.toList = [q] := by
      match hcl : c'.cells.toList, hl with
      | [q], _ => exact ⟨q, rfl⟩
    cases k with
    | zero =>
      simp only [List.set_cons_zero, RepE]
      refine ⟨c, cr, by simp [hq, hc], by simp [hc], by simp [hc, h1], hd, h5⟩
    | succ k =>
      simp only [List.set_cons_succ, RepE]
      refine ⟨c', cr.set k c, by simp [hq], h2, h3, h4, RepE.set1 h5 hd hc h1⟩
/-- A store of one cell into a slice of the function's own. -/
theorem aops_store_own1 {ops rest t g k len cap ety l d f K} (hx : opd env x = some (.p g (k * 1))) (hy : opd env y = some d) (hsc : Scal d) (hk : UpdF H (.arr (.slice (some ⟨g, 0, none⟩) len cap) ety 1 l) f) (hs : tsize P t = some 1) (hkl : k < l.length)
    (h : AOps P n ops rest env (f (.arr (.slice (some ⟨g, 0, none⟩) len cap) ety 1 (l.set k d))) K) : AOps P n ops (⟨none, .store t x y, ty, pos, after, none⟩ :: rest) env H K := by
  refine aops_step rfl ⟨fun F M w0 a w hr Kc Q hK => ?_⟩
  have h1 := hr.opdv hx
  have h2 := hr.opd hy
  have hc := hsc.cells h2
  have h1c : (a.eval y).oneCell' = true := by
    cases hsc with
    | v hv => simp only [Rep] at h2; rw [h2]; exact hv
    | sl => simp only [Rep] at h2; obtain ⟨_, cs, _, ⟨a', cap', h, _⟩ | ⟨h, _⟩⟩ := h2 <;> rw [h] <;> rfl
  obtain ⟨kk, hk1, hk2⟩ := hk.set
  obtain ⟨hsz, hlb, xs, hown, hE⟩ := hr.heap.holds _ hk.mem
  rcases hown.2 with ⟨hv, _⟩ | ⟨g', cap', cur, hv, h3, h4, h5, h6, h7, h8⟩
  · cases hv
  · simp only [Value.slice.injEq, Option.some.injEq, Addr.mk.injEq] at hv
    obtain ⟨⟨rfl, _, _⟩, rfl, rfl⟩ := hv
    have hlen := hE.len
    have hxl : k < cur.size := by omega
    have hrun := run_storeCells_at P g (k * 1) ety [a.eval y] 0 cur w h4 (by simp; omega) (by simpa using h1c)
    simp only [Nat.add_zero, Nat.mul_one] at hrun
    have hr1 := hr.upd (o' := .arr (.slice (some ⟨g, 0, none⟩) l.length cap) ety 1 (l.set k d)) hk1 (Fr.setRow w g (cur.toList.take k ++ [a.eval y] ++ cur.toList.drop (k + [a.eval y].length)).toArray)
      (fun O' hO => by
        have hm : ∀ bb, bb < w.heap.size → ¬ Own F H bb → ¬ O' bb ∧ (w.setRow g (cur.toList.take k ++ [a.eval y] ++ cur.toList.drop (k + [a.eval y].length)).toArray).heap[bb]? = w.heap[bb]? := fun bb hb hb' =>
          ⟨hO bb hb hb', setRow_other w g bb _ (fun e => hb' (.inr (mem_Hb hk.mem (by simp [Ob.blk, Value.ownBlock, e]))))⟩
        have hset : cur.toList.take k ++ [a.eval y] ++ cur.toList.drop (k + [a.eval y].length) = cur.toList.set k (a.eval y) := by
          rw [List.set_eq_take_append_cons_drop, if_pos (by simpa using hxl)]
          simp
        refine ⟨hsz, by simpa using hlb, xs.set k (a.eval y), ⟨by simpa using hown.1, .inr ⟨g, cap, _, by simp, Nat.zero_le _, setRow_heap w g cur _ ety _ h4, by simpa using h5, h6, ?_, ?_⟩⟩, RepE.set1 (RepE.mono hm _ _ _ hE) (Rep.mono hm _ _ h2) hc h1c⟩
        · rw [hset]; simpa using h7
        · rw [hset, ← h8]
          simp only [List.toList_toArray, List.length_set, Nat.mul_one]
          rw [List.take_set])
      (.inl rfl)
    unfold Oper.wp
    simp only [execOp, h1, Instr.storeAt, Instr.sureAddr, storeVar, Sem.run_bind, Sem.run_pure, Result.andThen_ok, run_sizeOf hs, hc]
    simp only [Nat.mul_one, List.size_toArray, List.length_cons, List.length_nil, Nat.zero_add, ne_eq, not_true_eq_false, if_false, hrun, Sem.run_pure, Result.andThen_ok, Oper.upon_skip, Sem.run_ite, Sem.run_bind, List.toList_toArray]
    have := hK env (f (.arr (.slice (some ⟨g, 0, none⟩) l.length cap) ety 1 (l.set k d))) (a.put none undef) _ h (by rw [hk2]; exact hr1)
    exact this
end
/-- The next element of a list that is walked by its index. -/
theorem drop_cons {α : Type} {l : List α} {k : Nat} (h : k < l.length) : ∃ x, l[k]? = some x ∧ l.drop k = x :: l.drop (k + 1) :=
  ⟨l[k], List.getElem?_eq_getElem h, List.drop_eq_getElem_cons h⟩
theorem drop_nil {α : Type} {l : List α} {k : Nat} (h : l.length ≤ k) : l.drop k = [] := List.drop_eq_nil_of_le h
theorem getMap {α β : Type} {l : List α} {k : Nat} {x : α} (f : α → β) (h : l[k]? = some x) : (l.map f)[k]? = some (f x) := by simp [h]
end Go.Av
namespace Go.Av
open Go
set_option linter.unusedSimpArgs false
set_option linter.unusedVariables false
inductive SelC (v : Value) (sz : Nat) (l : List D) (env : Env) : List Nat → Env → Prop
  | nil : SelC v sz l env [] []
  | cons {i d d' is r} (h : look env i = some d) (hc : Cv v sz l d d') (hr : SelC v sz l env is r) : SelC v sz l env (i :: is) ((i, d') :: r)
theorem SelC.sub {v sz l env is r} (h : SelC v sz l env is r) : SubC v sz l env r := by
  induction h with
  | nil => exact .nil
  | cons h hc hr ih => exact .cons h hc ih
inductive HeapA (v : Value) (sz : Nat) (l : List D) : Heap → Heap → Prop
  | nil : HeapA v sz l [] []
  | box {b ty cs cs' H1 r} (hc : CvL v sz l cs cs') (hr : HeapA v sz l H1 r) : HeapA v sz l (.box b ty cs :: H1) (.box b ty cs' :: r)
  | arr {u ety s cs H1 r} (hr : HeapA v sz l H1 r) : HeapA v sz l (.arr u ety s cs :: H1) (.arr u ety s cs :: r)
theorem HeapA.heapC {v sz l H H'} (h : HeapA v sz l H H') : HeapC v sz l H H' := by
  induction h with
  | nil => exact .nil
  | box hc hr ih => exact .box .here hc ih
  | arr hr ih => exact .arr .here rfl CvE.same ih
section
variable {P : Program} {n : Nat} {env : Env} {H Hr : Heap} {dst : Option Tmp} {ty : TypeId} {pos : String} {after : Array Edge} {gd : Option (Nat × Bool)} {x y z : Operand}
variable {Q : Exit → Env → Heap → Prop}
/-- The slice 'v' of the function's own is frozen; the slots 'live' are kept. -/
theorem awp_freeze {c : Code} (v : Value) (live : List Nat) {ety sz l H1 H' env'} (hk : Rem H (.arr v ety sz l) H1) (he : SelC v sz l env live env') (hh : HeapA v sz l H1 H') (h : AWp P n c env' H' Q) : AWp P n c env H Q :=
  awp_wk (wk_freeze hk he.sub hh.heapC) h
/-- A nil slice becomes a row of the function's own. -/
theorem awp_own {c : Code} (e sz : Nat) (hsz : Nat.blt 0 sz = true) (h : AWp P n c env (.arr (.slice none 0 0) e sz [] :: H) Q) : AWp P n c env H Q :=
  awp_wk (wk_own e sz hsz) h
theorem run_eqnil {t e : TypeId} (hu : P.underlying t = some (.slice e)) (a : Option Addr) (k c : Nat) (w : World) : (Op.equal t (.slice a k c) (.slice none 0 0)).run P w = .ok a.isNone w := by
  have h : ∀ d, (Op.equalIn (d + 1) t (.slice a k c) (.slice none 0 0)).run P w = .ok a.isNone w := fun d => by
    cases a <;> simp only [Op.equalIn, Sem.run_bind, run_underlying hu, Result.andThen_ok, Sem.run_pure] <;> rfl
  exact h 9999
/-- A slice held against nil. -/
theorem aops_eqnil {ops rest t e sz l d u K} (hx : opd env x = some (.sl sz l)) (hy : opd env y = some .nil) (ht : telem P t = some e) (hd : dst = some d) (hn : Nat.blt d n = true)
    (hk : ∀ c : Bool, (c = true → l = []) → AOps P n ops rest ((d, .b c) :: env) H K) : AOps P n ops (⟨dst, .binOp .eql t x y u, ty, pos, after, none⟩ :: rest) env H K := by
  refine aops_step rfl ⟨fun F M w0 a w hr Kc Q hK => ?_⟩
  have h1 := hr.opd hx
  have h2 := hr.opdv hy
  simp only [Rep] at h1
  obtain ⟨_, cs, hE, h1⟩ := h1
  have main : ∃ c : Bool, (c = true → l = []) ∧ (execOp a.eval ⟨dst, .binOp .eql t x y u, ty, pos, after, none⟩).run P w = .ok (.value (.bool c)) w := by
    rcases h1 with ⟨ad, cap, h1, h3, h4⟩ | ⟨h1, h3⟩
    · refine ⟨false, by simp, ?_⟩
      simp [execOp, h1, h2, eqGuard, binOp, run_eqnil (telem_under ht)]
    · refine ⟨true, fun _ => h3, ?_⟩
      simp [execOp, h1, h2, eqGuard, binOp, run_eqnil (telem_under ht)]
  obtain ⟨c, hc, hrun⟩ := main
  unfold Oper.wp
  rw [hrun, Oper.upon_value, hd]
  exact hK _ _ _ _ (hk c hc) (hr.put (by simp [Rep]) (by simpa [Nat.blt_eq] using hn))
/-- One cell out of a slice of the function's own that the region leaves alone. -/
theorem ar_load_own1 {t g k len cap ety l d f} (hx : opd env x = some (.p g (k * 1))) (hk : UpdF Hr (.arr (.slice (some ⟨g, 0, none⟩) len cap) ety 1 l) f) (hg : tagg P t = some false) (hd : l[k]? = some d) (hsc : Scal d) :
    AR P n Hr ⟨dst, .load t x, ty, pos, after, gd⟩ env H d := by
  refine ⟨fun F M w0 a w hr' hrest => ?_⟩
  have h1 := hr'.opdv hx
  obtain ⟨hm, _, _, xs, hown, hE⟩ := hrest.mem hr'.heap hk rfl
  obtain ⟨c, g1, g2, g3, g4⟩ := hE.get hd
  rcases hown.2 with ⟨hv, _⟩ | ⟨g', cap', cur, hv, h3, h4, h5, h6, h7, h8⟩
  · cases hv
  · simp only [Value.slice.injEq, Option.some.injEq, Addr.mk.injEq] at hv
    obtain ⟨⟨rfl, _, _⟩, _, _⟩ := hv
    refine ⟨c, g3, fun w' hw => ?_⟩
    have hb : w'.heap[g]? = some (.cells cur ety (0, 0)) := by rw [hw g (Array.getElem?_eq_some_iff.1 h4).1 hm]; exact h4
    have hx2 := g4 0 c (by rw [hsc.cells g3]; rfl)
    rw [← h8, List.getElem?_take] at hx2
    split at hx2
    · have hc : w'.cell? ⟨g, k * 1, none⟩ = some c := by rw [cell_of_row w' g _ cur ety (0, 0) hb]; simpa using hx2
      simp [execOp, h1, Instr.loadAt, Instr.sureAddr, loadVar, run_isAgg hg]
      simp only [Nat.mul_one] at hc
      simp [hc]
    · cases hx2
/-- A slice of the function's own, handed over as one that nobody writes during the call (it comes back). Not yet. -/
theorem Con.post {f args} {R R' : D → Heap → Prop} (h : Con P f args H R) (hR : ∀ d H', R d H' → R' d H') : Con P f args H R' := h.mono hR
end
end Go.Av
namespace Go.Av
open Go
section
variable {P : Program} {n : Nat} {env env' : Env} {H H' : Heap} {K : Env → Heap → Prop}
theorem aops_wk {ops : Array Oper} {o rest} (hg : o.guard = none) (hw : Wk env H env' H') (h : AOps P n ops (o :: rest) env' H' K) : AOps P n ops (o :: rest) env H K := by
  have h1 := h.out
  unfold AOpsR at h1
  rw [hg] at h1
  exact aops_step hg ⟨fun F M w0 a w hr Kc Q hK => h1.out F M w0 a w (hw.out F M w0 n a w hr) Kc Q (fun e1 H1 a' w' k r => hK e1 H1 a' w' ⟨k⟩ r)⟩
/-- A nil slice that lies in the slots 'live' reads as an empty row. -/
theorem aops_unnil {ops : Array Oper} {o rest} (live : List Nat) (sz : Nat) (hsz : Nat.blt 0 sz = true) (hg : o.guard = none) (he : SelC (.slice none 0 0) sz [] env live env') (hh : HeapA (.slice none 0 0) sz [] H H') (h : AOps P n ops (o :: rest) env' H' K) : AOps P n ops (o :: rest) env H K :=
  aops_wk hg (wk_own 0 sz hsz) (aops_wk hg (wk_freeze .here he.sub hh.heapC) h)
theorem awp_unnil {c : Code} {Q} (live : List Nat) (sz : Nat) (hsz : Nat.blt 0 sz = true) (he : SelC (.slice none 0 0) sz [] env live env') (hh : HeapA (.slice none 0 0) sz [] H H') (h : AWp P n c env' H' Q) : AWp P n c env H Q :=
  awp_wk (wk_own 0 sz hsz) (awp_wk (wk_freeze .here he.sub hh.heapC) h)
/-- A call that answers yes or no; the answer gets a name. -/
theorem aops_call_b {dst : Option Tmp} {ty : TypeId} {pos : String} {after : Array Edge} {ops : Array Oper} {rest g xs ds d'} {v : Bool} {tys : Array TypeId} (ha : ArgsL env xs ds) (hc : Con P g ds [] (Is (.b v) [])) (hd : dst = some d') (hn : Nat.blt d' n = true)
    (hk : ∀ c : Bool, v = c → AOps P n ops rest ((d', .b c) :: env) H K) : AOps P n ops (⟨dst, .call { callee := .value (.func g), args := xs.toArray, argTypes := tys }, ty, pos, after, none⟩ :: rest) env H K :=
  aops_call_v ha hc hd hn (hk v rfl)
section
variable {dst : Option Tmp} {ty : TypeId} {pos : String} {after : Array Edge} {gd : Option (Nat × Bool)} {x y : Operand}
/-- Division and remainder of numbers that are not negative. -/
theorem ap_quon {p q t u} (hx : opd env x = some (.i p)) (hy : opd env y = some (.i q)) (h : 0 ≤ p ∧ p ≤ 9223372036854775807 ∧ 0 < q) : AP P n ⟨dst, .binOp .quo t x y u, ty, pos, after, gd⟩ env H (.i (p / q)) := by
  have h1 := ap_quo (P := P) (n := n) (H := H) (dst := dst) (ty := ty) (pos := pos) (after := after) (gd := gd) (t := t) (u := u) hx hy (by omega)
  have e : p.tdiv q = p / q := Int.tdiv_eq_ediv_of_nonneg h.1
  have e2 : p / q ≤ p := Int.ediv_le_self q h.1
  have e3 : 0 ≤ p / q := Int.ediv_nonneg h.1 (by omega)
  rw [e, wrap_id (by omega) (by omega)] at h1
  exact h1
theorem ap_remn {p q t u} (hx : opd env x = some (.i p)) (hy : opd env y = some (.i q)) (h : 0 ≤ p ∧ 0 < q) : AP P n ⟨dst, .binOp .rem t x y u, ty, pos, after, gd⟩ env H (.i (p % q)) := by
  have h1 := ap_rem (P := P) (n := n) (H := H) (dst := dst) (ty := ty) (pos := pos) (after := after) (gd := gd) (t := t) (u := u) hx hy (by omega)
  have e : p.tmod q = p % q := Int.tmod_eq_emod_of_nonneg h.1
  rw [e] at h1
  exact h1
end
section
variable {Hr : Heap} {o : Oper}
/-- One of the operations that may come up next. -/
theorem cho {ops fuel listed} {k : Nat} {dst : Option Tmp} {ty : TypeId} {pos : String} {after : Array Edge} {gd : Option (Nat × Bool)} {op : Op} (ho : ops[k]? = some ⟨dst, op, ty, pos, after, gd⟩) (hgd : Gd ops env ⟨dst, op, ty, pos, after, gd⟩ true)
    (h : AOps P n ops [⟨dst, op, ty, pos, after, none⟩] env H (fun env' H' => AAny P n Hr ops fuel (listed.setIfInBounds k true) env' H' K)) : GuardOk P n Hr ops fuel listed k env H K := by
  refine ⟨_, ho, hgd, ?_⟩
  have h' := h.out
  unfold AOpsR at h'
  exact ⟨fun F M w0 a w hr Kc Q hK => h'.out F M w0 a w hr Kc Q (fun env' H' a' w' k hr' => hK env' H' a' w' k hr')⟩
theorem aany_each3 {ops fuel listed} (i j k : Nat) (hr : Region.ready .any ops listed = [i, j, k]) (h1 : GuardOk P n Hr ops fuel listed i env H K) (h2 : GuardOk P n Hr ops fuel listed j env H K) (h3 : GuardOk P n Hr ops fuel listed k env H K) : AAny P n Hr ops (fuel + 1) listed env H K := by
  refine aany_all hr rfl fun m hm => ?_
  rcases List.mem_cons.1 hm with rfl | hm
  · exact h1
  rcases List.mem_cons.1 hm with rfl | hm
  · exact h2
  obtain rfl : m = k := by simpa using hm
  exact h3
end
end
end Go.Av
namespace Go.Av
open Go Go.RowKit
/-- A slice of integers that came in: nil, or a row of 'cap' cells. -/
def IsRow (w : World) (a : Option Addr) (len cap : Nat) (zs : List Int) : Prop :=
  (a = none ∧ len = 0 ∧ cap = 0 ∧ zs = []) ∨
  ∃ x, a = some x ∧ len ≤ cap ∧ cap ≤ capB ∧ zs.length = cap ∧ (∀ i, i < zs.length → w.cell? (x.add i) = some (.int .i64 (zs.getD i 0))) ∧ ∀ n ∈ zs, (Lit.int .i64 n).wf = true
theorem repE_ints (w : World) (O : Nat → Prop) : ∀ l : List Int, RepE w O 1 (l.map .i) (l.map (.int .i64))
  | [] => by simp [RepE]
  | z :: r => by
    simp only [List.map_cons, RepE]
    exact ⟨.int .i64 z, _, by simp [Value.cells], by simp [Value.cells], by simp [Value.cells, Value.oneCell'], by simp [Rep], repE_ints w O r⟩
theorem IsRow.rep {w a len cap zs} (h : IsRow w a len cap zs) : Rep w (Own (fun _ => False) []) (.sl 1 ((zs.take len).map .i)) (.slice a len cap) := by
  rcases h with ⟨rfl, rfl, rfl, rfl⟩ | ⟨x, rfl, hl, hm, hz, hcell, hwz⟩
  · simp only [Rep]
    exact ⟨by simp [capB], [], by simp [RepE], .inr ⟨trivial, by simp⟩⟩
  · have e : ((zs.take len).map D.i).length = len := by simp; omega
    simp only [Rep]
    refine ⟨by rw [e]; omega, _, repE_ints _ _ _, .inl ⟨x, cap, by rw [e], by rw [e]; exact hl, ?_⟩⟩
    by_cases h0 : len = 0
    · left
      subst h0
      simp
    · right
      have h00 := hcell 0 (by omega)
      have hspot : x.spot = none := by simpa [Addr.add] using World.cell?_spot h00
      refine ⟨by simp [Own, Hb], hspot, fun j c hj => ?_⟩
      simp only [List.getElem?_map, List.getElem?_take] at hj
      split at hj
      · rename_i hjl
        have h1 := hcell j (by omega)
        rw [List.getElem?_eq_getElem (by omega : j < zs.length)] at hj
        simp only [Option.map_some, Option.some.injEq] at hj
        rw [← hj]
        rw [List.getD_eq_getElem?_getD, List.getElem?_eq_getElem (by omega : j < zs.length)] at h1
        obtain ⟨b, off, spot⟩ := x
        subst hspot
        by_cases ej : j = 0
        · subst ej
          simpa [Addr.add] using h1
        · simpa [Addr.add, ej] using h1
      · simp at hj
theorem heapOk_nil (w : World) : HeapOk (fun _ => False) [] w := ⟨fun _ h => absurd h List.not_mem_nil, List.nodup_nil, fun _ h => absurd h List.not_mem_nil, fun _ h => h.elim⟩
theorem below_of_fr {w w' : World} (h : Fr (Hb []) w w') : Below w.heap.size w w' :=
  ⟨h.os, h.tape, h.output, h.size, fun k hk => h.block k hk List.not_mem_nil⟩
/-- A law of one slice of integers. -/
theorem law_ints {P : Program} {f : FuncId} (hc : ∀ l : List Int, Con P f [.sl 1 (l.map .i)] [] (Is (.b true) [])) {a len cap zs} {w : World} (w0 : IsRow w a len cap zs) :
    Calls P f #[.slice a len cap] w fun e w' => e = .returned (.bool true) ∧ Below w.heap.size w w' := by
  refine ((hc (zs.take len)).run (fun _ => False) w [.slice a len cap] (heapOk_nil w) ?_).mono fun e w' h => ?_
  · simp only [RepT]
    exact ⟨_, _, rfl, w0.rep, rfl⟩
  · obtain ⟨v, d, H', rfl, ⟨rfl, rfl⟩, h2, h3, h4, h5⟩ := h
    simp only [Rep] at h2
    subst h2
    exact ⟨rfl, below_of_fr h4⟩
end Go.Av
namespace Go.Av
open Go
set_option linter.unusedSimpArgs false
section
variable {P : Program} {n : Nat} {env : Env} {H : Heap} {dst : Option Tmp} {ty : TypeId} {pos : String} {after : Array Edge} {gd : Option (Nat × Bool)} {x y : Operand}
/-- What '==' says of two structs of two whole numbers. -/
def Eq2 (P : Program) (t : TypeId) : Prop := P.eqGuardType P.depth t = false ∧ ∀ (a b c d : Int) (w : World), (Op.equalIn 10000 t (.agg #[.int .i64 a, .int .i64 b]) (.agg #[.int .i64 c, .int .i64 d])).run P w = .ok (a == c && b == d) w
theorem rep2 {w : World} {O : Nat → Prop} {a b : Int} {v : Value} (h : Rep w O (.agg [.i a, .i b]) v) : v = .agg #[.int .i64 a, .int .i64 b] := by
  obtain ⟨cs, rfl, h⟩ := h
  simp only [RepL, Rep] at h
  obtain ⟨_, _, rfl, rfl, _, _, _, rfl, rfl, _, rfl⟩ := h
  rfl
theorem ap_eq2 {t u a b c d} (hx : opd env x = some (.agg [.i a, .i b])) (hy : opd env y = some (.agg [.i c, .i d])) (he : Eq2 P t) : AP P n ⟨dst, .binOp .eql t x y u, ty, pos, after, gd⟩ env H (.b (decide (a = c) && decide (b = d))) := by
  refine ⟨fun F M w0 f w hr => ?_⟩
  have h1 := rep2 (hr.opd hx)
  have h2 := rep2 (hr.opd hy)
  refine ⟨.bool (decide (a = c) && decide (b = d)), by simp [Rep], fun w' => ?_⟩
  simp only [execOp, h1, h2]
  simp only [Sem.run_bind, run_eqGuard_agg _ _ _ _ _ _ _ he.1, Result.andThen_ok, run_eql_struct, he.2]
  simp only [Sem.run_pure, Sem.run_map, Result.andThen_ok]
  rfl
theorem ap_ne2 {t u a b c d} (hx : opd env x = some (.agg [.i a, .i b])) (hy : opd env y = some (.agg [.i c, .i d])) (he : Eq2 P t) : AP P n ⟨dst, .binOp .neq t x y u, ty, pos, after, gd⟩ env H (.b !(decide (a = c) && decide (b = d))) := by
  refine ⟨fun F M w0 f w hr => ?_⟩
  have h1 := rep2 (hr.opd hx)
  have h2 := rep2 (hr.opd hy)
  refine ⟨.bool !(decide (a = c) && decide (b = d)), by simp [Rep], fun w' => ?_⟩
  simp only [execOp, h1, h2]
  simp only [Sem.run_bind, run_eqGuard_agg _ _ _ _ _ _ _ he.1, Result.andThen_ok, run_neq_struct, he.2]
  simp only [Sem.run_pure, Sem.run_map, Result.andThen_ok]
  rfl
theorem ap_convi {s t k0 k p u} (hx : opd env x = some (.v (.int k0 p))) (hs : P.underlying s = some u) (ht : P.underlying t = some (.int k)) : AP P n ⟨dst, .convert s t x, ty, pos, after, gd⟩ env H (.v (.int k (k.wrap p))) := by
  refine ⟨fun F M w0 a w hr => ?_⟩
  have h1 := hr.opdv hx
  refine ⟨.int k (k.wrap p), by simp [Rep], fun w' => ?_⟩
  simp [execOp, h1, convert, run_underlying hs, run_underlying ht, Conv.intToInt]
theorem ap_shrw {k p yk t u} {m : Nat} (hx : opd env x = some (.v (.int k p))) (hy : opd env y = some (.v (.int yk (m : Int)))) (hm : Nat.ble m k.bits = true) : AP P n ⟨dst, .binOp .shr t x y u, ty, pos, after, gd⟩ env H (.v (.int k (p.fdiv (2 ^ m)))) := by
  refine ⟨fun F M w0 a w hr => ?_⟩
  have h1 := hr.opdv hx
  have h2 := hr.opdv hy
  refine ⟨.int k (p.fdiv (2 ^ m)), by simp [Rep], fun w' => ?_⟩
  have hm' : min m k.bits = m := Nat.min_eq_left (Nat.le_of_ble_eq_true hm)
  have h0 : ¬ ((m : Int) < 0) := by omega
  simp [execOp, h1, h2, eqGuard, binOp, Op.shift, hm', h0]
theorem ap_xorw {k p q t u} (hx : opd env x = some (.v (.int k p))) (hy : opd env y = some (.v (.int k q))) : AP P n ⟨dst, .binOp .xor t x y u, ty, pos, after, gd⟩ env H (.v (.int k (k.wrap ((BitVec.ofInt k.bits p ^^^ BitVec.ofInt k.bits q).toNat : Int)))) := by
  refine ⟨fun F M w0 a w hr => ?_⟩
  have h1 := hr.opdv hx
  have h2 := hr.opdv hy
  refine ⟨.int k (k.wrap ((BitVec.ofInt k.bits p ^^^ BitVec.ofInt k.bits q).toNat : Int)), by simp [Rep], fun w' => ?_⟩
  simp [execOp, h1, h2, eqGuard, binOp, Op.intBits]
end
section
variable {P : Program} {n : Nat} {env : Env} {H : Heap} {K : Env → Heap → Prop}
/-- A call through a function value: its answer is a truth value. -/
theorem aops_callv_b {dst : Option Tmp} {ty : TypeId} {pos : String} {after : Array Edge} {ops : Array Oper} {rest g xs ds d'} {v : Bool} {caps : List Value} {c : Operand} {tys : Array TypeId} (hf : opd env c = some (.v (.func (.func g) #[] caps.toArray))) (ha : ArgsL env xs ds) (hc : Con P g (ds ++ caps.map .v) [] (Is (.b v) [])) (hd : dst = some d') (hn : Nat.blt d' n = true)
    (h : ∀ c' : Bool, v = c' → AOps P n ops rest ((d', .b c') :: env) H K) : AOps P n ops (⟨dst, .call { callee := .value c, args := xs.toArray, argTypes := tys }, ty, pos, after, none⟩ :: rest) env H K :=
  aops_callv_v hf ha hc hd hn (h v rfl)
/-- An operation that its guard shuts out, in a drawn region: its slot holds 'undef'. -/
theorem aany_skipu {Hr : Heap} {ops fuel listed t} (i : Nat) {o : Oper} (ho : ops[i]? = some o) (hgd : Gd ops env o false) (hs : Region.noSelect ops = true) (hf : Region.free .any ops listed i = true) (hr : (Region.ready .any ops listed).contains i = true)
    (hd : o.dst = some t) (ht : Nat.blt t n = true) (hk : AAny P n Hr ops fuel (listed.setIfInBounds i true) ((t, .v undef) :: env) H K) : AAny P n Hr ops (fuel + 1) listed env H K := by
  refine ⟨fun F M w0 a w hrel hrest Q hQp hQ => ?_⟩
  refine wpAnyG_first Gr.refl Gr.trans ho (Region.noSelect_spec hs) (fun c a w h => hQp c _ _ _ _ h) fuel listed a w H (Region.free_spec ho hf) (by simpa using hr) (.inr ⟨hgd.wanted hrel, rfl⟩) ?_
  rw [hd]
  exact hk.out F M w0 _ w (hrel.put (d := .v undef) (by simp [Rep]) (by simpa [Nat.blt_eq] using ht)) hrest Q hQp hQ
end
end Go.Av
namespace Go.Av
open Go Go.RowKit Go.ChangeShapes
set_option linter.unusedVariables false
set_option linter.unusedSimpArgs false
abbrev Nob : Nat → Prop := Own (fun _ => False) []
/-- Values of type 't' read, as deep as 'n', as 'toC a' for some 'a' of 'A'. -/
structure OpN (P : Program) (w : World) (t : TypeId) (n : Nat) (A : Type) (toC : A → List D) : Prop where
  out : ∀ {H : Type} (enc : TypeId × Value → H) (cs : List Value) (x : DataW H × List MemPlace), DataW.trod enc P w 0 (fun _ => true) true n t cs = some x →
    (∀ k ∈ x.1.weights P t, k ≤ reachBytes) → ∃ a, RepL w Nob (toC a) cs
section
variable {P : Program} {w : World} {n : Nat}
def totalOf (P : Program) : List Field → Nat
  | [] => 0
  | f :: r => P.cellsOf f.type + totalOf P r
/-- The fields of a struct. -/
structure OpF (P : Program) (w : World) (fs : List Field) (off n : Nat) (A : Type) (toC : A → List D) : Prop where
  out : ∀ {H : Type} (enc : TypeId × Value → H) (cs : List Value) (xs : List (DataW H × List MemPlace)), xs.length = fs.length →
    (∀ (i : Nat) (f : Field), fs[i]? = some f → DataW.trod enc P w 0 (fun _ => true) true n f.type ((cs.drop f.offset).take (P.cellsOf f.type)) = xs[i]?) →
    (∀ k ∈ DataW.weightsEach P (fs.map (·.type)) (xs.map (·.1)), k ≤ reachBytes) → ∃ a, RepL w Nob (toC a) ((cs.drop off).take (totalOf P fs))
theorem OpN.map {t : TypeId} {A B : Type} {toC : A → List D} {toCB : B → List D} (h : OpN P w t n A toC) (g : A → B) (hg : ∀ a, toC a = toCB (g a)) : OpN P w t n B toCB := by
  refine ⟨fun enc cs x hx hw => ?_⟩
  obtain ⟨a, ha⟩ := h.out enc cs x hx hw
  exact ⟨g a, by rw [← hg]; exact ha⟩
theorem OpF.map {fs : List Field} {off : Nat} {A B : Type} {toC : A → List D} {toCB : B → List D} (h : OpF P w fs off n A toC) (g : A → B) (hg : ∀ a, toC a = toCB (g a)) : OpF P w fs off n B toCB := by
  refine ⟨fun enc cs x hx hw hk => ?_⟩
  obtain ⟨a, ha⟩ := h.out enc cs x hx hw hk
  exact ⟨g a, by rw [← hg]; exact ha⟩
end
end Go.Av
namespace Go.Av
open Go
set_option linter.unusedVariables false
set_option linter.unusedSimpArgs false
theorem splice_in {α : Type} {cs us : List α} {p o sz : Nat} (h1 : o + us.length ≤ sz) (h2 : p + sz ≤ cs.length) :
    cs.take (p + o) ++ us ++ cs.drop (p + o + us.length) = cs.take p ++ (((cs.drop p).take sz).take o ++ us ++ ((cs.drop p).take sz).drop (o + us.length)) ++ cs.drop (p + sz) := by
  have e1 : cs.take (p + o) = cs.take p ++ (cs.drop p).take o := List.take_add ..
  have e2 : ((cs.drop p).take sz).take o = (cs.drop p).take o := by rw [List.take_take]; congr 1; omega
  have hl : ((cs.drop p).take sz).length = sz := by simp; omega
  have e3 : cs.drop (p + o + us.length) = ((cs.drop p).take sz).drop (o + us.length) ++ cs.drop (p + sz) := by
    have h3 : cs.drop p = (cs.drop p).take sz ++ (cs.drop p).drop sz := (List.take_append_drop _ _).symm
    have h4 : cs.drop (p + o + us.length) = (cs.drop p).drop (o + us.length) := by rw [List.drop_drop]; congr 1; omega
    rw [h4]
    have h5 : ((cs.drop p).take sz ++ (cs.drop p).drop sz).drop (o + us.length) = ((cs.drop p).take sz).drop (o + us.length) ++ (cs.drop p).drop sz := by
      rw [List.drop_append, show o + us.length - ((cs.drop p).take sz).length = 0 from by omega, List.drop_zero]
    rw [← h3] at h5
    rw [h5, List.drop_drop]
  rw [e1, e2, e3]
  simp only [List.append_assoc]
section
variable {w : World} {O : Nat → Prop}
/-- An element anew. -/
theorem RepE.setN {sz : Nat} : ∀ {l : List D} {cs : List Value} {k : Nat} {d0 d : D} {c : Value}, RepE w O sz l cs → l[k]? = some d0 → c.cells.size = sz → (∀ u ∈ c.cells.toList, u.oneCell' = true) → Rep w O d c →
    RepE w O sz (l.set k d) (cs.take (k * sz) ++ c.cells.toList ++ cs.drop (k * sz + sz))
  | [], cs, k, d0, d, c, h, hk, _, _, _ => by simp at hk
  | e :: r, cs, k, d0, d, c, h, hk, h1, h2, h3 => by
    simp only [RepE] at h
    obtain ⟨c', cr, rfl, g2, g3, g4, g5⟩ := h
    have hl : c'.cells.toList.length = sz := by simpa using g2
    cases k with
    | zero =>
      simp only [List.set_cons_zero, RepE]
      refine ⟨c, cr, ?_, h1, h2, h3, g5⟩
      rw [Nat.zero_mul, List.take_zero, List.nil_append, Nat.zero_add, ← hl, List.drop_left]
    | succ k =>
      simp only [List.set_cons_succ, RepE]
      refine ⟨c', cr.take (k * sz) ++ c.cells.toList ++ cr.drop (k * sz + sz), ?_, g2, g3, g4, RepE.setN g5 (by simpa using hk) h1 h2 h3⟩
      have e1 : (k + 1) * sz = c'.cells.toList.length + k * sz := by rw [hl, Nat.add_mul, Nat.one_mul]; omega
      rw [e1, List.take_append, List.take_of_length_le (by omega), Nat.add_sub_cancel_left, List.drop_append, List.drop_of_length_le (by omega), List.nil_append]
      rw [show c'.cells.toList.length + k * sz + sz - c'.cells.toList.length = k * sz + sz from by omega]
      simp only [List.append_assoc]
theorem RepE.cells {sz : Nat} : ∀ {l : List D} {cs : List Value} {k : Nat} {d : D}, RepE w O sz l cs → l[k]? = some d →
    ∃ c, c.cells.toList = (cs.drop (k * sz)).take sz ∧ c.cells.size = sz ∧ (∀ u ∈ c.cells.toList, u.oneCell' = true) ∧ Rep w O d c ∧ k * sz + sz ≤ cs.length
  | [], cs, k, d, h, hi => by simp at hi
  | e :: r, cs, k, d, h, hi => by
    simp only [RepE] at h
    obtain ⟨c, cr, rfl, h2, h3, h4, h5⟩ := h
    have hl : c.cells.toList.length = sz := by simpa using h2
    cases k with
    | zero =>
      simp only [List.getElem?_cons_zero, Option.some.injEq] at hi
      subst hi
      exact ⟨c, by rw [Nat.zero_mul, List.drop_zero, ← hl, List.take_left], h2, h3, h4, by simp only [List.length_append]; omega⟩
    | succ k =>
      simp only [List.getElem?_cons_succ] at hi
      obtain ⟨c', g1, g2, g3, g4, g5⟩ := RepE.cells h5 hi
      have e1 : (k + 1) * sz = c.cells.toList.length + k * sz := by rw [hl, Nat.add_mul, Nat.one_mul]; omega
      refine ⟨c', ?_, g2, g3, g4, by simp only [List.length_append]; omega⟩
      rw [g1, e1, List.drop_append, List.drop_of_length_le (l := c.cells.toList) (by omega), List.nil_append, Nat.add_sub_cancel_left]
end
section
variable {P : Program} {n : Nat} {env : Env} {H : Heap} {dst : Option Tmp} {ty : TypeId} {pos : String} {after : Array Edge} {gd : Option (Nat × Bool)} {x y : Operand} {ops : Array Oper} {rest : List Oper}
/-- What lies in memory at a part of an element. -/
theorem own_part {F M w0 a w} (hr' : Rel F M w0 n env H a w) {g k off len cap ety sz l r nn q f} (hk : UpdF H (.arr (.slice (some ⟨g, 0, none⟩) len cap) ety sz l) f) (hd : l[k]? = some (.agg r)) (hs : SubL r off nn q) :
    ∃ (cur : Array Value) (us : List Value), w.heap[g]? = some (.cells cur ety (0, 0)) ∧ RepL w (Own F H) q us ∧ us.length = nn ∧ ∀ j u, us[j]? = some u → cur[k * sz + off + j]? = some u := by
  obtain ⟨_, _, xs, hown, hE⟩ := hr'.heap.holds _ hk.mem
  obtain ⟨c, g1, g2, g3, g4, g5⟩ := RepE.cells hE hd
  rcases hown.2 with ⟨hv, _⟩ | ⟨g', cap', cur, hv, h3, h4, h5, h6, h7, h8⟩
  · cases hv
  · simp only [Value.slice.injEq, Option.some.injEq, Addr.mk.injEq] at hv
    obtain ⟨⟨rfl, _, _⟩, _, _⟩ := hv
    simp only [Rep] at g4
    obtain ⟨vs, rfl, hvs⟩ := g4
    obtain ⟨q1, q2⟩ := hs.eq
    have hlen := hvs.length
    have hcl : (Value.agg vs.toArray).cells.toList = vs := by simp [Value.cells]
    rw [hcl] at g1 g3
    refine ⟨cur, (vs.drop off).take nn, h4, by rw [q1]; exact (hvs.drop off).take nn, by simp; omega, fun j u hu => ?_⟩
    rw [List.getElem?_take] at hu
    split at hu
    · rw [List.getElem?_drop, g1, List.getElem?_take] at hu
      split at hu
      · rw [List.getElem?_drop, ← h8, List.getElem?_take] at hu
        split at hu
        · rw [← hu]
          simp only [Array.getElem?_toList]
          congr 1
          omega
        · cases hu
      · cases hu
    · cases hu
theorem aq_load_ownF1 {Mod : List Nat} {t g k off len cap ety sz l r d f} (hx : opd env x = some (.p g (k * sz + off))) (hk : UpdF H (.arr (.slice (some ⟨g, 0, none⟩) len cap) ety sz l) f) (hm : g ∉ Mod) (hg : tagg P t = some false) (hd : l[k]? = some (.agg r)) (hs : SubL r off 1 [d]) :
    AQ P n Mod ⟨dst, .load t x, ty, pos, after, gd⟩ env H d := by
  refine ⟨fun F M w0 a w hr' => ?_⟩
  have h1 := hr'.opdv hx
  obtain ⟨cur, us, h4, h5, h6, h7⟩ := own_part hr' hk hd hs
  simp only [RepL] at h5
  obtain ⟨c, cr, rfl, h8, h9, rfl⟩ := h5
  refine ⟨c, h8, fun w' hw => ?_⟩
  have hb : w'.heap[g]? = some (.cells cur ety (0, 0)) := by rw [hw g (Array.getElem?_eq_some_iff.1 h4).1 hm]; exact h4
  have hc : w'.cell? ⟨g, k * sz + off, none⟩ = some c := by rw [cell_of_row w' g _ cur ety (0, 0) hb]; simpa using h7 0 c rfl
  simp [execOp, h1, Instr.loadAt, Instr.sureAddr, loadVar, run_isAgg hg, hc]
/-- A store into a part of an element. -/
theorem aops_store_ownF {t g k off len cap ety sz l r r' d ds f K} (hx : opd env x = some (.p g (k * sz + off))) (hy : opd env y = some d) (hfl : Flat d ds) (hk : UpdF H (.arr (.slice (some ⟨g, 0, none⟩) len cap) ety sz l) f) (hs : tsize P t = some ds.length) (hl : l[k]? = some (.agg r)) (hsp : Spl r off ds r')
    (h : AOps P n ops rest env (f (.arr (.slice (some ⟨g, 0, none⟩) len cap) ety sz (l.set k (.agg r')))) K) : AOps P n ops (⟨none, .store t x y, ty, pos, after, none⟩ :: rest) env H K := by
  refine aops_step rfl ⟨fun F M w0 a w hr Kc Q hK => ?_⟩
  have h1 := hr.opdv hx
  obtain ⟨us, h2, hus⟩ := hfl.rep (hr.opd hy)
  obtain ⟨kk, hk1, hk2⟩ := hk.set
  obtain ⟨hsz, hlb, xs, hown, hE⟩ := hr.heap.holds _ hk.mem
  obtain ⟨q1, q2⟩ := hsp.eq
  have hul := hus.length
  rcases hown.2 with ⟨hv, _⟩ | ⟨g', cap', cur, hv, h3, h4, h5, h6, h7, h8⟩
  · cases hv
  · simp only [Value.slice.injEq, Option.some.injEq, Addr.mk.injEq] at hv
    obtain ⟨⟨rfl, _, _⟩, rfl, rfl⟩ := hv
    obtain ⟨c, g1, g2, g3, g4, g5⟩ := RepE.cells hE hl
    have hlen := hE.len
    simp only [Rep] at g4
    obtain ⟨vs, rfl, hvs⟩ := g4
    have hcl : (Value.agg vs.toArray).cells.toList = vs := by simp [Value.cells]
    have hvl : vs.length = sz := by simpa [Value.cells] using g2
    have hrl := hvs.length
    rw [hcl] at g1 g3
    have hxc : xs.length ≤ cur.size := by rw [← h8, List.length_take, Array.length_toList]; exact Nat.min_le_right _ _
    have hrun := run_storeCells_at P g (k * sz + off) ety us 0 cur w h4 (by omega) hus.one
    simp only [Nat.add_zero] at hrun
    -- the cells of the element behind it
    have hnew : ((cur.toList.take (k * sz + off) ++ us ++ cur.toList.drop (k * sz + off + us.length)).take (l.length * sz)) = xs.take (k * sz) ++ (vs.take off ++ us ++ vs.drop (off + us.length)) ++ xs.drop (k * sz + sz) := by
      have e1 := splice_in (cs := xs) (us := us) (p := k * sz) (o := off) (sz := sz) (by omega) g5
      rw [← g1] at e1
      rw [← e1, ← h8, ← hlen]
      have hA : (cur.toList.take (k * sz + off)).length = k * sz + off := by simp; omega
      rw [List.take_append, List.take_append, List.length_append, hA, List.take_take, List.take_take, List.drop_take]
      rw [List.take_of_length_le (l := us) (by omega)]
      congr 2
      congr 1; omega
    have hr1 := hr.upd (o' := .arr (.slice (some ⟨g, 0, none⟩) l.length cap) ety sz (l.set k (.agg r'))) hk1 (Fr.setRow w g (cur.toList.take (k * sz + off) ++ us ++ cur.toList.drop (k * sz + off + us.length)).toArray)
      (fun O' hO => by
        have hm : ∀ bb, bb < w.heap.size → ¬ Own F H bb → ¬ O' bb ∧ (w.setRow g (cur.toList.take (k * sz + off) ++ us ++ cur.toList.drop (k * sz + off + us.length)).toArray).heap[bb]? = w.heap[bb]? := fun bb hb hb' =>
          ⟨hO bb hb hb', setRow_other w g bb _ (fun e => hb' (.inr (mem_Hb hk.mem (by simp [Ob.blk, Value.ownBlock, e]))))⟩
        have hE' := RepE.setN (d := .agg r') (c := .agg (vs.take off ++ us ++ vs.drop (off + us.length)).toArray) (RepE.mono hm _ _ _ hE) hl (by simp [Value.cells]; omega)
          (by
            have hL := RepL.one (RepL.append (RepL.append (hvs.take off) hus) (hvs.drop (off + us.length)))
            simpa [Value.cells] using hL)
          (by simp only [Rep]; exact ⟨_, rfl, by rw [q1, hul]; exact RepL.append (RepL.append ((RepL.mono hm _ _ hvs).take off) (RepL.mono hm _ _ hus)) ((RepL.mono hm _ _ hvs).drop _)⟩)
        have hcl2 : (Value.agg (vs.take off ++ us ++ vs.drop (off + us.length)).toArray).cells.toList = vs.take off ++ us ++ vs.drop (off + us.length) := by simp [Value.cells]
        rw [hcl2, ← hnew] at hE'
        have hsize : (cur.toList.take (k * sz + off) ++ us ++ cur.toList.drop (k * sz + off + us.length)).length = cur.size := by simp; omega
        refine ⟨hsz, by simpa using hlb, _, ⟨by rw [List.length_take, hsize, List.length_set]; omega, .inr ⟨g, cap, _, by simp, Nat.zero_le _, setRow_heap w g cur _ ety _ h4, by simpa using h5, h6, ?_, ?_⟩⟩, hE'⟩
        · rw [List.size_toArray, hsize]; exact h7
        · simp only [List.toList_toArray, List.length_set])
      (.inl rfl)
    unfold Oper.wp
    simp only [execOp, h1, Instr.storeAt, Instr.sureAddr, storeVar, Sem.run_bind, Sem.run_pure, Result.andThen_ok, run_sizeOf hs, h2]
    simp only [List.size_toArray, hul, ne_eq, not_true_eq_false, if_false, hrun, Sem.run_pure, Result.andThen_ok, Oper.upon_skip, Sem.run_ite, Sem.run_bind, List.toList_toArray]
    have := hK env (f (.arr (.slice (some ⟨g, 0, none⟩) l.length cap) ety sz (l.set k (.agg r')))) (a.put none undef) _ h (by rw [hk2]; exact hr1)
    exact this
end
end Go.Av
namespace Go.Av
open Go
end Go.Av
namespace Go.Av
open Go
/-- What the function built is left as it is from here on, amid the operations of a region. -/
theorem aops_freeze {P : Program} {n : Nat} {env env' : Env} {H H1 H' : Heap} {K : Env → Heap → Prop} {ops : Array Oper} {o rest} (v : Value) (live : List Nat) {ety sz l} (hg : o.guard = none) (hk : Rem H (.arr v ety sz l) H1) (he : SelC v sz l env live env') (hh : HeapA v sz l H1 H') (h : AOps P n ops (o :: rest) env' H' K) : AOps P n ops (o :: rest) env H K :=
  aops_wk hg (wk_freeze hk he.sub hh.heapC) h
end Go.Av
namespace Go.Av
open Go
set_option linter.unusedVariables false
set_option linter.unusedSimpArgs false
section
variable {P : Program} {n : Nat} {env : Env} {H : Heap} {dst : Option Tmp} {ty : TypeId} {pos : String} {after : Array Edge} {gd : Option (Nat × Bool)} {x y : Operand}
theorem ap_buildA {t us cs parts out len e sz} (ha : P.underlying t = some (.array len e)) (hs : tsize P e = some sz) (hz : tzero P t = some us) (hu : AllV us cs) (hf : FillL (plc sz) env parts cs out) :
    AP P n ⟨dst, .build t parts.toArray, ty, pos, after, gd⟩ env H (.agg out) := by
  refine ⟨fun F M w0 a w hr => ?_⟩
  obtain ⟨vs, g1, g2⟩ := hf.run hr us hu.rep
  refine ⟨.agg vs.toArray, by simp only [Rep]; exact ⟨vs, rfl, g2⟩, fun w' => ?_⟩
  obtain ⟨zv, z1, z2⟩ := tzero_spec hz w'
  simp only [execOp, Instr.build, Sem.run_bind, z1, Result.andThen_ok, run_underlying ha, run_sizeOf hs, List.map_toArray, List.toList_toArray, z2]
  unfold plc at g1
  simp only [g1, Sem.run_pure, Result.andThen_ok]
theorem ap_convid {s t k0 p u} (hx : opd env x = some (.v (.int k0 p))) (hs : P.underlying s = some u) (ht : P.underlying t = some (.int .i64)) (hb : -9223372036854775808 ≤ p ∧ p ≤ 9223372036854775807) : AP P n ⟨dst, .convert s t x, ty, pos, after, gd⟩ env H (.i p) := by
  have := ap_convi (P := P) (n := n) (env := env) (H := H) (dst := dst) (ty := ty) (pos := pos) (after := after) (gd := gd) hx hs ht
  rwa [wrap_id hb.1 hb.2] at this
end
end Go.Av
namespace Go.Av
open Go
section
variable {P : Program} {n : Nat} {env : Env} {H : Heap} {dst : Option Tmp} {ty : TypeId} {pos : String} {after : Array Edge} {gd : Option (Nat × Bool)} {x y : Operand}
theorem ap_andw {k p q t u} (hx : opd env x = some (.v (.int k p))) (hy : opd env y = some (.v (.int k q))) : AP P n ⟨dst, .binOp .and t x y u, ty, pos, after, gd⟩ env H (.v (.int k (k.wrap ((BitVec.ofInt k.bits p &&& BitVec.ofInt k.bits q).toNat : Int)))) := by
  refine ⟨fun F M w0 a w hr => ?_⟩
  have h1 := hr.opdv hx
  have h2 := hr.opdv hy
  refine ⟨.int k (k.wrap ((BitVec.ofInt k.bits p &&& BitVec.ofInt k.bits q).toNat : Int)), by simp [Rep], fun w' => ?_⟩
  simp [execOp, h1, h2, eqGuard, binOp, Op.intBits]
end
end Go.Av
namespace Go.Av
open Go
set_option linter.unusedVariables false
set_option linter.unusedSimpArgs false
section
variable {P : Program} {n : Nat} {env : Env} {H : Heap} {dst : Option Tmp} {ty : TypeId} {pos : String} {after : Array Edge} {x y : Operand}
/-- The cells of a new row. -/
def tmade (P : Program) (e : TypeId) (m : Nat) : Option (List Value) := ((P.info? e).bind (·.zero)).map fun z => (madeCells z.cells m).toList
theorem aops_make {ops rest t e sz by_ d K l cs} {N : Nat} {kl kc : IntKind} (hx : opd env x = some (.v (.int kl (N : Int)))) (hy : opd env y = some (.v (.int kc (N : Int)))) (ht : telem P t = some e) (hi : tinfo P e = some (sz, by_))
    (hm : tmade P e (N * sz) = some cs) (hl : l.length = N) (hE : ∀ w O, RepE w O sz l cs) (hb : by_ * N ≤ 281474976710656 ∧ N ≤ capB) (hd : dst = some d) (hn : Nat.blt d n = true)
    (h : ∀ g : Nat, AOps P n ops rest ((d, .v (.slice (some ⟨g, 0, none⟩) N N)) :: env) (.arr (.slice (some ⟨g, 0, none⟩) N N) e sz l :: H) K) :
    AOps P n ops (⟨dst, .makeSlice t x y, ty, pos, after, none⟩ :: rest) env H K := by
  refine aops_step rfl ⟨fun F M w0 a w hr Kc Q hK => ?_⟩
  have hx' := hr.opdv hx
  have hy' := hr.opdv hy
  obtain ⟨i, z, h1, h2, h3, h4, h5, h6⟩ := tinfo_spec hi
  have hcap : capB = 140737488355328 := rfl
  obtain ⟨w', hrun, r1, r2⟩ := run_make_full (P := P) w 0 t e i z sz (telem_under ht) h1 h2 h3 kl kc N (by rw [h4]; exact hb.1) (by unfold maxLen; omega) (Nat.zero_le _)
  have hcs : (madeCells z.cells (N * sz)).toList = cs := by
    unfold tmade at hm
    rw [h1] at hm
    simpa [h2] using hm
  rw [hcs] at r1
  have hr1 := hr.add (o' := .arr (.slice (some ⟨w.heap.size, 0, none⟩) N N) e sz l) (by simpa using Fr.grown r2) (fun O' hO => ⟨h6, by rw [hl]; exact hb.2, cs, by rw [hl]; exact r1, hE _ _⟩) (fun b hb => by simp [Ob.blk, Value.ownBlock] at hb; omega)
  unfold Oper.wp
  have e1 : (execOp a.eval ⟨dst, .makeSlice t x y, ty, pos, after, none⟩) = (do pure (.value (← Instr.makeSlice t (a.eval x) (a.eval y)))) := by
    simp [execOp]
  rw [e1, Sem.run_bind, hx', hy', hrun, Result.andThen_ok, Sem.run_pure, Oper.upon_value, hd]
  exact hK _ _ _ _ (h w.heap.size) (hr1.put (by simp [Rep]) (by simpa [Nat.blt_eq] using hn))
end
end Go.Av
namespace Go.Av
set_option linter.unusedVariables false
section
variable {P : Program} {n : Nat} {env : Env} {H : Heap} {dst : Option Tmp} {ty : TypeId} {pos : String} {after : Array Edge} {gd : Option (Nat × Bool)} {x y : Operand} {ops : Array Oper} {rest : List Oper}
/-- Where a slice begins that is cut from place k on. -/
def cutAt (cap k sz : Nat) : Nat := if cap = k then 0 else k * sz
theorem ap_slice_own_from {t e sz g len cap ety l j k f} (hx : opd env x = some (.v (.slice (some ⟨g, 0, none⟩) len cap))) (hk' : UpdF H (.arr (.slice (some ⟨g, 0, none⟩) len cap) ety sz l) f) (hy : opd env y = some (.i j)) (ht : telem P t = some e) (hs : tsize P e = some sz) (hj : j = ((k : Nat) : Int)) (hk : k ≤ l.length) :
    AP P n ⟨dst, .slice t x (some y) none none, ty, pos, after, gd⟩ env H (.v (.slice (some ⟨g, cutAt cap k sz, none⟩) (l.length - k) (cap - k))) := by
  refine ⟨fun F M w0 a w hr => ?_⟩
  have h1 := hr.opdv hx
  have h2 := hr.opdv hy
  subst hj
  obtain ⟨_, _, xs, hown, hE⟩ := hr.heap.holds _ hk'.mem
  rcases hown.2 with ⟨hv, _⟩ | ⟨g', cap', cur, hv, h3, h4, h5, h6, h7, h8⟩
  · cases hv
  · simp only [Value.slice.injEq, Option.some.injEq, Addr.mk.injEq] at hv
    obtain ⟨⟨rfl, _, _⟩, rfl, rfl⟩ := hv
    refine ⟨.slice (some ⟨g, cutAt cap k sz, none⟩) (l.length - k) (cap - k), by simp only [Rep], fun w' => ?_⟩
    have hi : (0 : Int) ≤ (k : Int) ∧ (k : Int) ≤ (cap : Int) := by omega
    have hi' : ¬ l.length < k := by omega
    simp [hk, execOp, h1, h2, Instr.sliceAt, Instr.slice, run_underlying (telem_under ht), Instr.sliceBounds, Instr.sliceBound, asIntOf, hi, run_sizeOf hs, Addr.add]
    unfold cutAt
    by_cases hck : cap = k
    · simp [hck]
    · simp [hck]
      by_cases hz : k * sz = 0
      · simp [hz]
      · simp [hz]
variable {Q : Exit → Env → Heap → Prop}
theorem awp_arr_openc {c : Code} {v e sz l f} (hk : UpdF H (.arr v e sz l) f) (hl : l ≠ []) (h : ∀ g cap, l.length ≤ cap → v = .slice (some ⟨g, 0, none⟩) l.length cap → AWp P n c env H Q) : AWp P n c env H Q := by
  refine ⟨fun F M w0 a w hr => ?_⟩
  obtain ⟨_, _, xs, hown, _⟩ := hr.heap.holds _ hk.mem
  rcases hown.2 with ⟨_, h2⟩ | ⟨g, cap, cur, h2, _, _, h5, _⟩
  · exact absurd (List.eq_nil_of_length_eq_zero h2) hl
  · exact (h g cap h5 h2).out F M w0 a w hr
end
end Go.Av
namespace Go.Av
set_option linter.unusedVariables false
set_option linter.unusedSimpArgs false
theorem str_eq (x y : ByteArray) : (x.toList == y.toList) = decide (x = y) := by
  have h := beq_toListBytes x y
  rw [← h, Bool.eq_iff_iff, decide_eq_true_iff]
  constructor
  · intro h2
    rw [h] at h2
    have h3 : x.toList = y.toList := by simpa using h2
    have h4 : x.data.toList = y.data.toList := by simpa [ByteArray.toList_eq] using h3
    cases x; cases y
    simp only [ByteArray.mk.injEq]
    exact Array.toList_inj.1 h4
  · rintro rfl
    rw [h]
    simp
/-- How two strings compare. -/
def cmpS : BinOp → ByteArray → ByteArray → Option Bool
  | .eql, a, b => some (decide (a = b))
  | .neq, a, b => some (!decide (a = b))
  | .lss, a, b => some (Op.bytesLess a.toList b.toList)
  | .gtr, a, b => some (!(Op.bytesLess a.toList b.toList || decide (a = b)))
  | _, _, _ => none
section
variable {P : Program} {n : Nat} {env : Env} {H : Heap} {dst : Option Tmp} {ty : TypeId} {pos : String} {after : Array Edge} {gd : Option (Nat × Bool)} {x y : Operand} {ops : Array Oper} {rest : List Oper}
theorem ap_scmp {op p q c t u} (hx : opd env x = some (.v (.string p))) (hy : opd env y = some (.v (.string q))) (hc : cmpS op p q = some c) : AP P n ⟨dst, .binOp op t x y u, ty, pos, after, gd⟩ env H (.b c) := by
  refine ⟨fun F M w0 a w hr => ?_⟩
  have h1 := hr.opdv hx
  have h2 := hr.opdv hy
  refine ⟨.bool c, by simp [Rep], fun w' => ?_⟩
  cases op <;> simp only [cmpS, Option.some.injEq, reduceCtorEq] at hc <;> subst hc <;>
    simp [execOp, h1, h2, eqGuard, binOp, Op.stringOp, str_eq] <;> rfl
theorem ap_len_str {t s} (hx : opd env x = some (.v (.string s))) (ht : P.underlying t = some .string) : AP P n ⟨dst, .call { callee := .builtin .len, args := #[x], argTypes := #[t] }, ty, pos, after, gd⟩ env H (.i (s.size : Int)) := by
  refine ⟨fun F M w0 a w hr => ?_⟩
  have h1 := hr.opdv hx
  refine ⟨.int .i64 (s.size : Int), by simp [Rep], fun w' => ?_⟩
  simp [execOp, resolve, invoke, builtin, h1, Builtin.len_, run_underlying ht, goInt]
end
end Go.Av
namespace Go.Av
set_option linter.unusedVariables false
set_option linter.unusedSimpArgs false
section
variable {P : Program} {n : Nat} {env : Env} {H : Heap} {dst : Option Tmp} {ty : TypeId} {pos : String} {after : Array Edge} {gd : Option (Nat × Bool)} {x y : Operand} {ops : Array Oper} {rest : List Oper}
/-- x[k:] of a slice that nobody writes. -/
theorem ap_slice_from {t e sz l j k} (hx : opd env x = some (.sl sz l)) (hy : opd env y = some (.i j)) (ht : telem P t = some e) (hs : tsize P e = some sz) (hj : j = ((k : Nat) : Int)) (hk : k ≤ l.length) :
    AP P n ⟨dst, .slice t x (some y) none none, ty, pos, after, gd⟩ env H (.sl sz (l.drop k)) := by
  refine ⟨fun F M w0 a w hr => ?_⟩
  have h1 := hr.opd hx
  have h2 := hr.opdv hy
  subst hj
  simp only [Rep] at h1
  obtain ⟨hb, cs, hE, ⟨ad, cap, h1, h3, h4⟩ | ⟨h1, rfl⟩⟩ := h1
  · refine ⟨.slice (some (if cap - k = 0 then ad else ad.add (k * sz))) (l.length - k) (cap - k), ?_, fun w' => ?_⟩
    · simp only [Rep]
      have hlk : (l.drop k).length = l.length - k := by simp
      refine ⟨by omega, cs.drop (k * sz), hE.drop k, .inl ⟨_, cap - k, by rw [hlk], by omega, ?_⟩⟩
      have hlen := hE.len
      by_cases hc : cap - k = 0
      · have : cs.drop (k * sz) = [] := List.drop_eq_nil_of_le (by rw [hlen]; exact Nat.mul_le_mul_right _ (by omega))
        exact .inl this
      · rw [if_neg hc]
        rcases h4 with h4 | ⟨h4, h5, h6⟩
        · exact .inl (by simp [h4])
        · have e1 : ad.add (k * sz) = ⟨ad.block, ad.off + k * sz, none⟩ := by
            cases ad with
            | mk b o s =>
              simp only at h5
              subst h5
              rw [addr_add]
          rw [e1]
          refine .inr ⟨h4, rfl, fun j c hj => ?_⟩
          rw [List.getElem?_drop] at hj
          have := h6 (k * sz + j) c hj
          rwa [← Nat.add_assoc] at this
    · have hi' : ¬ l.length < k := by omega
      have e : (if cap = k then ad else ad.add (k * sz)) = (if cap - k = 0 then ad else ad.add (k * sz)) := by
        by_cases h : cap = k
        · rw [if_pos h, if_pos (by omega)]
        · rw [if_neg h, if_neg (by omega)]
      rw [← e]
      simp [hk, execOp, h1, h2, Instr.sliceAt, Instr.slice, run_underlying (telem_under ht), Instr.sliceBounds, Instr.sliceBound, asIntOf, run_sizeOf hs]
      split <;> rfl
  · have hk0 : k = 0 := by simpa using hk
    subst hk0
    refine ⟨.slice none 0 0, ?_, fun w' => ?_⟩
    · simp only [Rep]
      exact ⟨by simp, [], by simp [RepE], .inr (by simp)⟩
    · simp [execOp, h1, h2, Instr.sliceAt, Instr.slice, run_underlying (telem_under ht), Instr.sliceBounds, Instr.sliceBound, asIntOf, run_sizeOf hs]
/-- An element of an array. -/
theorem ap_indexA {t e len sz l j k r} (hx : opd env x = some (.agg l)) (hy : opd env y = some (.i j)) (ha : P.underlying t = some (.array len e)) (hg : tagg P e = some true) (hs : tsize P e = some sz) (hj : j = ((k : Nat) : Int)) (hk : k < len) (hr0 : SubL l (k * sz) sz r) :
    AP P n ⟨dst, .index t x y, ty, pos, after, gd⟩ env H (.agg r) := by
  refine ⟨fun F M w0 a w hr => ?_⟩
  have h1 := hr.opd hx
  have h2 := hr.opdv hy
  subst hj
  obtain ⟨q1, q2⟩ := hr0.eq
  simp only [Rep] at h1
  obtain ⟨cs, h1, h3⟩ := h1
  refine ⟨.agg ((cs.drop (k * sz)).take sz).toArray, by simp only [Rep]; exact ⟨_, rfl, by rw [q1]; exact (h3.drop _).take sz⟩, fun w' => ?_⟩
  simp [execOp, h1, h2, Instr.index, run_underlying ha, asIntOf, part, run_isAgg hg, run_sizeOf hs, hk]
theorem ap_indexA1 {t e len l j k d} (hx : opd env x = some (.agg l)) (hy : opd env y = some (.i j)) (ha : P.underlying t = some (.array len e)) (hg : tagg P e = some false) (hs : tsize P e = some 1) (hj : j = ((k : Nat) : Int)) (hk : k < len) (hr0 : SubL l (k * 1) 1 [d]) :
    AP P n ⟨dst, .index t x y, ty, pos, after, gd⟩ env H d := by
  refine ⟨fun F M w0 a w hr => ?_⟩
  have h1 := hr.opd hx
  have h2 := hr.opdv hy
  subst hj
  simp only [Rep] at h1
  obtain ⟨cs, h1, h3⟩ := h1
  obtain ⟨c, h4, h5, h6⟩ := h3.get (getSub hr0)
  rw [Nat.mul_one] at h4
  refine ⟨c, h5, fun w' => ?_⟩
  simp [execOp, h1, h2, Instr.index, run_underlying ha, asIntOf, part, run_isAgg hg, run_sizeOf hs, hk, h4]
end
end Go.Av
namespace Go.Av
set_option linter.unusedVariables false
set_option linter.unusedSimpArgs false
/-- The world has only grown. -/
structure Gw (w w' : World) : Prop where
  size : w.heap.size ≤ w'.heap.size
  block : ∀ b, b < w.heap.size → w'.heap[b]? = w.heap[b]?
theorem Gw.refl (w) : Gw w w := ⟨Nat.le_refl _, fun _ _ => rfl⟩
theorem Gw.trans {w w' w''} (h : Gw w w') (k : Gw w' w'') : Gw w w'' := ⟨Nat.le_trans h.size k.size, fun b hb => (k.block b (Nat.lt_of_lt_of_le hb h.size)).trans (h.block b hb)⟩
section generic
variable {P : Program} {ops : Array Oper} {Q : Exit → Act → World → Prop} {B : Nat → Bool}
/-- Whatever order is picked; the operations outside of B only make the world grow. -/
def wpAnyL (P : Program) (ops : Array Oper) (Q : Exit → Act → World → Prop) (B : Nat → Bool) : Nat → Array Bool → Act → World → Prop
  | 0, listed, a, w => Region.ready .any ops listed = [] ∧ Q .normal a w
  | fuel + 1, listed, a, w =>
    (Region.ready .any ops listed = [] → Q .normal a w) ∧
    ∀ i ∈ Region.ready .any ops listed, wpOp P ops Q i (fun a' w' => (B i = false → Gw w w') ∧ wpAnyL P ops Q B fuel (listed.setIfInBounds i true) a' w') a w
theorem wpAny_of_L : ∀ (fuel : Nat) (listed : Array Bool) (a : Act) (w : World), wpAnyL P ops Q B fuel listed a w → wpAny P .any ops Q fuel listed a w
  | 0, _, _, _, h => h
  | fuel + 1, _, _, _, h => ⟨h.1, fun i hi => wpOp_mono (fun a' w' ⟨_, h'⟩ => wpAny_of_L fuel _ a' w' h') (h.2 i hi)⟩
theorem wpAnyL_first (T : World → World → Prop) (Tr : ∀ w, T w w) (Tt : ∀ w w' w'', T w w' → T w' w'' → T w w'') {i : Nat} {oi : Oper} {v : Value} (hi : ops[i]? = some oi) (hsel : ∀ (j : Nat) (o : Oper) cs b, ops[j]? = some o → o.op ≠ .select cs b)
    (hB : ∀ j oj, ops[j]? = some oj → (∀ e ∈ oj.after, Region.binds .any e = true → e.on ≠ i) → ∀ w w', (B j = false → Gw w w') → T w w')
    (hiB : B i = false ∨ True)
    (hQ : ∀ c a w, Q (.panic c) (a.put oi.dst v) w → Q (.panic c) a w) :
    ∀ (fuel : Nat) (listed : Array Bool) (a : Act) (w : World),
      (∀ j oj, ops[j]? = some oj → j ≠ i → listed.getD j true = false → (∀ e ∈ oj.after, Region.binds .any e = true → e.on ≠ i) → oi.apart ops oj = true) →
      i ∈ Region.ready .any ops listed → YieldsIf P ops (fun w' => T w w') oi v a →
      wpAnyL P ops Q B fuel (listed.setIfInBounds i true) (a.put oi.dst v) w → wpAnyL P ops Q B (fuel + 1) listed a w := by
  intro fuel
  induction fuel with
  | zero =>
    intro listed a w _ hr hy H
    refine ⟨fun h => (by rw [h] at hr; cases hr), fun j hj => ?_⟩
    by_cases hji : j = i
    · subst hji; exact hy.wpOp hi (Tr w) ⟨fun _ => Gw.refl w, H⟩
    · have := ready_mono hj hji
      rw [H.1] at this
      cases this
  | succ fuel ih =>
    intro listed a w hfree hr hy H
    refine ⟨fun h => (by rw [h] at hr; cases hr), fun j hj => ?_⟩
    by_cases hji : j = i
    · subst hji; exact hy.wpOp hi (Tr w) ⟨fun _ => Gw.refl w, H⟩
    · have h1 := H.2 j (ready_mono hj hji)
      obtain ⟨hjun, oj, hoj, hall⟩ := mem_ready.1 hj
      have hnot : ∀ e ∈ oj.after, Region.binds .any e = true → e.on ≠ i := fun e he hb heq => by
        have h1 := hall e he hb
        have h0 := (mem_ready.1 hr).1
        rw [heq] at h1
        rcases Nat.lt_or_ge i listed.size with h' | h'
        · simp [h'] at h0 h1; rw [h0] at h1; cases h1
        · simp [Array.getElem?_eq_none h'] at h1
      have h2 := wpOp_putIf hoj (hfree j oj hoj hji hjun hnot) (fun cs b => hsel i oi cs b hi) (fun cs b => hsel j oj cs b hoj) hQ hy h1
      have hfree' : ∀ k ok, ops[k]? = some ok → k ≠ i → (listed.setIfInBounds j true).getD k true = false →
          (∀ e ∈ ok.after, Region.binds .any e = true → e.on ≠ i) → oi.apart ops ok = true := fun k ok hk hki hun hno => by
        refine hfree k ok hk hki ?_ hno
        by_cases hjk : j = k
        · subst hjk; exact hjun
        · rw [getD_set_ne true hjk] at hun; exact hun
      refine wpOp_mono (fun a' w' h3 => ?_) h2
      obtain ⟨hy', hG, h4⟩ := h3
      have hG' := hB j oj hoj hnot w w' hG
      refine ⟨hG, ih (listed.setIfInBounds j true) a' w' hfree' (ready_mono hr (Ne.symm hji)) ?_ ?_⟩
      · rcases hy' with ⟨k1, k2⟩ | k
        · exact .inl ⟨k1, fun w'' h'' => k2 w'' (Tt _ _ _ hG' h'')⟩
        · exact .inr k
      · rw [Array.setIfInBounds_comm _ _ hji]
        exact h4
/-- From where only operations of B are left, any other way of telling does. -/
theorem wpAnyL_of_G {X : Type} {G : X → World → X → World → Prop} : ∀ (fuel : Nat) (listed : Array Bool) (a : Act) (w : World) (x : X),
    (∀ j, listed.getD j true = false → B j = true) → wpAnyG P .any ops Q G fuel listed a w x → wpAnyL P ops Q B fuel listed a w
  | 0, _, _, _, _, _, h => h
  | fuel + 1, listed, a, w, x, hB, h => ⟨h.1, fun i hi => wpOp_mono (fun a' w' ⟨x', _, h'⟩ => ⟨fun hb => (by
      have h1 := (mem_ready.1 hi).1
      rw [hB i h1] at hb
      cases hb), wpAnyL_of_G fuel _ a' w' x' (fun j hj => hB j (by
        by_cases hij : i = j
        · subst hij; exact (mem_ready.1 hi).1
        · rw [getD_set_ne true hij] at hj; exact hj)) h'⟩) (h.2 i hi)⟩
end generic
section
variable {P : Program} {n : Nat} {env : Env} {H : Heap} {dst : Option Tmp} {ty : TypeId} {pos : String} {after : Array Edge} {gd : Option (Nat × Bool)} {B : Nat → Bool} {ops : Array Oper} {K : Env → Heap → Prop}
structure AAny2 (B : Nat → Bool) (P : Program) (n : Nat) (ops : Array Oper) (fuel : Nat) (listed : Array Bool) (env : Env) (H : Heap) (K : Env → Heap → Prop) : Prop where
  out : ∀ F M w0 a w, Rel F M w0 n env H a w → ∀ (Q : Exit → Act → World → Prop), (∀ c a w a' w', Q (.panic c) a w → Q (.panic c) a' w') →
    (∀ env' H' a' w', K env' H' → Rel F M w0 n env' H' a' w' → Q .normal a' w') → wpAnyL P ops Q B fuel listed a w
def stageOk (B : Nat → Bool) (ops : Array Oper) (i : Nat) : Bool := (List.range ops.size).all fun j => !B j || (match ops[j]? with | some oj => oj.after.any (fun e => Region.binds .any e && Nat.beq e.on i) | none => true)
theorem stageOk_spec {i : Nat} (h : stageOk B ops i = true) (hBs : ∀ j, ops.size ≤ j → B j = false) : ∀ j oj, ops[j]? = some oj → (∀ e ∈ oj.after, Region.binds .any e = true → e.on ≠ i) → B j = false := by
  intro j oj hj hno
  cases hb : B j with
  | false => rfl
  | true =>
    have hlt : j < ops.size := (Array.getElem?_eq_some_iff.1 hj).1
    have h1 := List.all_eq_true.1 h j (List.mem_range.2 hlt)
    rw [hb, hj] at h1
    simp only [Bool.not_true, Bool.false_or, Array.any_eq_true', Bool.and_eq_true] at h1
    obtain ⟨e, he, h2, h3⟩ := h1
    exact absurd (Nat.eq_of_beq_eq_true h3) (hno e he h2)
theorem aany2_take {fuel listed d t} (i : Nat) {o : Oper} (ho : ops[i]? = some o) (hgd : Gd ops env o true) (hs : Region.noSelect ops = true) (hf : Region.free .any ops listed i = true) (hr : (Region.ready .any ops listed).contains i = true)
    (hB : stageOk B ops i = true) (hBs : ∀ j, ops.size ≤ j → B j = false)
    (h : AQ P n [] o env H d) (hd : o.dst = some t) (ht : Nat.blt t n = true) (hk : AAny2 B P n ops fuel (listed.setIfInBounds i true) ((t, d) :: env) H K) : AAny2 B P n ops (fuel + 1) listed env H K := by
  refine ⟨fun F M w0 a w hrel Q hQp hQ => ?_⟩
  obtain ⟨v, h1, h2⟩ := h.out F M w0 a w hrel
  refine wpAnyL_first Gw Gw.refl (fun _ _ _ h k => Gw.trans h k) ho (Region.noSelect_spec hs) (fun j oj h1 h2 w w' h3 => h3 (stageOk_spec hB hBs j oj h1 h2)) (.inr trivial) (fun c a w h => hQp c _ _ _ _ h) fuel listed a w (Region.free_spec ho hf) (by simpa using hr) (.inl ⟨hgd.wanted hrel, fun w' hG => h2 w' (fun b hb _ => hG.block b hb)⟩) ?_
  rw [hd]
  exact hk.out F M w0 _ w (hrel.put h1 (by simpa [Nat.blt_eq] using ht)) Q hQp hQ
/-- An operation that only computes may be taken first, whatever else may come. -/
theorem aany2_pure {fuel listed d t} (i : Nat) {o : Oper} (ho : ops[i]? = some o) (hgd : Gd ops env o true) (hs : Region.noSelect ops = true) (hf : Region.free .any ops listed i = true) (hr : (Region.ready .any ops listed).contains i = true)
    (h : AP P n o env H d) (hd : o.dst = some t) (ht : Nat.blt t n = true) (hk : AAny2 B P n ops fuel (listed.setIfInBounds i true) ((t, d) :: env) H K) : AAny2 B P n ops (fuel + 1) listed env H K := by
  refine ⟨fun F M w0 a w hrel Q hQp hQ => ?_⟩
  obtain ⟨v, h1, h2⟩ := h.out F M w0 a w hrel
  refine wpAnyL_first (fun _ _ => True) (fun _ => trivial) (fun _ _ _ _ _ => trivial) ho (Region.noSelect_spec hs) (fun j oj h1 h2 w w' h3 => trivial) (.inr trivial) (fun c a w h => hQp c _ _ _ _ h) fuel listed a w (Region.free_spec ho hf) (by simpa using hr) (.inl ⟨hgd.wanted hrel, fun w' _ => h2 w'⟩) ?_
  rw [hd]
  exact hk.out F M w0 _ w (hrel.put h1 (by simpa [Nat.blt_eq] using ht)) Q hQp hQ
def stB (l : List Nat) (j : Nat) : Bool := l.any (Nat.beq j)
theorem stB_out {l : List Nat} {s : Nat} (h : l.all (fun k => Nat.blt k s) = true) : ∀ j, s ≤ j → stB l j = false := by
  intro j hj
  cases hb : stB l j with
  | false => rfl
  | true =>
    obtain ⟨k, hk, h2⟩ := List.any_eq_true.1 hb
    have h3 := List.all_eq_true.1 h k hk
    have h4 := Nat.eq_of_beq_eq_true h2
    have h5 : k < s := by simpa [Nat.blt_eq] using h3
    omega
theorem aany2_call {fuel listed g ds d' R} {xs : List Operand} {tys : Array TypeId} (i : Nat) (hr : Region.ready .any ops listed = [i]) (ho : ops[i]? = some ⟨dst, .call { callee := .value (.func g), args := xs.toArray, argTypes := tys }, ty, pos, after, none⟩)
    (ha : ArgsL env xs ds) (hc : Con P g ds [] R) (hd : dst = some d') (hn : Nat.blt d' n = true)
    (hk : ∀ d H', R d H' → H' = [] ∧ AAny2 B P n ops fuel (listed.setIfInBounds i true) ((d', d) :: env) H K) : AAny2 B P n ops (fuel + 1) listed env H K := by
  refine ⟨fun F M w0 a w hr0 Q hQp hQ => ⟨fun h0 => absurd (hr.symm.trans h0) (by simp), fun j hj => ?_⟩⟩
  obtain rfl : j = i := by rw [hr] at hj; simpa using hj
  unfold wpOp
  simp only [ho]
  rw [if_pos (by simp [Region.wanted])]
  refine .inl ?_
  have hs : Split H [] H := Split.none H
  have hargs : RepT w (Own F H) ds (xs.map a.eval) := ha.rep hr0
  have hrun := hc.run (Own F H) w _ (hr0.heap.split hs) (hargs.iff (fun b hb => (hs.own b).1 hb))
  unfold Oper.wp
  have e : (execOp a.eval ⟨dst, .call { callee := .value (.func g), args := xs.toArray, argTypes := tys }, ty, pos, after, none⟩).run P w = .ok (.enter g (xs.map a.eval).toArray) w := by
    have h1 : a.eval (.func g) = .func (.func g) #[] #[] := rfl
    simp [execOp, resolve, h1, Deferred.ofValue, invoke, hc.enter]
  rw [e, Oper.upon_enter]
  refine hrun.mono fun e w' ⟨v, d, H', q1, q2, q3, q4, q5, q6⟩ => ?_
  subst q1
  simp only [hd]
  obtain ⟨rfl, hk'⟩ := hk d H' q2
  have hr1 := hr0.step (hr0.heap.join hs q4 q5 q6) (q5.weaken (fun b hb => (hs.hb b).2 (.inl hb))) (fun b hb => by
    simp only [Hb, List.filterMap_append, List.mem_append] at hb
    rcases hb with hb | hb
    · simp at hb
    · exact .inl ((hs.hb b).2 (.inr hb)))
  refine ⟨fun _ => ⟨q5.size, fun b hb => q5.block b hb (by simp [Hb])⟩, ?_⟩
  exact hk'.out F M w0 _ w' (hr1.put (q3.iff (fun b hb => (own_append b).1 hb)) (by simpa [Nat.blt_eq] using hn)) Q hQp hQ
theorem aany2_switch {fuel listed Hm Hr} (hl : (List.range ops.size).all (fun j => listed.getD j true || B j) = true) (hls : listed.size = ops.size) (hs : Split H Hm Hr)
    (h : AAny P n Hr ops fuel listed env Hm (fun env' H' => K env' (H' ++ Hr))) : AAny2 B P n ops fuel listed env H K := by
  refine ⟨fun F M w0 a w hr1 Q hQp hQ => ?_⟩
  refine wpAnyL_of_G (G := Gr) fuel listed a w Hm (fun j hj => ?_) ?_
  · have hlt : j < ops.size := by
      rcases Nat.lt_or_ge j listed.size with h' | h'
      · omega
      · simp [Array.getElem?_eq_none h'] at hj
    have h1 := List.all_eq_true.1 hl j (List.mem_range.2 hlt)
    rw [hj, Bool.false_or] at h1
    exact h1
  have hsp : HeapOk (Own F Hr) Hm w := hr1.heap.split hs
  have hrel : Rel (Own F Hr) (Hb Hm) w n env Hm a w :=
    ⟨fun i d hi => by obtain ⟨v, h1, h2⟩ := hr1.env i d hi; exact ⟨v, h1, h2.iff (fun b hb => (hs.own b).1 hb)⟩, hsp, Fr.refl _ _, fun b hb => .inl hb, hsp.frb, hr1.dfr, hr1.tsz⟩
  refine h.out _ _ _ a _ hrel (fun o ho => ⟨fun b hb => .inr (mem_Hb ho hb), (hr1.heap.holds o ((hs.mem o).2 (.inr ho))).iff (fun b hb => (hs.own b).1 hb)⟩) _ hQp (fun env' H' a' w' hk hr' => ?_)
  refine hQ env' (H' ++ Hr) a' w' hk ?_
  have hj := hr1.heap.join hs hr'.heap hr'.fr hr'.mine
  refine ⟨fun i d hi => by obtain ⟨v, h1, h2⟩ := hr'.env i d hi; exact ⟨v, h1, h2.iff (fun b hb => (own_append b).1 hb)⟩, hj, hr1.fr.trans hr'.fr (fun b hb => hr1.mine b ((hs.hb b).2 (.inl hb))), fun b hb => ?_, hr1.f0, hr'.dfr, hr'.tsz⟩
  simp only [Hb, List.filterMap_append, List.mem_append] at hb
  rcases hb with hb | hb
  · rcases hr'.mine b hb with h' | h'
    · exact hr1.mine b ((hs.hb b).2 (.inl h'))
    · exact .inr (Nat.le_trans hr1.fr.size h')
  · exact hr1.mine b ((hs.hb b).2 (.inr hb))
variable {Q : Exit → Env → Heap → Prop}
theorem awp_draw2 {id : Nat} {l : List Oper} (B : Nat → Bool) (hmix : P.follows .mixedOrders = true)
    (h : AAny2 B P n l.toArray l.toArray.size (Array.replicate l.toArray.size false) env H (fun env' H' => Q .normal env' H')) : AWp P n (.region id l.toArray true) env H Q := by
  refine ⟨fun F M w0 a w hr => ?_⟩
  refine Code.wp_mono (Q := fun e a' w' => e = .normal ∧ ∃ env' H', Q .normal env' H' ∧ Rel F M w0 n env' H' a' w') (fun e a w ⟨he, h⟩ => by subst he; exact h) ?_
  refine wp_region_any hmix (wpAny_of_L (B := B) _ _ _ _ ?_)
  exact h.out _ _ _ a _ hr.drew _ (fun c a w a' w' ⟨q, _⟩ => by cases q) (fun env' H' a' w' hk hr' => ⟨rfl, env', H', hk, hr'⟩)
end
end Go.Av
namespace Go.Av
open Go Go.Maps Go.RowKit Go.MapKept
set_option linter.unusedVariables false
set_option linter.unusedSimpArgs false
section
variable {P : Program} {n : Nat} {env : Env} {H : Heap} {dst : Option Tmp} {ty : TypeId} {pos : String} {after : Array Edge} {x y z : Operand}
theorem aops_makeMap {ops : Array Oper} {rest : List Oper} {K : Env → Heap → Prop} {mt : TypeId} {t : Tmp} (hd : dst = some t) (hn : Nat.blt t n = true)
    (hk : ∀ b, AOps P n ops rest ((t, .v (.map (some b))) :: env) (.mp b true :: H) K) : AOps P n ops (⟨dst, .makeMap mt none, ty, pos, after, none⟩ :: rest) env H K := by
  refine aops_step rfl ⟨fun F M w0 a w hr Kc Q hK => ?_⟩
  have hr1 := hr.add (o' := .mp w.heap.size true) (Fr.alloc w (.map #[] 0))
    (fun O' hO => ⟨#[], 0, heap_alloc_new w _, fun _ => ⟨rfl, rfl⟩⟩)
    (fun b hb => by simp only [Ob.blk, Option.some.injEq] at hb; omega)
  unfold Oper.wp
  simp only [execOp, Option.map_none, run_makeMap, Sem.run_bind, Result.andThen_ok, Sem.run_pure, Oper.upon_value, hd]
  exact hK _ _ _ _ (hk w.heap.size) (hr1.put (by simp [Rep]) (by simpa [Nat.blt_eq] using hn))
theorem wf64 {q : Int} (hq : -9223372036854775808 ≤ q ∧ q ≤ 9223372036854775807) : (Lit.int .i64 q).wf = true := by
  simp [Lit.wf, IntKind.min, IntKind.bits, IntKind.signed]
  exact hq
theorem owns0 {k : TypeId} {R : Value → Option (DataW Unit × List MemPlace)} {w : World} {b : Nat} (h : w.heap[b]? = some (.map #[] 0)) : w.ownsMap P k R b 0 (.map []) :=
  ⟨#[], 0, h, ⟨by simp, stamped_empty 0, by simp⟩, Nat.le_refl _, rfl⟩
/-- An int is not there in an empty map of ints. -/
theorem aops_lookup0 {ops : Array Oper} {rest : List Oper} {K : Env → Heap → Prop} {mt kt e : TypeId} {t : Tmp} {b : Nat} {q : Int} {f} (hx : opd env x = some (.v (.map (some b)))) (hy : opd env y = some (.i q)) (hq : -9223372036854775808 ≤ q ∧ q ≤ 9223372036854775807)
    (hH : UpdF H (.mp b true) f) (ht : P.underlying mt = some (.map kt e)) (hkt : P.underlying kt = some (.int .i64)) (he : P.underlying e = some (.int .i64)) (hz : ∀ w, (zeroValue e).run P w = .ok (.int .i64 0) w)
    (hd : dst = some t) (hn : Nat.blt t n = true) (hk : AOps P n ops rest ((t, .tup [.i 0, .b false]) :: env) H K) : AOps P n ops (⟨dst, .lookup mt x y true, ty, pos, after, none⟩ :: rest) env H K := by
  refine aops_step rfl ⟨fun F M w0 a w hr Kc Q hK => ?_⟩
  have h1 := hr.opdv hx
  have h2 := hr.opdv hy
  obtain ⟨i, hi, _⟩ := hH.set
  obtain ⟨es, clock, h3, h4⟩ := hr.heap.holds _ (List.mem_of_getElem? hi)
  obtain ⟨rfl, rfl⟩ := h4 rfl
  have hw : (Lit.int .i64 q).wf = true := wf64 hq
  obtain ⟨v, ps, hrun, hv⟩ := (owns0 (P := P) (k := kt) (R := plainElem P e) h3).look_ok (int_keyed hkt) ht (hz w) (plainElem_int he (by decide)) (key := .int .i64 q) (keyOf_int_mk hkt hw)
  obtain ⟨c, rfl, hc, _⟩ := plainElem_int_inv he hv
  have e0 : c = 0 := by
    simp [DataW.atKey] at hc
    exact hc.1.symm
  subst e0
  have ef : Maps.has (H := Unit) (.map []) (.int .i64 q) = false := rfl
  rw [ef] at hrun
  unfold Oper.wp
  simp only [execOp, h1, h2, hrun, Sem.run_bind, Result.andThen_ok, Sem.run_pure, Oper.upon_value, hd]
  exact hK _ _ _ _ hk (hr.put (by simp [Rep, RepT]) (by simpa [Nat.blt_eq] using hn))
/-- It is written once. -/
theorem aops_mapUpdate0 {ops : Array Oper} {rest : List Oper} {K : Env → Heap → Prop} {mt kt e : TypeId} {b : Nat} {q r : Int} {f} (hx : opd env x = some (.v (.map (some b)))) (hy : opd env y = some (.i q)) (hz : opd env z = some (.i r)) (hq : -9223372036854775808 ≤ q ∧ q ≤ 9223372036854775807) (hr0 : -9223372036854775808 ≤ r ∧ r ≤ 9223372036854775807)
    (hH : UpdF H (.mp b true) f) (ht : P.underlying mt = some (.map kt e)) (hkt : P.underlying kt = some (.int .i64)) (he : P.underlying e = some (.int .i64))
    (hk : AOps P n ops rest env (f (.mp b false)) K) : AOps P n ops (⟨none, .mapUpdate mt x y z, ty, pos, after, none⟩ :: rest) env H K := by
  refine aops_step rfl ⟨fun F M w0 a w hr Kc Q hK => ?_⟩
  have h1 := hr.opdv hx
  have h2 := hr.opdv hy
  have h5 := hr.opdv hz
  obtain ⟨i, hi, hf⟩ := hH.set
  obtain ⟨es, clock, h3, h4⟩ := hr.heap.holds _ (List.mem_of_getElem? hi)
  obtain ⟨rfl, rfl⟩ := h4 rfl
  have hw : (Lit.int .i64 q).wf = true := wf64 hq
  have hw2 : (Lit.int .i64 r).wf = true := wf64 hr0
  obtain ⟨w', hrun, hown, hturn⟩ := (owns0 (P := P) (k := kt) (R := plainElem P e) h3).store (int_keyed hkt) ht (by unfold maxLen; omega) (key := .int .i64 q) (keyOf_int_mk hkt hw) (plainElem_int he hw2)
  have hg := hturn.grown
  have hfr : Fr [b] w w' := Fr.grown hg
  have hr1 := hr.upd (o' := .mp b false) hi hfr (fun O' hO => by
    obtain ⟨es', k', q1, _⟩ := hown
    exact ⟨es', k', q1, fun h => by cases h⟩) (.inl rfl)
  rw [← hf] at hr1
  unfold Oper.wp
  simp only [execOp, h1, h2, h5, hrun, Sem.run_bind, Result.andThen_ok, Sem.run_pure, Oper.upon_value, Oper.upon]
  exact hK _ _ _ _ hk hr1
end
end Go.Av
namespace Go.Av
open Go
set_option linter.unusedVariables false
theorem RepT.lend {w : World} {O O' : Nat → Prop} (h : ∀ b, O' b → O b) {v : Value} {d : D} (hd : Rep w O' d v) {post : List D} : ∀ {pre : List D} {vs : List Value}, RepT w O (pre ++ .v v :: post) vs → RepT w O' (pre ++ d :: post) vs
  | [], vs, hr => by
    simp only [List.nil_append, RepT] at hr ⊢
    obtain ⟨c, cr, rfl, h2, h4⟩ := hr
    simp only [Rep] at h2
    subst h2
    exact ⟨c, cr, rfl, hd, h4.iff h⟩
  | x :: r, vs, hr => by
    simp only [List.cons_append, RepT] at hr ⊢
    obtain ⟨c, cr, rfl, h2, h4⟩ := hr
    exact ⟨c, cr, rfl, h2.iff h, RepT.lend h hd h4⟩
theorem Con.borrow {P : Program} {f : FuncId} {pre post : List D} {v : Value} {ety sz : Nat} {l : List D} {R : D → Heap → Prop} (h : Con P f (pre ++ .sl sz l :: post) [] R) (hsc : ∀ d H', R d H' → (∃ x, d = .v x) ∧ H' = []) :
    Con P f (pre ++ .v v :: post) [.arr v ety sz l] (fun d H' => R d [] ∧ H' = [.arr v ety sz l]) := by
  refine ⟨h.enter, fun F w vs hok hrep => ?_⟩
  have ho := hok.holds _ (List.mem_cons_self ..)
  have hok0 : HeapOk F [] w := ⟨by simp, by simp [Hb], by simp [Hb], hok.frb⟩
  have hsub : ∀ b, Own F [] b → Own F [.arr v ety sz l] b := fun b hb => by
    rcases hb with hb | hb
    · exact .inl hb
    · simp [Hb] at hb
  have hv : Rep w (Own F []) (.sl sz l) v := by
    obtain ⟨hsz, hlb, xs, hown, hE⟩ := ho
    simp only [Rep]
    refine ⟨hlb, xs, RepE.mono (fun b _ hb' => ⟨fun h => hb' (hsub b h), rfl⟩) _ _ _ hE, ?_⟩
    rcases hown.2 with ⟨h1, h2⟩ | ⟨g, cap, cur, h1, h3, h4, h5, h6, h7, h8⟩
    · exact .inr ⟨h1, List.eq_nil_of_length_eq_zero h2⟩
    · refine .inl ⟨⟨g, 0, none⟩, cap, h1, h5, .inr ⟨fun hO => ?_, rfl, fun j c hj => ?_⟩⟩
      · have hg : (Ob.arr v ety sz l).blk = some g := by simp [Ob.blk, h1, Value.ownBlock]
        rcases hO with hF | hm
        · exact hok.disj g (mem_Hb (List.mem_cons_self ..) hg) hF
        · simp [Hb] at hm
      · rw [← h8, List.getElem?_take] at hj
        split at hj
        · rw [cell_of_row w g _ cur ety (0, 0) h4]; simpa using hj
        · cases hj
  refine (h.run F w vs hok0 (RepT.lend hsub hv hrep)).mono fun e w' ⟨u, d, H', q1, q2, q3, q4, q5, q6⟩ => ?_
  obtain ⟨⟨x, rfl⟩, rfl⟩ := hsc d H' q2
  have q5' : Fr (Hb [.arr v ety sz l]) w w' := q5.weaken (by simp [Hb])
  refine ⟨u, .v x, [.arr v ety sz l], q1, ⟨q2, rfl⟩, by simpa [Rep] using q3, ⟨fun o ho' => ?_, hok.nodup, hok.disj, fun b hb => Nat.lt_of_lt_of_le (hok.frb b hb) q5.size⟩, q5', fun b hb => .inl hb⟩
  have e' := List.mem_singleton.1 ho'
  subst e'
  exact ho.mono (fun b hb hO => ⟨hO, q5.block b hb (by simp [Hb])⟩) (fun b hb => q5.block b (ho.blk_lt hb) (by simp [Hb]))
section
variable {P : Program} {n : Nat} {env : Env} {H Hr : Heap} {dst : Option Tmp} {ty : TypeId} {pos : String} {after : Array Edge} {gd : Option (Nat × Bool)} {x y : Operand}
/-- What lies in memory at a part of an element of a slice that the region leaves alone. -/
theorem own_partH {w : World} {O : Nat → Prop} {g k off len cap ety sz l r nn q} (ho : (Ob.arr (.slice (some ⟨g, 0, none⟩) len cap) ety sz l).Holds w O) (hd : l[k]? = some (.agg r)) (hs : SubL r off nn q) :
    ∃ (cur : Array Value) (us : List Value), w.heap[g]? = some (.cells cur ety (0, 0)) ∧ RepL w O q us ∧ us.length = nn ∧ ∀ j u, us[j]? = some u → cur[k * sz + off + j]? = some u := by
  obtain ⟨_, _, xs, hown, hE⟩ := ho
  obtain ⟨c, g1, g2, g3, g4, g5⟩ := RepE.cells hE hd
  rcases hown.2 with ⟨hv, _⟩ | ⟨g', cap', cur, hv, h3, h4, h5, h6, h7, h8⟩
  · cases hv
  · simp only [Value.slice.injEq, Option.some.injEq, Addr.mk.injEq] at hv
    obtain ⟨⟨rfl, _, _⟩, _, _⟩ := hv
    simp only [Rep] at g4
    obtain ⟨vs, rfl, hvs⟩ := g4
    obtain ⟨q1, q2⟩ := hs.eq
    have hlen := hvs.length
    have hcl : (Value.agg vs.toArray).cells.toList = vs := by simp [Value.cells]
    rw [hcl] at g1 g3
    refine ⟨cur, (vs.drop off).take nn, h4, by rw [q1]; exact (hvs.drop off).take nn, by simp; omega, fun j u hu => ?_⟩
    rw [List.getElem?_take] at hu
    split at hu
    · rw [List.getElem?_drop, g1, List.getElem?_take] at hu
      split at hu
      · rw [List.getElem?_drop, ← h8, List.getElem?_take] at hu
        split at hu
        · rw [← hu]
          simp only [Array.getElem?_toList]
          congr 1
          omega
        · cases hu
      · cases hu
    · cases hu
theorem ar_load_ownF {t g k off len cap ety sz l r q f nn} (hx : opd env x = some (.p g (k * sz + off))) (hk : UpdF Hr (.arr (.slice (some ⟨g, 0, none⟩) len cap) ety sz l) f) (hg : tagg P t = some true) (hn : tsize P t = some nn) (hd : l[k]? = some (.agg r)) (hs : SubL r off nn q) :
    AR P n Hr ⟨dst, .load t x, ty, pos, after, gd⟩ env H (.agg q) := by
  refine ⟨fun F M w0 a w hr' hrest => ?_⟩
  have h1 := hr'.opdv hx
  obtain ⟨hm, ho⟩ := hrest.mem hr'.heap hk rfl
  obtain ⟨cur, us, h4, h5, h6, h7⟩ := own_partH ho hd hs
  refine ⟨.agg us.toArray, by simp only [Rep]; exact ⟨_, rfl, h5⟩, fun w' hw => ?_⟩
  have hb : w'.heap[g]? = some (.cells cur ety (0, 0)) := by rw [hw g (Array.getElem?_eq_some_iff.1 h4).1 hm]; exact h4
  have hl := run_loadCells_list (P := P) w' ⟨g, k * sz + off, none⟩ us (fun j u hu => by
    rw [addr_add, cell_of_row w' g _ cur ety (0, 0) hb]
    exact h7 j u hu)
  rw [h6] at hl
  simp [execOp, h1, Instr.loadAt, Instr.sureAddr, loadVar, run_isAgg hg, run_sizeOf hn, hl]
end
end Go.Av
namespace Go.Av
open Go
set_option linter.unusedVariables false
set_option linter.unusedSimpArgs false
section
variable {P : Program} {n : Nat} {env : Env} {H : Heap} {dst : Option Tmp} {ty : TypeId} {pos : String} {after : Array Edge} {gd : Option (Nat × Bool)} {x y z : Operand} {ops : Array Oper} {rest : List Oper}
/-- The beginning of a slice, by its value alone. -/
theorem ap_slice_val_to {t e g off len cap k} {j : Int} {sz : Nat} (hx : opd env x = some (.v (.slice (some ⟨g, off, none⟩) len cap))) (hy : opd env y = some (.i j)) (ht : telem P t = some e) (hs : tsize P e = some sz) (hj : j = ((k : Nat) : Int)) (hk : k ≤ cap) :
    AP P n ⟨dst, .slice t x none (some y) none, ty, pos, after, gd⟩ env H (.v (.slice (some ⟨g, off, none⟩) k cap)) := by
  refine ⟨fun F M w0 a w hr => ?_⟩
  have h1 := hr.opdv hx
  have h2 := hr.opdv hy
  subst hj
  refine ⟨.slice (some ⟨g, off, none⟩) k cap, by simp only [Rep], fun w' => ?_⟩
  have hi : (0 : Int) ≤ (k : Int) ∧ (k : Int) ≤ (cap : Int) := by omega
  simp [execOp, h1, h2, Instr.sliceAt, Instr.slice, run_underlying (telem_under ht), Instr.sliceBounds, Instr.sliceBound, asIntOf, hi, hk, Nat.not_lt.2 hk, run_sizeOf hs, Addr.add]
/-- The end of a slice is cleared: only its beginning is kept. -/
theorem aops_clear_cut {t e sz g len cap ety l f k us K} (hx : opd env x = some (.v (.slice (some ⟨g, cutAt cap k sz, none⟩) (len - k) (cap - k)))) (hk : UpdF H (.arr (.slice (some ⟨g, 0, none⟩) len cap) ety sz l) f) (ht : telem P t = some e) (hz : tzero P e = some us) (hus : us.length = sz) (h1c : ∀ u ∈ us, u.oneCell' = true) (hkl : k < l.length)
    (h : AOps P n ops rest env (f (.arr (.slice (some ⟨g, 0, none⟩) k cap) ety sz (l.take k))) K) : AOps P n ops (⟨none, .call { callee := .builtin .clear, args := #[x], argTypes := #[t] }, ty, pos, after, none⟩ :: rest) env H K := by
  refine aops_step rfl ⟨fun F M w0 a w hr Kc Q hK => ?_⟩
  have h1 := hr.opdv hx
  obtain ⟨kk, hk1, hk2⟩ := hk.set
  obtain ⟨hsz, hlb, xs, hown, hE⟩ := hr.heap.holds _ hk.mem
  rcases hown.2 with ⟨hv, _⟩ | ⟨g', cap', cur, hv, h3, h4, h5, h6, h7, h8⟩
  · cases hv
  · simp only [Value.slice.injEq, Option.some.injEq, Addr.mk.injEq] at hv
    obtain ⟨⟨rfl, _, _⟩, rfl, rfl⟩ := hv
    have hlen := hE.len
    have hck : ¬ cap = k := by omega
    obtain ⟨zv, hz1, hz2⟩ := tzero_spec hz w
    obtain ⟨zs, hzs⟩ : ∃ zs, zs = (Builtin.zeroCells zv.cells (l.length - k)).toList := ⟨_, rfl⟩
    have hzl : zs.length = (l.length - k) * sz := by
      rw [hzs, hz2]
      simp [Builtin.zeroCells, hus]
    have hone : ∀ u ∈ zs, u.oneCell' = true := by
      intro u hu
      rw [hzs, hz2] at hu
      simp only [Builtin.zeroCells, Array.toList_map, List.mem_map] at hu
      obtain ⟨i, hi, rfl⟩ := hu
      have hi2 : i < (l.length - k) * us.length := by simpa using hi
      have hpos : 0 < us.length := by
        rcases Nat.eq_zero_or_pos us.length with h0 | h0
        · rw [h0] at hi2; simp at hi2
        · exact h0
      have hlt : i % us.toArray.size < us.toArray.size := by simpa using Nat.mod_lt _ hpos
      rw [getElem!_pos us.toArray _ hlt]
      simp only [List.getElem_toArray]
      exact h1c _ (List.getElem_mem _)
    have hrun0 := run_storeCells_at P g (k * sz) ety zs 0 cur w h4 (by
      have hm := Nat.mul_le_mul_right sz h5
      have e1 : k * sz + (l.length - k) * sz = l.length * sz := by rw [← Nat.add_mul]; congr 1; omega
      omega) hone
    simp only [Nat.add_zero] at hrun0
    have hcl : cur.toList.length = cur.size := Array.length_toList
    have hfit : k * sz + zs.length ≤ cur.toList.length := by
      have hm := Nat.mul_le_mul_right sz h5
      have e1 : k * sz + (l.length - k) * sz = l.length * sz := by rw [← Nat.add_mul]; congr 1; omega
      omega
    have hA : (cur.toList.take (k * sz)).length = k * sz := by rw [List.length_take]; omega
    have hnew : ((cur.toList.take (k * sz) ++ zs ++ cur.toList.drop (k * sz + zs.length)).take (k * sz)) = xs.take (k * sz) := by
      rw [List.append_assoc, List.take_append_of_le_length (by omega), List.take_take, Nat.min_self, ← h8, List.take_take, Nat.min_eq_left (Nat.mul_le_mul_right _ (by omega))]
    have hsize : (cur.toList.take (k * sz) ++ zs ++ cur.toList.drop (k * sz + zs.length)).length = cur.size := by
      rw [List.length_append, List.length_append, hA, List.length_drop]; omega
    have htk : (l.take k).length = k := by simp; omega
    have hr1 := hr.upd (o' := .arr (.slice (some ⟨g, 0, none⟩) k cap) ety sz (l.take k)) hk1 (Fr.setRow w g (cur.toList.take (k * sz) ++ zs ++ cur.toList.drop (k * sz + zs.length)).toArray)
      (fun O' hO => by
        have hm' : ∀ bb, bb < w.heap.size → ¬ Own F H bb → ¬ O' bb ∧ (w.setRow g (cur.toList.take (k * sz) ++ zs ++ cur.toList.drop (k * sz + zs.length)).toArray).heap[bb]? = w.heap[bb]? := fun bb hb hb' =>
          ⟨hO bb hb hb', setRow_other w g bb _ (fun e => hb' (.inr (mem_Hb hk.mem (by simp [Ob.blk, Value.ownBlock, e]))))⟩
        have hE1 := (RepE.mono hm' _ _ _ hE).take k
        rw [← hnew] at hE1
        refine ⟨hsz, by rw [htk]; omega, _, ⟨by rw [List.length_take, hsize, htk]; rw [Nat.min_eq_left]; omega, .inr ⟨g, cap, _, by rw [htk], Nat.zero_le _, setRow_heap w g cur _ ety _ h4, by rw [htk]; omega, h6, ?_, ?_⟩⟩, hE1⟩
        · rw [List.size_toArray, hsize]; exact h7
        · rw [htk])
      (.inl rfl)
    have hrun : (Builtin.clear_ #[t] ty #[.slice (some ⟨g, cutAt cap k sz, none⟩) (l.length - k) (cap - k)]).run P w = .ok (.tuple #[]) (w.setRow g (cur.toList.take (k * sz) ++ zs ++ cur.toList.drop (k * sz + zs.length)).toArray) := by
      unfold cutAt
      rw [if_neg hck]
      obtain ⟨q, hq⟩ : ∃ q, l.length - k = q + 1 := ⟨l.length - k - 1, by omega⟩
      rw [hq] at hzs ⊢
      simp [Builtin.clear_, run_underlying (telem_under ht), hz1, ← hzs, hrun0]
    generalize (w.setRow g (cur.toList.take (k * sz) ++ zs ++ cur.toList.drop (k * sz + zs.length)).toArray) = W at hrun hr1
    unfold Oper.wp
    simp [execOp, resolve, invoke, builtin, h1, hrun, Result.andThen]
    rw [← hk2] at hr1
    exact hK _ _ _ _ h hr1
/-- A byte of a string. -/
theorem aops_index_str {K : Env → Heap → Prop} {t : TypeId} {d : Tmp} {s : ByteArray} {k : Nat} {kk : IntKind} {j : Int} (hx : opd env x = some (.v (.string s))) (hy : opd env y = some (.v (.int kk j))) (ht : P.underlying t = some .string) (hj : j = (k : Int)) (hk : k < s.size) (hd : dst = some d) (hn : Nat.blt d n = true)
    (h : ∀ c : UInt8, s[k]? = some c → AOps P n ops rest ((d, .v (.int .u8 (c.toNat : Int))) :: env) H K) : AOps P n ops (⟨dst, .index t x y, ty, pos, after, none⟩ :: rest) env H K := by
  refine aops_step rfl ⟨fun F M w0 a w hr Kc Q hK => ?_⟩
  have h1 := hr.opdv hx
  have h2 := hr.opdv hy
  subst hj
  have hc : s[k]? = some s[k] := getElem?_pos s k hk
  have hrun : (execOp a.eval ⟨dst, .index t x y, ty, pos, after, none⟩).run P w = .ok (.value (.int .u8 (s[k].toNat : Int))) w := by
    simp [execOp, h1, h2, Instr.index, asIntOf, run_underlying ht, hc]
  unfold Oper.wp
  rw [hrun, Oper.upon_value, hd]
  exact hK _ _ _ _ (h _ hc) (hr.put (by simp [Rep]) (by simpa [Nat.blt_eq] using hn))
/-- The end of a string. -/
theorem ap_slice_str_from {t : TypeId} {s : ByteArray} {k : Nat} {j : Int} (hx : opd env x = some (.v (.string s))) (hy : opd env y = some (.i j)) (ht : P.underlying t = some .string) (hj : j = (k : Int)) (hk : k ≤ s.size) :
    AP P n ⟨dst, .slice t x (some y) none none, ty, pos, after, gd⟩ env H (.v (.string (s.extract k s.size))) := by
  refine ⟨fun F M w0 a w hr => ?_⟩
  have h1 := hr.opdv hx
  have h2 := hr.opdv hy
  subst hj
  refine ⟨.string (s.extract k s.size), by simp only [Rep], fun w' => ?_⟩
  have hi : (0 : Int) ≤ (k : Int) ∧ (k : Int) ≤ (s.size : Int) := by omega
  simp [execOp, h1, h2, Instr.sliceAt, Instr.slice, run_underlying ht, Instr.sliceBounds, Instr.sliceBound, asIntOf, hi, hk, Nat.not_lt.2 hk]
theorem ap_slice_str_to {t : TypeId} {s : ByteArray} {k : Nat} {j : Int} (hx : opd env x = some (.v (.string s))) (hy : opd env y = some (.i j)) (ht : P.underlying t = some .string) (hj : j = (k : Int)) (hk : k ≤ s.size) :
    AP P n ⟨dst, .slice t x none (some y) none, ty, pos, after, gd⟩ env H (.v (.string (s.extract 0 k))) := by
  refine ⟨fun F M w0 a w hr => ?_⟩
  have h1 := hr.opdv hx
  have h2 := hr.opdv hy
  subst hj
  refine ⟨.string (s.extract 0 k), by simp only [Rep], fun w' => ?_⟩
  have hi : (0 : Int) ≤ (k : Int) ∧ (k : Int) ≤ (s.size : Int) := by omega
  simp [execOp, h1, h2, Instr.sliceAt, Instr.slice, run_underlying ht, Instr.sliceBounds, Instr.sliceBound, asIntOf, hi, hk, Nat.not_lt.2 hk]
end
end Go.Av
namespace Go.Av
open Go
set_option linter.unusedVariables false
set_option linter.unusedSimpArgs false
section
variable {P : Program} {n : Nat} {env : Env} {H : Heap} {dst : Option Tmp} {ty : TypeId} {pos : String} {after : Array Edge} {gd : Option (Nat × Bool)} {x y z : Operand} {ops : Array Oper} {rest : List Oper}
theorem run_append_zeros {P : Program} (w : World) (t ti ty e : TypeId) (i : TypeInfo) (zv : Value) (ht : P.underlying t = some (.slice e)) (hti : P.underlying ti = some (.int .i64)) (hi : P.info? e = some i) (hz : i.zero = some zv) (m : Nat) (h0 : 0 < m) (h63 : (m : Int) ≤ 9223372036854775807) (h48 : m * i.bytes ≤ 281474976710656) (hs : 0 < i.size) :
    (Builtin.append_ #[t, ti] ty #[.slice none 0 0, .int .i64 (m : Int)]).run P w =
      .ok (.slice (some ⟨w.heap.size, 0, none⟩) m (grownCap w m 0 e)) (w.drew.alloc (.cells (Builtin.zeroCells zv.cells m ++ Builtin.zeroCells zv.cells (grownCap w m 0 e - m)) e)) := by
  have hn : m ≠ 0 := by omega
  have h63' : ¬ (9223372036854775807 < (m : Int)) := by omega
  have h48' : ¬ (281474976710656 < Builtin.nextslicecap m 0 * i.bytes) := by rw [nextslicecap_zero h0]; omega
  have hw : IntKind.i64.wrap (m : Int) = m := wrap_id (by omega) (by omega)
  have hl0 : ¬ ((m : Int) < 0) := by omega
  have hl1 : ¬ ((281474976710656 : Int) < (m : Int) * (i.bytes : Int)) := by
    have e1 : (m : Int) * (i.bytes : Int) = ((m * i.bytes : Nat) : Int) := by push_cast; rfl
    rw [e1]; omega
  have hns : ¬ (m * i.size = 0) := by
    have := Nat.mul_pos h0 hs; omega
  simp [Builtin.append_, run_underlying ht, run_underlying hti, sizeOf, typeInfo, zeroValue, hi, hz, asInt, asIntOf, hw, hl0, hl1, hn, h63', h48', Question.forced, run_firstCells_none, newRow, grownCap, hns, Int.toNat_natCast]
  first
  | done
  | (intro h; omega)
theorem aops_grow0 {K : Env → Heap → Prop} {t ti e sz by_ : Nat} {m : Nat} {d : Tmp} (hx : opd env x = some .nil) (hy : opd env y = some (.i (m : Int))) (ht : telem P t = some e) (hti : P.underlying ti = some (.int .i64)) (hi : tinfo P e = some (sz, by_)) (hd : dst = some d) (hn : Nat.blt d n = true) (h0 : 0 < m) (hsz : Nat.blt 0 sz = true) (hb : m * by_ ≤ capB ∧ m ≤ capB)
    (h : ∀ g cap, m ≤ cap → AOps P n ops rest ((d, .v (.slice (some ⟨g, 0, none⟩) m cap)) :: env) (.arr (.slice (some ⟨g, 0, none⟩) 0 cap) e sz [] :: H) K) :
    AOps P n ops (⟨dst, .call { callee := .builtin .append, args := #[x, y], argTypes := #[t, ti] }, ty, pos, after, none⟩ :: rest) env H K := by
  refine aops_step rfl ⟨fun F M w0 a w hr Kc Q hK => ?_⟩
  have h1 := hr.opdv hx
  have h2 := hr.opdv hy
  obtain ⟨i, zv, hi1, hi2, rfl, rfl, hzs, _⟩ := tinfo_spec hi
  have hsz' : 0 < i.size := by simpa [Nat.blt_eq] using hsz
  unfold capB at hb
  have hrun := run_append_zeros (P := P) w t ti ty e i zv (telem_under ht) hti hi1 hi2 m h0 (by omega) (by omega) hsz'
  have hge := grownCap_ge w m 0 e
  have hcm := grownCap_le_maxLen w m 0 e (by unfold maxLen; omega)
  have hr1 := hr.add (o' := .arr (.slice (some ⟨w.heap.size, 0, none⟩) 0 (grownCap w m 0 e)) e i.size []) (w1 := w.drew.alloc (.cells (Builtin.zeroCells zv.cells m ++ Builtin.zeroCells zv.cells (grownCap w m 0 e - m)) e))
    ⟨rfl, rfl, rfl, by simp, fun k hk _ => heap_alloc_old w.drew _ k hk⟩
    (fun O' hO => ⟨hsz', by unfold capB; simp, [], ⟨by simp, .inr ⟨w.heap.size, _, _, rfl, Nat.zero_le _, heap_alloc_new w.drew _, Nat.zero_le _, hcm, by
      rw [Array.size_append, size_zeroCells, size_zeroCells, hzs, ← Nat.add_mul]
      congr 1
      omega, by simp⟩⟩, by simp [RepE]⟩)
    (fun b hb => by simp only [Ob.blk, Value.ownBlock, Option.some.injEq] at hb; omega)
  unfold Oper.wp
  have e1 : (execOp a.eval ⟨dst, .call { callee := .builtin .append, args := #[x, y], argTypes := #[t, ti] }, ty, pos, after, none⟩) = (do pure (.value (← Builtin.append_ #[t, ti] ty #[a.eval x, a.eval y]))) := by
    simp [execOp, resolve, invoke, builtin]
  rw [e1, Sem.run_bind, h1, h2, hrun, Result.andThen_ok, Sem.run_pure, Oper.upon_value, hd]
  exact hK _ _ _ _ (h w.heap.size (grownCap w m 0 e) hge) (hr1.put (by simp [Rep]) (by simpa [Nat.blt_eq] using hn))
theorem ap_cap_nil {t : TypeId} {e : TypeId} (hx : opd env x = some .nil) (ht : telem P t = some e) : AP P n ⟨dst, .call { callee := .builtin .cap, args := #[x], argTypes := #[t] }, ty, pos, after, gd⟩ env H (.i 0) := by
  refine ⟨fun F M w0 a w hr => ?_⟩
  have h1 := hr.opdv hx
  refine ⟨.int .i64 0, by simp [Rep], fun w' => ?_⟩
  simp [execOp, resolve, invoke, builtin, h1, Builtin.cap_, run_underlying (telem_under ht), goInt]
/-- The beginning of no slice. -/
theorem ap_slice_nil_to {t e : TypeId} {sz : Nat} {j : Int} (hx : opd env x = some .nil) (hy : opd env y = some (.i j)) (ht : telem P t = some e) (hs : tsize P e = some sz) (hj : j = 0) :
    AP P n ⟨dst, .slice t x none (some y) none, ty, pos, after, gd⟩ env H .nil := by
  refine ⟨fun F M w0 a w hr => ?_⟩
  have h1 := hr.opdv hx
  have h2 := hr.opdv hy
  subst hj
  refine ⟨.slice none 0 0, by simp only [Rep], fun w' => ?_⟩
  simp [execOp, h1, h2, Instr.sliceAt, Instr.slice, run_underlying (telem_under ht), Instr.sliceBounds, Instr.sliceBound, asIntOf, run_sizeOf hs, Addr.add]
end
end Go.Av
