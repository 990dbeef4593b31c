/- Rules for walking through the model's code over a symbolic state: what a function is called with, what it owns, what it answers. No condition beyond what each rule says. -/
import Derived.Test.YtgmpjpaekpefdaaGreatAv
import Derived.Laws.OwnMore
import Derived.Laws.Strings
import Derived.Laws.StructEq
import Derived.Conc.Own2
import Derived.Conc.SmallLaws
import Derived.Below
namespace Go.Av
open Go
set_option linter.unusedVariables false
variable {κ : Kind}
set_option linter.unusedSimpArgs false
theorem splice_in {α : Type} {cs us : List α} {p o sz : Nat} (h1 : o + us.length ≤ sz) (h2 : p + sz ≤ cs.length) :
    cs.take (p + o) ++ us ++ cs.drop (p + o + us.length) = cs.take p ++ (((cs.drop p).take sz).take o ++ us ++ ((cs.drop p).take sz).drop (o + us.length)) ++ cs.drop (p + sz) := by
  have e1 : cs.take (p + o) = cs.take p ++ (cs.drop p).take o := List.take_add ..
  have e2 : ((cs.drop p).take sz).take o = (cs.drop p).take o := by rw [List.take_take]; congr 1; omega
  have hl : ((cs.drop p).take sz).length = sz := by simp; omega
  have e3 : cs.drop (p + o + us.length) = ((cs.drop p).take sz).drop (o + us.length) ++ cs.drop (p + sz) := by
    have h3 : cs.drop p = (cs.drop p).take sz ++ (cs.drop p).drop sz := (List.take_append_drop _ _).symm
    have h4 : cs.drop (p + o + us.length) = (cs.drop p).drop (o + us.length) := by rw [List.drop_drop]; congr 1; omega
    rw [h4]
    have h5 : ((cs.drop p).take sz ++ (cs.drop p).drop sz).drop (o + us.length) = ((cs.drop p).take sz).drop (o + us.length) ++ (cs.drop p).drop sz := by
      rw [List.drop_append, show o + us.length - ((cs.drop p).take sz).length = 0 from by omega, List.drop_zero]
    rw [← h3] at h5
    rw [h5, List.drop_drop]
  rw [e1, e2, e3]
  simp only [List.append_assoc]
section
variable {w : World} {O : Nat → Prop}
/-- An element anew. -/
theorem RepE.setN {sz : Nat} : ∀ {l : List D} {cs : List Value} {k : Nat} {d0 d : D} {c : Value}, RepE w O sz l cs → l[k]? = some d0 → c.cells.size = sz → (∀ u ∈ c.cells.toList, u.oneCell' = true) → Rep w O d c →
    RepE w O sz (l.set k d) (cs.take (k * sz) ++ c.cells.toList ++ cs.drop (k * sz + sz))
  | [], cs, k, d0, d, c, h, hk, _, _, _ => by simp at hk
  | e :: r, cs, k, d0, d, c, h, hk, h1, h2, h3 => by
    simp only [RepE] at h
    obtain ⟨c', cr, rfl, g2, g3, g4, g5⟩ := h
    have hl : c'.cells.toList.length = sz := by simpa using g2
    cases k with
    | zero =>
      simp only [List.set_cons_zero, RepE]
      refine ⟨c, cr, ?_, h1, h2, h3, g5⟩
      rw [Nat.zero_mul, List.take_zero, List.nil_append, Nat.zero_add, ← hl, List.drop_left]
    | succ k =>
      simp only [List.set_cons_succ, RepE]
      refine ⟨c', cr.take (k * sz) ++ c.cells.toList ++ cr.drop (k * sz + sz), ?_, g2, g3, g4, RepE.setN g5 (by simpa using hk) h1 h2 h3⟩
      have e1 : (k + 1) * sz = c'.cells.toList.length + k * sz := by rw [hl, Nat.add_mul, Nat.one_mul]; omega
      rw [e1, List.take_append, List.take_of_length_le (by omega), Nat.add_sub_cancel_left, List.drop_append, List.drop_of_length_le (by omega), List.nil_append]
      rw [show c'.cells.toList.length + k * sz + sz - c'.cells.toList.length = k * sz + sz from by omega]
      simp only [List.append_assoc]
theorem RepE.cells {sz : Nat} : ∀ {l : List D} {cs : List Value} {k : Nat} {d : D}, RepE w O sz l cs → l[k]? = some d →
    ∃ c, c.cells.toList = (cs.drop (k * sz)).take sz ∧ c.cells.size = sz ∧ (∀ u ∈ c.cells.toList, u.oneCell' = true) ∧ Rep w O d c ∧ k * sz + sz ≤ cs.length
  | [], cs, k, d, h, hi => by simp at hi
  | e :: r, cs, k, d, h, hi => by
    simp only [RepE] at h
    obtain ⟨c, cr, rfl, h2, h3, h4, h5⟩ := h
    have hl : c.cells.toList.length = sz := by simpa using h2
    cases k with
    | zero =>
      simp only [List.getElem?_cons_zero, Option.some.injEq] at hi
      subst hi
      exact ⟨c, by rw [Nat.zero_mul, List.drop_zero, ← hl, List.take_left], h2, h3, h4, by simp only [List.length_append]; omega⟩
    | succ k =>
      simp only [List.getElem?_cons_succ] at hi
      obtain ⟨c', g1, g2, g3, g4, g5⟩ := RepE.cells h5 hi
      have e1 : (k + 1) * sz = c.cells.toList.length + k * sz := by rw [hl, Nat.add_mul, Nat.one_mul]; omega
      refine ⟨c', ?_, g2, g3, g4, by simp only [List.length_append]; omega⟩
      rw [g1, e1, List.drop_append, List.drop_of_length_le (l := c.cells.toList) (by omega), List.nil_append, Nat.add_sub_cancel_left]
end
section
variable {P : Program} {n : Nat} {env : Env} {H : Heap} {dst : Option Tmp} {ty : TypeId} {pos : String} {after : Array Edge} {gd : Option (Nat × Bool)} {x y : Operand} {ops : Array Oper} {rest : List Oper}
/-- A store into a part of an element. -/
theorem aops_store_ownF {t g k off len cap ety sz l r r' d ds f K} (hx : opd env x = some (.p g (k * sz + off))) (hy : opd env y = some d) (hfl : Flat d ds) (hk : UpdF H (.arr (.slice (some ⟨g, 0, none⟩) len cap) ety sz l) f) (hs : tsize P t = some ds.length) (hl : l[k]? = some (.agg r)) (hsp : Spl r off ds r')
    (h : AOps κ P n ops rest env (f (.arr (.slice (some ⟨g, 0, none⟩) len cap) ety sz (l.set k (.agg r')))) K) : AOps κ P n ops (⟨none, .store t x y, ty, pos, after, none⟩ :: rest) env H K := by
  refine aops_step rfl (.of_op ⟨fun F M w0 a w hr Kc hK => ?_, fun F M w0 a w hr => ?_⟩)
  have h1 := hr.opdv hx
  obtain ⟨us, h2, hus⟩ := hfl.rep (hr.opd hy)
  obtain ⟨kk, hk1, hk2⟩ := hk.set
  obtain ⟨hsz, hlb, xs, hown, hE⟩ := hr.heap.holds _ hk.mem
  obtain ⟨q1, q2⟩ := hsp.eq
  have hul := hus.length
  rcases hown.2 with ⟨hv, _⟩ | ⟨g', cap', cur, hv, h3, h4, h5, h6, h7, h8⟩
  · cases hv
  · simp only [Value.slice.injEq, Option.some.injEq, Addr.mk.injEq] at hv
    obtain ⟨⟨rfl, _, _⟩, rfl, rfl⟩ := hv
    obtain ⟨c, g1, g2, g3, g4, g5⟩ := RepE.cells hE hl
    have hlen := hE.len
    simp only [Rep] at g4
    obtain ⟨vs, rfl, hvs⟩ := g4
    have hcl : (Value.agg vs.toArray).cells.toList = vs := by simp [Value.cells]
    have hvl : vs.length = sz := by simpa [Value.cells] using g2
    have hrl := hvs.length
    rw [hcl] at g1 g3
    have hxc : xs.length ≤ cur.size := by rw [← h8, List.length_take, Array.length_toList]; exact Nat.min_le_right _ _
    have hrun := run_storeCells_at P g (k * sz + off) ety us 0 cur w h4 (by omega) hus.one
    simp only [Nat.add_zero] at hrun
    -- the cells of the element behind it
    have hnew : ((cur.toList.take (k * sz + off) ++ us ++ cur.toList.drop (k * sz + off + us.length)).take (l.length * sz)) = xs.take (k * sz) ++ (vs.take off ++ us ++ vs.drop (off + us.length)) ++ xs.drop (k * sz + sz) := by
      have e1 := splice_in (cs := xs) (us := us) (p := k * sz) (o := off) (sz := sz) (by omega) g5
      rw [← g1] at e1
      rw [← e1, ← h8, ← hlen]
      have hA : (cur.toList.take (k * sz + off)).length = k * sz + off := by simp; omega
      rw [List.take_append, List.take_append, List.length_append, hA, List.take_take, List.take_take, List.drop_take]
      rw [List.take_of_length_le (l := us) (by omega)]
      congr 2
      congr 1; omega
    have hr1 := hr.upd (o' := .arr (.slice (some ⟨g, 0, none⟩) l.length cap) ety sz (l.set k (.agg r'))) hk1 (Fr.setRow w g (cur.toList.take (k * sz + off) ++ us ++ cur.toList.drop (k * sz + off + us.length)).toArray)
      (fun O' hO => by
        have hm : ∀ bb, bb < w.heap.size → ¬ Own F H bb → ¬ O' bb ∧ (w.setRow g (cur.toList.take (k * sz + off) ++ us ++ cur.toList.drop (k * sz + off + us.length)).toArray).heap[bb]? = w.heap[bb]? := fun bb hb hb' =>
          ⟨hO bb hb hb', setRow_other w g bb _ (fun e => hb' (.inr (mem_Hb hk.mem (by simp [Ob.blk, Value.ownBlock, e]))))⟩
        have hE' := RepE.setN (d := .agg r') (c := .agg (vs.take off ++ us ++ vs.drop (off + us.length)).toArray) (RepE.mono hm _ _ _ hE) hl (by simp [Value.cells]; omega)
          (by
            have hL := RepL.one (RepL.append (RepL.append (hvs.take off) hus) (hvs.drop (off + us.length)))
            simpa [Value.cells] using hL)
          (by simp only [Rep]; exact ⟨_, rfl, by rw [q1, hul]; exact RepL.append (RepL.append ((RepL.mono hm _ _ hvs).take off) (RepL.mono hm _ _ hus)) ((RepL.mono hm _ _ hvs).drop _)⟩)
        have hcl2 : (Value.agg (vs.take off ++ us ++ vs.drop (off + us.length)).toArray).cells.toList = vs.take off ++ us ++ vs.drop (off + us.length) := by simp [Value.cells]
        rw [hcl2, ← hnew] at hE'
        have hsize : (cur.toList.take (k * sz + off) ++ us ++ cur.toList.drop (k * sz + off + us.length)).length = cur.size := by simp; omega
        refine ⟨hsz, by simpa using hlb, _, ⟨by rw [List.length_take, hsize, List.length_set]; omega, .inr ⟨g, cap, _, by simp, Nat.zero_le _, setRow_heap w g cur _ ety _ h4, by simpa using h5, h6, ?_, ?_⟩⟩, hE'⟩
        · rw [List.size_toArray, hsize]; exact h7
        · simp only [List.toList_toArray, List.length_set])
      (.inl rfl)
    unfold wpv
    simp only [execOp, h1, Instr.storeAt, Instr.sureAddr, storeVar, Sem.run_bind, Sem.run_pure, Result.andThen_ok, run_sizeOf hs, h2]
    simp only [List.size_toArray, hul, ne_eq, not_true_eq_false, if_false, hrun, Sem.run_pure, Result.andThen_ok, upv_skip, Sem.run_ite, Sem.run_bind, List.toList_toArray]
    have := hK env (f (.arr (.slice (some ⟨g, 0, none⟩) l.length cap) ety sz (l.set k (.agg r')))) (a.put none undef) _ h (by rw [hk2]; exact hr1)
    exact this
  have h1 := hr.opdv hx
  obtain ⟨us, h2, hus⟩ := hfl.rep (hr.opd hy)
  obtain ⟨hsz, hlb, xs, hown, hE⟩ := hr.heap.holds _ hk.mem
  obtain ⟨q1, q2⟩ := hsp.eq
  have hul := hus.length
  rcases hown.2 with ⟨hv, _⟩ | ⟨g', cap', cur, hv, h3, h4, h5, h6, h7, h8⟩
  · cases hv
  · simp only [Value.slice.injEq, Option.some.injEq, Addr.mk.injEq] at hv
    obtain ⟨⟨rfl, _, _⟩, rfl, rfl⟩ := hv
    obtain ⟨c, g1, g2, g3, g4, g5⟩ := RepE.cells hE hl
    have hlen := hE.len
    simp only [Rep] at g4
    obtain ⟨vs, rfl, hvs⟩ := g4
    have hvl : vs.length = sz := by simpa [Value.cells] using g2
    have hrl := hvs.length
    have hxc : xs.length ≤ cur.size := by rw [← h8, List.length_take, Array.length_toList]; exact Nat.min_le_right _ _
    refine ev_block (mem_Hb hk.mem rfl) hr.heap fun e he => ?_
    simp only [execOp, h1, Instr.storeAt, Instr.sureAddr, storeVar, Sem.events_bind, Sem.run_bind, Sem.events_pure, Sem.run_pure, Result.andThen_ok, Result.evThen_ok, run_sizeOf hs, events_sizeOf, h2] at he
    simp only [List.size_toArray, hul, ne_eq, not_true_eq_false, if_false, List.toList_toArray, Sem.run_ite, Sem.events_ite] at he
    have hrun := run_storeCells_at P g (k * sz + off) ety us 0 cur w h4 (by omega) hus.one
    simp only [Nat.add_zero] at hrun
    simp only [hrun, Result.evThen_ok, Sem.events_pure, Sem.run_pure, Result.andThen_ok, Sem.events_bind] at he
    rcases ev_stores us 0 cur w #[] h4 (by omega) hus.one e he with h | ⟨a', rfl, hb⟩
    · simp at h
    · exact ⟨a', rfl, hb⟩
end
end Go.Av
namespace Go.Av
open Go
theorem rep_one {w : World} {O : Nat → Prop} {d : D} {v : Value} (hv : v.cells.toList = [v]) (h : RepL w O [d] v.cells.toList) : Rep w O d v := by
  rw [hv] at h
  simp only [RepL] at h
  obtain ⟨c, cr, h1, h2, _, h3⟩ := h
  simp only [List.cons.injEq] at h1
  rw [h1.1]; exact h2
theorem rep_aggC {w : World} {O : Nat → Prop} {l : List D} {cs : Array Value} (h : RepL w O l (Value.agg cs).cells.toList) : Rep w O (.agg l) (.agg cs) := by
  simp only [Rep]
  exact ⟨cs.toList, by simp, by simpa [Value.cells] using h⟩
end Go.Av
namespace Go.Av
open Go
/-- What the function built is left as it is from here on, amid the operations of a region. -/
theorem aops_freeze {κ : Kind} {P : Program} {n : Nat} {env env' : Env} {H H1 H' : Heap} {K : Env → Heap → Prop} {ops : Array Oper} {o rest} (v : Value) (live : List Nat) {ety sz l} (hg : o.guard = none) (hk : Rem H (.arr v ety sz l) H1) (he : SelC v sz l env live env') (hh : HeapA v sz l H1 H') (h : AOps κ P n ops (o :: rest) env' H' K) : AOps κ P n ops (o :: rest) env H K :=
  aops_wk hg (wk_freeze hk he.sub hh.heapC) h
end Go.Av
namespace Go.Av
open Go
set_option linter.unusedVariables false
variable {κ : Kind}
set_option linter.unusedSimpArgs false
section
variable {P : Program} {n : Nat} {env : Env} {H : Heap} {dst : Option Tmp} {ty : TypeId} {pos : String} {after : Array Edge} {gd : Option (Nat × Bool)} {x y : Operand}
theorem ap_buildA {t us cs parts out len e sz} (ha : P.underlying t = some (.array len e)) (hs : tsize P e = some sz) (hz : tzero P t = some us) (hu : AllV us cs) (hf : FillL (plc sz) env parts cs out) :
    AP P n ⟨dst, .build t parts.toArray, ty, pos, after, gd⟩ env H (.agg out) := by
  refine ⟨fun F M w0 a w hr => ?_⟩
  obtain ⟨vs, g1, g2⟩ := hf.run hr us hu.rep
  refine ⟨.agg vs.toArray, by simp only [Rep]; exact ⟨vs, rfl, g2⟩, fun w' => ?_⟩
  obtain ⟨zv, z1, z2⟩ := tzero_spec hz w'
  unfold plc at g1
  refine ⟨?_, ?_⟩
  · simp only [execOp, Instr.build, Sem.run_bind, z1, Result.andThen_ok, run_underlying ha, run_sizeOf hs, List.map_toArray, List.toList_toArray, z2]
    simp only [g1, Sem.run_pure, Result.andThen_ok]
  · simp only [execOp, Instr.build, Sem.events_bind, Sem.run_bind, z1, Result.andThen_ok, Result.evThen_ok, events_zeroValue, events_underlying, events_sizeOf, run_underlying ha, run_sizeOf hs, List.map_toArray, List.toList_toArray, z2]
    simp only [g1, Sem.run_pure, Sem.events_pure, Result.andThen_ok, Result.evThen_ok]
end
end Go.Av
namespace Go.Av
open Go
section
variable {P : Program} {n : Nat} {env : Env} {H : Heap} {dst : Option Tmp} {ty : TypeId} {pos : String} {after : Array Edge} {gd : Option (Nat × Bool)} {x y : Operand}
theorem ap_andw {k p q t u} (hx : opd env x = some (.v (.int k p))) (hy : opd env y = some (.v (.int k q))) : AP P n ⟨dst, .binOp .and t x y u, ty, pos, after, gd⟩ env H (.v (.int k (k.wrap ((BitVec.ofInt k.bits p &&& BitVec.ofInt k.bits q).toNat : Int)))) := by
  refine ⟨fun F M w0 a w hr => ?_⟩
  have h1 := hr.opdv hx
  have h2 := hr.opdv hy
  refine ⟨.int k (k.wrap ((BitVec.ofInt k.bits p &&& BitVec.ofInt k.bits q).toNat : Int)), by simp [Rep], fun w' => ?_⟩
  simp [execOp, h1, h2, eqGuard, binOp, Op.intBits]
end
end Go.Av
namespace Go.Av
open Go
set_option linter.unusedVariables false
variable {κ : Kind}
set_option linter.unusedSimpArgs false
section
variable {P : Program} {n : Nat} {env : Env} {H : Heap} {dst : Option Tmp} {ty : TypeId} {pos : String} {after : Array Edge} {x y : Operand}
/-- The cells of a new row. -/
def tmade (P : Program) (e : TypeId) (m : Nat) : Option (List Value) := ((P.info? e).bind (·.zero)).map fun z => (madeCells z.cells m).toList
theorem events_make0 (w : World) (t e : TypeId) (i : TypeInfo) (z : Value) (ht : P.underlying t = some (.slice e)) (hi : P.info? e = some i) (hz : i.zero = some z)
    (kl kc : IntKind) (l c : Int) (h0 : 0 ≤ l) (hlc : l ≤ c) (hbytes : (i.bytes : Int) * c ≤ 281474976710656) (h63 : c ≤ 9223372036854775807) :
    ∀ ev ∈ (Instr.makeSlice t (.int kl l) (.int kc c)).events P w #[], ∃ m, ev = ⟨.mark m, false, true⟩ ∧ Conc.Neutral m := by
  have wl : IntKind.i64.wrap l = l := by rw [IntKind.wrap_i64]; omega
  have wc : IntKind.i64.wrap c = c := by rw [IntKind.wrap_i64]; omega
  have n1 : ¬ c < 0 := by omega
  have n2 : ¬ (281474976710656 < (i.bytes : Int) * c) := by omega
  have n3 : ¬ l < 0 := by omega
  have n4 : ¬ c < l := by omega
  have ask : ∀ (b : Nat) ev, ev ∈ (askRoom b).events P w #[] → ∃ m, ev = ⟨.mark m, false, true⟩ ∧ Conc.Neutral m := fun b ev h => by
    rcases Conc.events_askRoom b w #[] ev h with h | h
    · simp at h
    · exact h
  have ra : ∀ b, (askRoom b).run P w = .ok () w := fun b => by unfold askRoom; split <;> simp
  intro ev hev
  by_cases hn : c.toNat * i.size = 0
  · simp [Instr.makeSlice, run_underlying ht, asInt, asIntOf, typeInfo, hi, sizeOf, wl, wc, n1, n2, n3, n4, hn, newRow, ra] at hev
    exact ask _ _ hev
  · simp [Instr.makeSlice, run_underlying ht, asInt, asIntOf, typeInfo, hi, sizeOf, zeroValue, hz, wl, wc, n1, n2, n3, n4, newRow, ra] at hev
    exact ask _ _ hev
theorem aops_make {ops rest t e sz by_ d K l cs} {N : Nat} {kl kc : IntKind} (hx : opd env x = some (.v (.int kl (N : Int)))) (hy : opd env y = some (.v (.int kc (N : Int)))) (ht : telem P t = some e) (hi : tinfo P e = some (sz, by_))
    (hm : tmade P e (N * sz) = some cs) (hl : l.length = N) (hE : ∀ w O, RepE w O sz l cs) (hb : by_ * N ≤ 281474976710656 ∧ N ≤ capB) (hd : dst = some d) (hn : Nat.blt d n = true)
    (h : ∀ g : Nat, AOps κ P n ops rest ((d, .v (.slice (some ⟨g, 0, none⟩) N N)) :: env) (.arr (.slice (some ⟨g, 0, none⟩) N N) e sz l :: H) K) :
    AOps κ P n ops (⟨dst, .makeSlice t x y, ty, pos, after, none⟩ :: rest) env H K := by
  refine aops_step rfl (.of_op ⟨fun F M w0 a w hr Kc hK => ?_, fun F M w0 a w hr => ?_⟩)
  have hx' := hr.opdv hx
  have hy' := hr.opdv hy
  obtain ⟨i, z, h1, h2, h3, h4, h5, h6⟩ := tinfo_spec hi
  have hcap : capB = 140737488355328 := rfl
  obtain ⟨w', hrun, r1, r2⟩ := run_make_full (P := P) w 0 t e i z sz (telem_under ht) h1 h2 h3 kl kc N (by rw [h4]; exact hb.1) (by unfold maxLen; omega) (Nat.zero_le _)
  have hcs : (madeCells z.cells (N * sz)).toList = cs := by
    unfold tmade at hm
    rw [h1] at hm
    simpa [h2] using hm
  rw [hcs] at r1
  have hr1 := hr.add (o' := .arr (.slice (some ⟨w.heap.size, 0, none⟩) N N) e sz l) (by simpa using Fr.grown r2) (fun O' hO => ⟨h6, by rw [hl]; exact hb.2, cs, by rw [hl]; exact r1, hE _ _⟩) (fun b hb => by simp [Ob.blk, Value.ownBlock] at hb; omega)
  unfold wpv
  have e1 : (execOp a.eval ⟨dst, .makeSlice t x y, ty, pos, after, none⟩) = (do pure (.value (← Instr.makeSlice t (a.eval x) (a.eval y)))) := by
    simp [execOp]
  rw [e1, Sem.run_bind, hx', hy', hrun, Result.andThen_ok, Sem.run_pure, upv_value, hd]
  exact hK _ _ _ _ (h w.heap.size) (hr1.put (by simp [Rep]) (by simpa [Nat.blt_eq] using hn))
  have hx' := hr.opdv hx
  have hy' := hr.opdv hy
  obtain ⟨i, z, h1, h2, h3, h4, h5, h6⟩ := tinfo_spec hi
  have hcap : capB = 140737488355328 := rfl
  obtain ⟨w', hrun, r1, r2⟩ := run_make_full (P := P) w 0 t e i z sz (telem_under ht) h1 h2 h3 kl kc N (by rw [h4]; exact hb.1) (by unfold maxLen; omega) (Nat.zero_le _)
  have e1 : (execOp a.eval ⟨dst, .makeSlice t x y, ty, pos, after, none⟩) = (do pure (.value (← Instr.makeSlice t (a.eval x) (a.eval y)))) := by
    simp [execOp]
  intro ev hev
  rw [e1, Sem.events_bind, hx', hy', hrun] at hev
  simp only [Result.evThen_ok, Sem.events_pure] at hev
  refine .inr (events_make0 (P := P) w t e i z (telem_under ht) h1 h2 kl kc N N (by omega) (Int.le_refl _) ?_ (by omega) ev hev)
  have hb1 : ((i.bytes * N : Nat) : Int) ≤ 281474976710656 := by rw [h4]; omega
  rwa [Int.natCast_mul] at hb1
end
end Go.Av
namespace Go.Av
set_option linter.unusedVariables false
variable {κ : Kind}
section
variable {P : Program} {n : Nat} {env : Env} {H : Heap} {dst : Option Tmp} {ty : TypeId} {pos : String} {after : Array Edge} {gd : Option (Nat × Bool)} {x y : Operand} {ops : Array Oper} {rest : List Oper}
variable {Q : Exit → Env → Heap → Prop}
end
end Go.Av
namespace Go.Av
set_option linter.unusedVariables false
variable {κ : Kind}
set_option linter.unusedSimpArgs false
theorem str_eq (x y : ByteArray) : (x.toList == y.toList) = decide (x = y) := by
  have h := beq_toListBytes x y
  rw [← h, Bool.eq_iff_iff, decide_eq_true_iff]
  constructor
  · intro h2
    rw [h] at h2
    have h3 : x.toList = y.toList := by simpa using h2
    have h4 : x.data.toList = y.data.toList := by simpa [ByteArray.toList_eq] using h3
    cases x; cases y
    simp only [ByteArray.mk.injEq]
    exact Array.toList_inj.1 h4
  · rintro rfl
    rw [h]
    simp
/-- How two strings compare. -/
def cmpS : BinOp → ByteArray → ByteArray → Option Bool
  | .eql, a, b => some (decide (a = b))
  | .neq, a, b => some (!decide (a = b))
  | .lss, a, b => some (Op.bytesLess a.toList b.toList)
  | .gtr, a, b => some (!(Op.bytesLess a.toList b.toList || decide (a = b)))
  | _, _, _ => none
section
variable {P : Program} {n : Nat} {env : Env} {H : Heap} {dst : Option Tmp} {ty : TypeId} {pos : String} {after : Array Edge} {gd : Option (Nat × Bool)} {x y : Operand} {ops : Array Oper} {rest : List Oper}
theorem ap_scmp {op p q c t u} (hx : opd env x = some (.v (.string p))) (hy : opd env y = some (.v (.string q))) (hc : cmpS op p q = some c) : AP P n ⟨dst, .binOp op t x y u, ty, pos, after, gd⟩ env H (.b c) := by
  refine ⟨fun F M w0 a w hr => ?_⟩
  have h1 := hr.opdv hx
  have h2 := hr.opdv hy
  refine ⟨.bool c, by simp [Rep], fun w' => ?_⟩
  cases op <;> simp only [cmpS, Option.some.injEq, reduceCtorEq] at hc <;> subst hc <;>
    simp [execOp, h1, h2, eqGuard, binOp, Op.stringOp, str_eq] <;> rfl
theorem ap_len_str {t s} (hx : opd env x = some (.v (.string s))) (ht : P.underlying t = some .string) : AP P n ⟨dst, .call { callee := .builtin .len, args := #[x], argTypes := #[t] }, ty, pos, after, gd⟩ env H (.i (s.size : Int)) := by
  refine ⟨fun F M w0 a w hr => ?_⟩
  have h1 := hr.opdv hx
  refine ⟨.int .i64 (s.size : Int), by simp [Rep], fun w' => ?_⟩
  simp [execOp, resolve, invoke, builtin, h1, Builtin.len_, run_underlying ht, goInt]
end
end Go.Av
namespace Go.Av
set_option linter.unusedVariables false
variable {κ : Kind}
set_option linter.unusedSimpArgs false
section
variable {P : Program} {n : Nat} {env : Env} {H : Heap} {dst : Option Tmp} {ty : TypeId} {pos : String} {after : Array Edge} {gd : Option (Nat × Bool)} {x y : Operand} {ops : Array Oper} {rest : List Oper}
/-- An element of an array. -/
theorem ap_indexA {t e len sz l j k r} (hx : opd env x = some (.agg l)) (hy : opd env y = some (.i j)) (ha : P.underlying t = some (.array len e)) (hg : tagg P e = some true) (hs : tsize P e = some sz) (hj : j = ((k : Nat) : Int)) (hk : k < len) (hr0 : SubL l (k * sz) sz r) :
    AP P n ⟨dst, .index t x y, ty, pos, after, gd⟩ env H (.agg r) := by
  refine ⟨fun F M w0 a w hr => ?_⟩
  have h1 := hr.opd hx
  have h2 := hr.opdv hy
  subst hj
  obtain ⟨q1, q2⟩ := hr0.eq
  simp only [Rep] at h1
  obtain ⟨cs, h1, h3⟩ := h1
  refine ⟨.agg ((cs.drop (k * sz)).take sz).toArray, by simp only [Rep]; exact ⟨_, rfl, by rw [q1]; exact (h3.drop _).take sz⟩, fun w' => ?_⟩
  simp [execOp, h1, h2, Instr.index, run_underlying ha, asIntOf, part, run_isAgg hg, run_sizeOf hs, hk]
theorem ap_indexA1 {t e len l j k d} (hx : opd env x = some (.agg l)) (hy : opd env y = some (.i j)) (ha : P.underlying t = some (.array len e)) (hg : tagg P e = some false) (hs : tsize P e = some 1) (hj : j = ((k : Nat) : Int)) (hk : k < len) (hr0 : SubL l (k * 1) 1 [d]) :
    AP P n ⟨dst, .index t x y, ty, pos, after, gd⟩ env H d := by
  refine ⟨fun F M w0 a w hr => ?_⟩
  have h1 := hr.opd hx
  have h2 := hr.opdv hy
  subst hj
  simp only [Rep] at h1
  obtain ⟨cs, h1, h3⟩ := h1
  obtain ⟨c, h4, h5, h6⟩ := h3.get (getSub hr0)
  rw [Nat.mul_one] at h4
  refine ⟨c, h5, fun w' => ?_⟩
  simp [execOp, h1, h2, Instr.index, run_underlying ha, asIntOf, part, run_isAgg hg, run_sizeOf hs, hk, h4]
end
end Go.Av
namespace Go.Av
open Go
set_option linter.unusedSimpArgs false
set_option linter.unusedVariables false
inductive BoxD : List D → D → Prop
  | agg {c cs} : BoxD (c :: cs) (.agg (c :: cs))
  | one {d} (h : Scal d) : BoxD [d] d
inductive SubB (b : Nat) (d : D) (env : Env) : List Nat → Env → Prop
  | nil : SubB b d env [] []
  | fz {i is r} (h : look env i = some (.p b 0)) (hr : SubB b d env is r) : SubB b d env (i :: is) ((i, .el d) :: r)
  | same {i e is r} (h : look env i = some e) (hr : SubB b d env is r) : SubB b d env (i :: is) ((i, e) :: r)
theorem SubB.look {b d is} {env env' : Env} (h : SubB b d env is env') : ∀ i e, look env' i = some e → look env i = some e ∨ (look env i = some (.p b 0) ∧ e = .el d) := by
  induction h with
  | nil => intro i e h; simp [Av.look] at h
  | @fz j is r h hr ih =>
    intro i e hi
    rw [look_cons] at hi
    by_cases e' : j = i
    · subst e'; simp only [if_true, Option.some.injEq] at hi; subst hi; exact .inr ⟨h, rfl⟩
    · rw [if_neg e'] at hi; exact ih i e hi
  | @same j e1 is r h hr ih =>
    intro i e hi
    rw [look_cons] at hi
    by_cases e' : j = i
    · subst e'; simp only [if_true, Option.some.injEq] at hi; subst hi; exact .inl h
    · rw [if_neg e'] at hi; exact ih i e hi
theorem wk_fzBox {env H env' H1 b ty cs d} {live : List Nat} (hk : Rem H (.box b ty cs) H1) (hd : BoxD cs d) (he : SubB b d env live env') : Wk env H env' H1 := by
  refine ⟨fun F M w0 n a w hr => ?_⟩
  have hp : H.Perm (H1 ++ [.box b ty cs]) := hk.perm.trans (List.perm_append_comm (l₁ := [_]))
  have hmem : Ob.box b ty cs ∈ H := hk.perm.symm.subset (List.mem_cons_self ..)
  have hbH : b ∈ Hb H := mem_Hb hmem rfl
  have hnO : ¬ Own F H1 b := by
    rintro (hF | hm)
    · exact hr.heap.disj b hbH hF
    · have hbn := ((hp.filterMap Ob.blk).nodup_iff.1 hr.heap.nodup)
      rw [List.filterMap_append] at hbn
      obtain ⟨_, _, hdj⟩ := List.nodup_append.1 hbn
      exact hdj b hm b (by simp [Ob.blk]) rfl
  have hE : Rep w (Own F H1) (.el d) (.pointer (some ⟨b, 0, none⟩)) := by
    obtain ⟨vs, h1, h2⟩ := hr.heap.holds _ hmem
    have hcell : ∀ j c, vs[j]? = some c → w.cell? ⟨b, 0 + j, none⟩ = some c := fun j c hj => by rw [cell_of_row w b _ vs.toArray ty (0, 0) h1]; simpa using hj
    have h2' : RepL w (Own F H1) cs vs := RepL.mono (fun x _ hx => ⟨fun h => hx (own_sub hp x h), rfl⟩) _ _ h2
    simp only [Rep]
    cases hd with
    | @agg c cs =>
      refine ⟨⟨b, 0, none⟩, .agg vs.toArray, rfl, by simp only [Rep]; exact ⟨vs, rfl, h2'⟩, fun u hu => h2.one u (by simpa [Value.cells] using hu), ?_, .inr ⟨hnO, rfl, fun j c hj => ?_⟩⟩
      · have := h2.length
        intro e
        rw [show (Value.agg vs.toArray).cells.toList = vs from by simp [Value.cells]] at e
        rw [e] at this; simp at this
      · exact hcell j c (by simpa [Value.cells] using hj)
    | one hs =>
      simp only [RepL] at h2'
      obtain ⟨c, cr, rfl, k1, k2, rfl⟩ := h2'
      have hc := hs.cells k1
      refine ⟨⟨b, 0, none⟩, c, rfl, k1, fun u hu => ?_, by rw [hc]; simp, .inr ⟨hnO, rfl, fun j u hj => ?_⟩⟩
      · rw [hc] at hu; obtain rfl : u = c := by simpa using hu
        exact k2
      · rw [hc] at hj; exact hcell j u (by simpa using hj)
  refine ⟨fun i e hi => ?_, hr.heap.perm hp, hr.fr, fun x hx => hr.mine x (hb_sub hp x hx), hr.f0, hr.dfr, hr.tsz⟩
  rcases he.look i e hi with h' | ⟨h', rfl⟩
  · obtain ⟨v, h1, h2⟩ := hr.env i e h'
    exact ⟨v, h1, h2.iff (own_sub hp)⟩
  · obtain ⟨v, h1, h2⟩ := hr.env i _ h'
    have : v = .pointer (some ⟨b, 0, none⟩) := by simpa [Rep] using h2
    exact ⟨v, h1, this ▸ hE⟩
abbrev Pd := Option (Nat × List Value)
structure AWm (Ps : Value → World → Prop) (P : Program) (n : Nat) (s : Pd) (c : Code) (env : Env) (H : Heap) (Q : Exit → Pd → Env → Heap → Prop) : Prop where
  out : ∀ {C X0 M w0 O X a w}, RelC C X0 M w0 n env H O X a w → ∀ {b : Frame} {k : List Item} {cs : List Frame}, b.kind ≠ .early →
    (∀ e s' a' w' O' X' env' H', Q e s' env' H' → RelC C X0 M w0 n env' H' O' X' a' w' → AfterT (Fan.GoM P Ps s') b k cs e a' O' X' w') → Fan.GoM P Ps s O X (Conc.G (b.at a (.code c :: k)) cs) w
section
variable {Ps : Value → World → Prop} {P : Program} {n : Nat} {s : Pd} {env : Env} {H : Heap} {Q : Exit → Pd → Env → Heap → Prop}
theorem awm_of {c : Code} {Q' : Exit → Env → Heap → Prop} (h : AWp none P n c env H Q') (hq : ∀ e env' H', Q' e env' H' → Q e s env' H') : AWm Ps P n s c env H Q :=
  ⟨fun hr _ _ _ hb hQ => h.out (κ := none) (main := true) (T := Fan.GoM P Ps s) (Fan.goM_closed s) hr hb fun e a' w' O' X' env' H' q hr' => hQ e s a' w' O' X' env' H' (hq _ _ _ q) hr'⟩
/-- To the starter that awaits nothing. -/
theorem awp_of_awm {c : Code} {Q' : Exit → Env → Heap → Prop} (h : AWm Ps P n none c env H (fun e s' env' H' => s' = none ∧ Q' e env' H')) : AWp (some Ps) P n c env H Q' := by
  refine ⟨fun {main T} fit C X0 M w0 O X a w hr b k cs hb hQ => ?_⟩
  obtain ⟨rfl, rfl⟩ := fit
  exact h.out hr hb fun e s' a' w' O' X' env' H' ⟨hs, q⟩ hr' => by subst hs; exact hQ e a' w' O' X' env' H' q hr'
theorem awm_wk {c : Code} {env' H'} (hw : Wk env H env' H') (h : AWm Ps P n s c env' H' Q) : AWm Ps P n s c env H Q :=
  ⟨fun hr _ _ _ hb hQ => h.out (hr.wk hw) hb hQ⟩
theorem awm_close {c : Code} {ch : Nat} (h : AWm Ps P n none c env H Q) : AWm Ps P n (some (ch, [])) c env H Q :=
  ⟨fun hr _ _ _ hb hQ => .close (h.out hr hb hQ)⟩
def seqM (N : Pd → Env → Heap → Prop) (Q : Exit → Pd → Env → Heap → Prop) : Exit → Pd → Env → Heap → Prop
  | .normal, s, e, h => N s e h
  | x, s, e, h => Q x s e h
def blockM (id : Nat) (Q : Exit → Pd → Env → Heap → Prop) : Exit → Pd → Env → Heap → Prop
  | .exit i, s, e, h => bif Nat.beq i id then Q .normal s e h else Q (.exit i) s e h
  | x, s, e, h => Q x s e h
theorem idleM {O X : Nat → Prop} {g g' : Goroutine} {w : World} (hs : g.status = .running) (h : ∀ w, stepG P true g w = .go g' w) (k : Fan.GoM P Ps s O X g' w) : Fan.GoM P Ps s O X g w := (Fan.goM_closed s).idle hs h k
theorem awm_seq {c c' : Code} (h : AWm Ps P n s c env H (seqM (fun s' env' H' => AWm Ps P n s' c' env' H' Q) Q)) : AWm Ps P n s (.seq c c') env H Q := by
  refine ⟨fun hr b k cs hb hQ => idleM rfl (fun w => Conc.stepG_seq) (h.out hr hb fun e s' a' w' O' X' env' H' hq hr' => ?_)⟩
  cases e with
  | normal => exact AWm.out hq hr' hb hQ
  | _ => exact (hQ _ s' a' w' O' X' env' H' hq hr').push rfl (by simp)
theorem awm_block {c : Code} {id} (h : AWm Ps P n s c env H (blockM id Q)) : AWm Ps P n s (.block id c) env H Q := by
  refine ⟨fun hr b k cs hb hQ => idleM rfl (fun w => Conc.stepG_block) (h.out hr hb fun e s' a' w' O' X' env' H' hq hr' => ?_)⟩
  cases e with
  | normal => exact idleM rfl (fun w => Conc.stepG_inBlock) (hQ .normal s' a' w' O' X' env' H' hq hr')
  | exit i =>
    by_cases e : i = id
    · subst e
      have hq' : Q .normal s' env' H' := by simpa [blockM] using hq
      exact ⟨k, by simp [exitTo], hQ .normal s' a' w' O' X' env' H' hq' hr'⟩
    · have hb' : Nat.beq i id = false := Bool.eq_false_iff.2 (fun h' => e (Nat.eq_of_beq_eq_true h'))
      have hq' : Q (.exit i) s' env' H' := by simpa [blockM, hb'] using hq
      obtain ⟨k', hk', hg⟩ := hQ (.exit i) s' a' w' O' X' env' H' hq' hr'
      have : (id == i) = false := by simp; exact fun h => e h.symm
      exact ⟨k', by simp [exitTo, this, hk'], hg⟩
  | ret => exact hQ .ret s' a' w' O' X' env' H' hq hr'
  | _ => exact (hQ _ s' a' w' O' X' env' H' hq hr').elim
theorem awm_skip (h : Q .normal s env H) : AWm Ps P n s .skip env H Q := ⟨fun hr _ _ _ hb hQ => idleM rfl (fun w => Conc.stepG_skip) (hQ _ _ _ _ _ _ _ _ h hr)⟩
theorem awm_exit {id} (h : Q (.exit id) s env H) : AWm Ps P n s (.exit id) env H Q := ⟨fun hr _ _ _ hb hQ => by
  obtain ⟨k', hk', hg⟩ := hQ _ _ _ _ _ _ _ _ h hr
  exact idleM rfl (fun w => Conc.stepG_exit hk') hg⟩
theorem awm_ret (h : Q .ret s env H) : AWm Ps P n s .ret env H Q := ⟨fun hr _ _ _ hb hQ => idleM rfl (fun w => Conc.stepG_ret') (hQ _ _ _ _ _ _ _ _ h hr _)⟩
theorem awm_cond {c : Operand} {t : Bool} {c1 c2 : Code} (hc : opd env c = some (.b t)) (ht : t = true → AWm Ps P n s c1 env H Q) (hf : t = false → AWm Ps P n s c2 env H Q) : AWm Ps P n s (.cond c c1 c2) env H Q := by
  refine ⟨fun hr b k cs hb hQ => idleM rfl (fun w => Conc.stepG_cond (hr.rel.opdv hc)) ?_⟩
  cases t with
  | true => exact (ht rfl).out hr hb hQ
  | false => exact (hf rfl).out hr hb hQ
theorem awm_loop {ι : Type} {c : Code} (S : ι → Pd) (E : ι → Env) (Hp : ι → Heap) (I : ι → Prop) (μ : ι → Nat) (i0 : ι) (h0 : I i0) (hs : s = S i0) (hw : Wk env H (E i0) (Hp i0))
    (round : ∀ i, I i → AWm Ps P n (S i) c (E i) (Hp i) (seqM (fun s' env' H' => ∃ j, I j ∧ μ j < μ i ∧ s' = S j ∧ Wk env' H' (E j) (Hp j)) Q)) : AWm Ps P n s (.loop c) env H Q := by
  subst hs
  refine ⟨fun {C X0 M w0 O X a w} hr b k cs hb hQ => idleM rfl (fun w => Conc.stepG_loop) ?_⟩
  have key : ∀ m, ∀ i, μ i = m → I i → ∀ O X a w, RelC C X0 M w0 n (E i) (Hp i) O X a w → Fan.GoM P Ps (S i) O X (Conc.G (b.at a (.code c :: .inLoop c :: k)) cs) w := by
    intro m
    induction m using Nat.strongRecOn with
    | _ m ih =>
      intro i hm hi O X a w hr
      refine (round i hi).out hr hb fun e s' a' w' O' X' env' H' hq hr' => ?_
      cases e with
      | normal =>
        obtain ⟨j, hj, hlt, rfl, hwk⟩ := hq
        exact idleM rfl (fun w => Conc.stepG_inLoop) (ih (μ j) (hm ▸ hlt) j rfl hj O' X' a' w' (hr'.wk hwk))
      | _ => exact (hQ _ s' a' w' O' X' env' H' hq hr').push rfl (by simp)
  exact key _ i0 rfl h0 O X a w (hr.wk hw)
end
end Go.Av
namespace Go.Av
open Go
set_option linter.unusedSimpArgs false
set_option linter.unusedVariables false
section
variable {Ps : Value → World → Prop} {P : Program} {n : Nat} {s : Pd} {env : Env} {H : Heap} {Q : Exit → Pd → Env → Heap → Prop}
/-- What a channel's type asks of the program. -/
def tchan (P : Program) (t : TypeId) : Option TypeId := match P.underlying t with | some (.chan _ e) => some e | _ => none
theorem run_mk0 {t e : TypeId} (h : tchan P t = some e) (hi : (P.info? e).isSome = true) (w : World) : (Instr.makeChan t (.int .i64 0)).run P w = .ok (.chan (some w.heap.size)) (w.alloc (.chan 0 #[] false 0 0 false)) ∧ (Instr.makeChan t (.int .i64 0)).events P w #[] = #[] := by
  unfold tchan at h
  cases hu : P.underlying t with
  | none => rw [hu] at h; cases h
  | some d =>
    rw [hu] at h
    cases d <;> simp only [reduceCtorEq, Option.some.injEq] at h
    subst h
    obtain ⟨i, hi⟩ := Option.isSome_iff_exists.1 hi
    exact ⟨by simpa using Conc.run_makeChan (P := P) (w := w) hu hi .i64 0 (by omega) (by omega), by simpa using Conc.events_makeChan (P := P) (w := w) hu hi .i64 0 (by omega) (by omega) #[]⟩
theorem awm_mkchan {id : Nat} {t e : TypeId} {d : Tmp} {ty pos after rest} (ht : tchan P t = some e) (hi : (P.info? e).isSome = true) (hn : Nat.blt d n = true)
    (h : ∀ c : Nat, AOps none P n (⟨some d, .makeChan t (.const (.int .i64 0)), ty, pos, after, none⟩ :: rest : List Oper).toArray rest ((d, .v (.chan (some c))) :: env) H (fun env' H' => Q .normal (some (c, [])) env' H')) :
    AWm Ps P n none (.region id (⟨some d, .makeChan t (.const (.int .i64 0)), ty, pos, after, none⟩ :: rest : List Oper).toArray false) env H Q := by
  refine ⟨fun {C X0 M w0 O X a w} hr b k cs hb hQ => idleM rfl (fun w => Conc.stepG_region) ?_⟩
  have er : List.range (⟨some d, .makeChan t (.const (.int .i64 0)), ty, pos, after, none⟩ :: rest : List Oper).toArray.size = 0 :: (List.range' ([(⟨some d, .makeChan t (.const (.int .i64 0)), ty, pos, after, none⟩ : Oper)]).length rest.length ++ []) := by simp [List.range_eq_range', List.range'_succ]
  rw [er]
  refine (Fan.goM_closed none).step _ _ _ _ rfl fun X₁ w₁ hR => ?_
  have hr1 := hr.rely hR
  obtain ⟨m1, m2⟩ := run_mk0 (P := P) ht hi w₁
  have hex : (execOp a.eval (⟨some d, .makeChan t (.const (.int .i64 0)), ty, pos, after, none⟩ : Oper)).run P w₁ = .ok (.value (.chan (some w₁.heap.size))) (w₁.alloc (.chan 0 #[] false 0 0 false)) := by simp [execOp, Act.eval, m1]
  have hev : (execOp a.eval (⟨some d, .makeChan t (.const (.int .i64 0)), ty, pos, after, none⟩ : Oper)).events P w₁ #[] = #[] := by simp [execOp, Act.eval, m1, m2]
  have hsz : (w₁.alloc (.chan 0 #[] false 0 0 false)).heap.size = w₁.heap.size + 1 := by simp
  have hold : ∀ x, x < w₁.heap.size → (w₁.alloc (.chan 0 #[] false 0 0 false)).heap[x]? = w₁.heap[x]? := fun x hx =>
    (Fr.alloc w₁ _).block x hx (by simp)
  refine ⟨_, _, _, Conc.stepG_value (o := ⟨some d, .makeChan t (.const (.int .i64 0)), ty, pos, after, none⟩) rfl rfl hb hex, ?_, ?_⟩
  · unfold Conc.listed
    rw [hev, Conc.seen_none]
    exact ⟨rfl, rfl, rfl, by omega, fun x hx _ => hold x hx, by simp⟩
  · have hXs : ¬ X₁ w₁.heap.size := fun hx => by have := hr1.rel.heap.frb _ (.inr hx); omega
    have hRc : Fan.Rely X₁ w₁ (fun x => X₁ x ∨ x = w₁.heap.size) (w₁.alloc (.chan 0 #[] false 0 0 false)) :=
      ⟨rfl, rfl, rfl, by omega, fun x hx _ => hold x hx, fun x => by rw [hsz]; constructor <;> (intro h; rcases h with h | h <;> first | exact .inl h | exact .inr (by omega))⟩
    have hr2 := hr1.rely hRc
    refine .chan w₁.heap.size (.inr ⟨Nat.le_refl _, by omega⟩) hXs (heap_alloc_new w₁ _) ?_
    have hO : (fun x => Fan.grow O w₁.heap.size (w₁.alloc (.chan 0 #[] false 0 0 false)).heap.size x ∧ x ≠ w₁.heap.size) = O := by
      funext x
      simp only [Fan.grow, hsz, eq_iff_iff]
      constructor
      · rintro ⟨h | h, hne⟩
        · exact h
        · omega
      · intro h
        have := hr1.olt x h
        exact ⟨.inl h, by omega⟩
    rw [hO]
    refine AOpsR.sound (κ := none) (main := true) (T := Fan.GoM P Ps (some (w₁.heap.size, []))) (post := []) (rest := []) (Fan.goM_closed _) hb rest [_] _ H _ (by simp) (h w₁.heap.size).out O _ _ _ (hr2.put (by simp [Rep]) (by simpa [Nat.blt_eq] using hn)) fun env' H' O' X' a' w' hk hr' => ?_
    exact idleM rfl (fun w => Conc.stepG_region_end) (hQ .normal _ a' w' O' X' env' H' hk hr')
noncomputable def bot (P : Program) : Frame := { (default : Frame) with fn := P.funcs.size, defers := [], mode := .panicking [goexitEntry] }
theorem born_step {g : FuncId} {vs : Array Value} {fn : Func} {c : Code} (hf : P.funcs[g]? = some fn) (hb : fn.body = some c) (hcall : ∀ (vs : Array Value) (w : World), (callFunc g vs).run P w = .ok (.enter g vs) w) (w : World) :
    stepG P false (Conc.born P { target := .fn (.func g) vs, args := #[] }) w = .go (Conc.G (Frame.enter P g vs .deferred) [bot P]) w #[] := by
  have e1 := hcall vs w
  have e2 := events_enter hf hb hcall vs w
  have e0 : (#[] : Array Value) ++ vs = vs := by simp
  simp [Conc.born, stepG, unwind, callDeferred, invoke, e0, e1, e2, seen, GStep.after, Conc.G, bot]
/-- What a worker does: called with values that read as 'args', it sends v on channel c, and leaves. -/
structure ConW (P : Program) (g : FuncId) (args : List D) (c : Nat) (v : Value) : Prop where
  call : ∀ (vs : Array Value) (w : World), (callFunc g vs).run P w = .ok (.enter g vs) w
  code : ∃ fn c, P.funcs[g]? = some fn ∧ fn.body = some c
  run : ∀ {O X : Nat → Prop} {w : World} {vs : List Value}, RelC (fun _ => False) X [] w 0 [] [] O X nact w → RepT w (Own (fun b => False ∨ X b) []) args vs → Fan.GoW P c v O X (Conc.G (Frame.enter P g vs.toArray .deferred) [bot P]) w
theorem awm_go {id : Nat} {g : FuncId} {xs : List Operand} {ds : List D} {tf : Tmp} {ty pos after ty2 pos2 after2} {c : Nat} {pd : List Value} (v : Value) (ha : ArgsL env xs ds) (hl : look env tf = none) (hn : Nat.blt tf n = true) (hW : ConW P g ds c v)
    (h : Q .normal (some (c, v :: pd)) env H) :
    AWm Ps P n (some (c, pd)) (.region id #[⟨some tf, .makeFunc (.func g) #[] xs.toArray, ty, pos, after, none⟩, ⟨none, .go { callee := .value (.tmp tf), args := #[], argTypes := #[] }, ty2, pos2, after2, none⟩] false) env H Q := by
  have htf : tf < n := by simpa [Nat.blt_eq] using hn
  refine ⟨fun {C X0 M w0 O X a w} hr b k cs hb hQ => idleM rfl (fun w => Conc.stepG_region) ?_⟩
  generalize hops : (#[⟨some tf, .makeFunc (.func g) #[] xs.toArray, ty, pos, after, none⟩, ⟨none, .go { callee := .value (.tmp tf), args := #[], argTypes := #[] }, ty2, pos2, after2, none⟩] : Array Oper) = ops
  have h0 : ops[0]? = some ⟨some tf, .makeFunc (.func g) #[] xs.toArray, ty, pos, after, none⟩ := by rw [← hops]; rfl
  have h1 : ops[1]? = some ⟨none, .go { callee := .value (.tmp tf), args := #[], argTypes := #[] }, ty2, pos2, after2, none⟩ := by rw [← hops]; rfl
  have hs : List.range ops.size = [0, 1] := by rw [← hops]; rfl
  rw [hs]
  refine idleM (g' := Conc.G (b.at (a.put (some tf) (.func (.func g) #[] (xs.map a.eval).toArray)) (.inRegion ops [1] :: k)) cs) rfl (fun w => ?_) ?_
  · have hex : (execOp a.eval (⟨some tf, .makeFunc (.func g) #[] xs.toArray, ty, pos, after, none⟩ : Oper)).run P w = .ok (.value (.func (.func g) #[] (xs.map a.eval).toArray)) w := by simp [execOp, Instr.makeFunc]
    have hev : (execOp a.eval (⟨some tf, .makeFunc (.func g) #[] xs.toArray, ty, pos, after, none⟩ : Oper)).events P w #[] = #[] := by simp [execOp, Instr.makeFunc]
    have := Conc.stepG_value (main := true) (P := P) (b := b) (a := a) (k := k) (cs := cs) (rest := [1]) h0 rfl hb hex
    unfold Conc.listed at this
    rw [hev, Conc.seen_none] at this
    exact this
  · have hra := hr.drop hl (Value.func (.func g) #[] (xs.map a.eval).toArray)
    have hval : (a.put (some tf) (Value.func (.func g) #[] (xs.map a.eval).toArray)).eval (.tmp tf) = Value.func (.func g) #[] (xs.map a.eval).toArray := by
      simp [Act.eval, Act.put, hr.rel.tsz, htf]
    have hargs : ∀ {X₁ w₁}, Fan.Rely X w X₁ w₁ → RepT w₁ (Own (fun b => C b ∨ X₁ b) H) ds (xs.map a.eval) := fun hR => ha.rep (hr.rely hR).rel
    generalize a.put (some tf) (Value.func (.func g) #[] (xs.map a.eval).toArray) = a' at hra hval
    have hstep : ∀ w₁, stepG P true (Conc.G (b.at a' (.inRegion ops [1] :: k)) cs) w₁ = .spawn (Conc.G (b.at (a'.put none undef) (.inRegion ops [] :: k)) cs) (Conc.born P { target := .fn (.func g) (xs.map a.eval).toArray, args := #[] }) w₁ #[] := fun w₁ => by
      have hex : (execOp a'.eval (⟨none, .go { callee := .value (.tmp tf), args := #[], argTypes := #[] }, ty2, pos2, after2, none⟩ : Oper)).run P w₁ = .ok (.spawn { target := .fn (.func g) (xs.map a.eval).toArray, args := #[] }) w₁ := by
        simp [execOp, resolve, hval, Deferred.ofValue]
      have hev : (execOp a'.eval (⟨none, .go { callee := .value (.tmp tf), args := #[], argTypes := #[] }, ty2, pos2, after2, none⟩ : Oper)).events P w₁ #[] = #[] := by
        simp [execOp, resolve, hval, Deferred.ofValue]
      have := Conc.stepG_spawn (main := true) (P := P) (b := b) (a := a') (k := k) (cs := cs) (rest := []) h1 rfl hb hex rfl
      unfold Conc.listed at this
      rw [hev, Conc.seen_none] at this
      exact this
    refine .spawn v (fun x => C x ∨ x ∈ Hb H) hr.own rfl (fun X₁ w₁ hR => ⟨_, _, _, hstep w₁, by simp, ?_⟩) (fun X₁ w₁ g' child es hR hst => ?_)
    · obtain ⟨fn, cd, hf, hb2⟩ := hW.code
      have hr1 := hr.rely hR
      refine Fan.goW_closed.idle rfl (fun w => born_step hf hb2 hW.call w) (hW.run ?_ ?_)
      · refine ⟨⟨fun i d hi => by simp [look] at hi, ⟨fun o ho => absurd ho List.not_mem_nil, by simp [Hb], fun b hb => by simp [Hb] at hb, fun x hx => ?_⟩, Fr.refl _ _, fun b hb => by simp [Hb] at hb, fun x hx => ?_, rfl, rfl⟩, fun b hb => ?_, fun b hb => hb.elim, fun b hb => hb.elim, rfl, rfl, rfl, Nat.le_refl _, fun _ _ _ _ => rfl, fun _ h => h, fun _ h => .inl h, fun b hb => by simp [Hb] at hb, fun b hb => hb.elim⟩
        · rcases hx with hx | hx | hx
          · exact hx.elim
          · exact hr1.olt x (hr1.own x hx)
          · exact hr1.rel.heap.frb x (.inr hx)
        · rcases hx with hx | hx | hx
          · exact hx.elim
          · exact hr1.olt x (hr1.own x hx)
          · exact hr1.rel.heap.frb x (.inr hx)
        · rcases hb with hb | hb
          · exact hb.elim
          · simp [Hb] at hb
      · refine (hargs hR).iff (fun x hx => ?_)
        rcases hx with hx | hx
        · rcases hx with hx | hx | hx
          · exact hx.elim
          · rcases hx with hx | hx
            · exact .inl (.inl hx)
            · exact .inr hx
          · exact .inl (.inr hx)
        · simp [Hb] at hx
    · rw [hstep w₁] at hst
      cases hst
      have hr1 := hra.rely hR
      refine idleM rfl (fun w => Conc.stepG_region_end) (hQ .normal _ _ w₁ _ X₁ env H h ?_)
      exact ⟨hr1.rel, fun x hx => hx, fun x hx => hr1.dis x (hr1.own x hx), fun x hx => hr1.olt x (hr1.own x hx), hr1.os, hr1.tape, hr1.output, hr1.size, hr1.block, hr1.xs, hr1.xn, hr1.mine, hr1.c0⟩
/-- The starter takes a value: one of those that it awaits. -/
theorem awm_recv {id : Nat} {pre rest : List Oper} {t e : TypeId} {t1 t2 : Tmp} {ty pos after} {c : Nat} {pd : List Value} (ht : tchan P t = some e) (hz : (tzero P e).isSome = true) (hn : Nat.blt t2 n = true) (hne : pd ≠ [])
    (h : AOps none P n (pre ++ ⟨some t2, .recv t (.tmp t1) false, ty, pos, after, none⟩ :: rest).toArray pre env H (fun env' H' => look env' t1 = some (.v (.chan (some c))) ∧ ∀ l₁ v l₂, pd = l₁ ++ v :: l₂ → ∃ d, (∀ w O, Rep w O d v) ∧
      AOps none P n (pre ++ ⟨some t2, .recv t (.tmp t1) false, ty, pos, after, none⟩ :: rest).toArray rest ((t2, d) :: env') H' (fun env'' H'' => Q .normal (some (c, l₁ ++ l₂)) env'' H''))) :
    AWm Ps P n (some (c, pd)) (.region id (pre ++ ⟨some t2, .recv t (.tmp t1) false, ty, pos, after, none⟩ :: rest).toArray false) env H Q := by
  refine ⟨fun {C X0 M w0 O X a w} hr b k cs hb hQ => idleM rfl (fun w => Conc.stepG_region) ?_⟩
  have er : List.range (pre ++ ⟨some t2, .recv t (.tmp t1) false, ty, pos, after, none⟩ :: rest).toArray.size = List.range' ([] : List Oper).length pre.length ++ (pre.length :: (List.range' (pre ++ [(⟨some t2, .recv t (.tmp t1) false, ty, pos, after, none⟩ : Oper)]).length rest.length ++ [])) := by
    simp [List.range_eq_range', List.range'_append, ← List.range'_succ]
    have := List.range'_append (s := 0) (m := pre.length) (n := rest.length + 1) (step := 1)
    simpa using this.symm
  rw [er]
  generalize hops : (pre ++ ⟨some t2, .recv t (.tmp t1) false, ty, pos, after, none⟩ :: rest).toArray = ops at h
  have hmid : ops[pre.length]? = some ⟨some t2, .recv t (.tmp t1) false, ty, pos, after, none⟩ := by rw [← hops]; simp
  refine AOpsR.sound (κ := none) (main := true) (T := Fan.GoM P Ps (some (c, pd))) (post := ⟨some t2, .recv t (.tmp t1) false, ty, pos, after, none⟩ :: rest) (Fan.goM_closed _) hb pre [] env H _ (by simp [← hops]) h.out O X a w hr fun env' H' O' X' a' w' ⟨hk1, hk2⟩ hr' => ?_
  obtain ⟨us, hus⟩ := Option.isSome_iff_exists.1 hz
  have hstep : ∀ X₁ w₁, Fan.Rely X' w' X₁ w₁ → ∃ z, stepG P true (Conc.G (b.at a' (.inRegion ops (pre.length :: (List.range' (pre ++ [(⟨some t2, .recv t (.tmp t1) false, ty, pos, after, none⟩ : Oper)]).length rest.length ++ [])) :: k)) cs) w₁ = .comm (Conc.G (b.at a' (.inRegion ops (pre.length :: (List.range' (pre ++ [(⟨some t2, .recv t (.tmp t1) false, ty, pos, after, none⟩ : Oper)]).length rest.length ++ [])) :: k)) cs) #[Conc.rcase c z] true (.recv false) w₁ #[] := by
    intro X₁ w₁ hR
    have hch : a'.eval (.tmp t1) = .chan (some c) := (hr'.rely hR).rel.opdv (x := .tmp t1) hk1
    obtain ⟨z, hz1, hz2⟩ := tzero_spec hus w₁
    refine ⟨z, ?_⟩
    have hu : ∃ dir, P.underlying t = some (.chan dir e) := by
      unfold tchan at ht
      cases hu : P.underlying t with
      | none => rw [hu] at ht; cases ht
      | some d =>
        rw [hu] at ht
        cases d <;> simp only [reduceCtorEq, Option.some.injEq] at ht
        subst ht; exact ⟨_, rfl⟩
    obtain ⟨dir, hu⟩ := hu
    have hex : (execOp a'.eval (⟨some t2, .recv t (.tmp t1) false, ty, pos, after, none⟩ : Oper)).run P w₁ = .ok (.comm #[Conc.rcase c z] true (.recv false)) w₁ := by
      simp [execOp, run_underlying hu, hz1, hch, Conc.rcase]
    have hev : (execOp a'.eval (⟨some t2, .recv t (.tmp t1) false, ty, pos, after, none⟩ : Oper)).events P w₁ #[] = #[] := by
      simp [execOp, run_underlying hu, hz1, hch, events_zeroValue]
    have := Conc.stepG_comm (main := true) (P := P) (b := b) (a := a') (k := k) (cs := cs) (rest := (List.range' (pre ++ [(⟨some t2, .recv t (.tmp t1) false, ty, pos, after, none⟩ : Oper)]).length rest.length ++ [])) hmid rfl hb hex
    unfold Conc.listed at this
    rw [hev, Conc.seen_none] at this
    exact this
  refine .recv hne rfl (fun X₁ w₁ hR => let ⟨z, hz⟩ := hstep X₁ w₁ hR; ⟨_, z, _, hz, by simp⟩) fun X₁ w₁ g₂ z es l₁ v l₂ hR hst hpd => ?_
  obtain ⟨z', hz'⟩ := hstep X₁ w₁ hR
  rw [hz'] at hst
  cases hst
  obtain ⟨d, hd, hops2⟩ := hk2 l₁ v l₂ hpd
  rw [Conc.served_G, hmid]
  have hr1 := (hr'.rely hR).put (t := t2) (d := d) (v := v) (hd _ _) (by simpa [Nat.blt_eq] using hn)
  refine AOpsR.sound (κ := none) (main := true) (T := Fan.GoM P Ps (some (c, l₁ ++ l₂))) (post := []) (rest := []) (Fan.goM_closed _) hb rest (pre ++ [_]) _ H' _ (by simp [← hops]) hops2.out O' X₁ _ w₁ hr1 fun env'' H'' O'' X'' a'' w'' hk hr'' => ?_
  exact idleM rfl (fun w => Conc.stepG_region_end) (hQ .normal _ a'' w'' O'' X'' env'' H'' hk hr'')
end
end Go.Av
namespace Go.Av
open Go
set_option linter.unusedSimpArgs false
set_option linter.unusedVariables false
section generic
variable {P : Program} {T : Tgt} {ops : Array Oper} {Q : Act → (Nat → Prop) → (Nat → Prop) → World → Prop} {md : Region.Mode} {stop : List Nat} {Y : Type} {G : Y → (Nat → Prop) → World → Y → (Nat → Prop) → World → Prop}
theorem go_last {j fuel t : Nat} {l : Array Bool} (h1 : Region.ready md ops l = [j]) (h2 : Region.ready md ops (l.setIfInBounds j true) = []) : Region.linearise.go md ops (fuel + 1) t l [] = [j] := by
  simp only [Region.linearise.go]
  change (match (Region.ready md ops l)[t % (Region.ready md ops l).length]? with
      | some i => Region.linearise.go md ops fuel (t / (Region.ready md ops l).length) (l.setIfInBounds i true) [i]
      | none => [].reverse) = [j]
  rw [h1]
  simp only [List.length_cons, List.length_nil, Nat.zero_add, Nat.mod_one, List.getElem?_cons_zero]
  rw [linearise_go_acc, List.reverse_singleton, go_nil h2]; rfl
/-- As 'anyS_sound', with what is held of the operations that have come up. -/
theorem anyS_soundJ {main : Bool} (hT : Fan.Closed P main T) {b : Frame} {k : List Item} {cs : List Frame} (hb : b.kind ≠ .early) (J : Array Bool → Prop)
    (hJ : ∀ l i, J l → i ∈ Region.ready md ops l → i ∉ stop → J (l.setIfInBounds i true)) (hne : ∀ l : Array Bool, J l → Region.ready md ops l ≠ []) (hsx : ∀ (l : Array Bool) i, J l → i ∈ Region.ready md ops l → i ∈ stop → Region.ready md ops l = stop)
    (hQ : ∀ fuel t listed a O X w, J listed → Region.ready md ops listed = stop → Q a O X w → T O X (Conc.G (b.at a (.inRegion ops (Region.linearise.go md ops (fuel + 1) t listed []) :: k)) cs) w) : ∀ (fuel t : Nat) (listed : Array Bool) (a : Act) (O X : Nat → Prop) (w : World) (x : Y),
    J listed → anyS stop P T md ops Q G fuel listed a O X w x → T O X (Conc.G (b.at a (.inRegion ops (Region.linearise.go md ops fuel t listed []) :: k)) cs) w := by
  intro fuel
  induction fuel with
  | zero =>
    intro t listed a O X w x hj h
    exact absurd (h X w (Fan.Rely.refl X w)).1 (hne listed hj)
  | succ fuel ih =>
    intro t listed a O X w x hj h
    by_cases hst : Region.ready md ops listed = stop
    · exact hQ fuel t listed a O X w hj hst ((h X w (Fan.Rely.refl X w)).1 hst)
    simp only [Region.linearise.go]
    change T O X (Conc.G (b.at a (.inRegion ops (match (Region.ready md ops listed)[t % (Region.ready md ops listed).length]? with
      | some i => Region.linearise.go md ops fuel (t / (Region.ready md ops listed).length) (listed.setIfInBounds i true) [i]
      | none => [].reverse) :: k)) cs) w
    cases hi : (Region.ready md ops listed)[t % (Region.ready md ops listed).length]? with
    | none =>
      have hnil : Region.ready md ops listed = [] := by
        cases hr : Region.ready md ops listed with
        | nil => rfl
        | cons x xs =>
          rw [hr] at hi
          have hlt : t % (x :: xs).length < (x :: xs).length := Nat.mod_lt _ (by simp)
          simp at hi
          simp at hlt
          omega
      exact absurd hnil (hne listed hj)
    | some i =>
      have hmem := List.mem_of_getElem? hi
      have his : i ∉ stop := fun h => hst (hsx listed i hj hmem h)
      have hj' := hJ listed i hj hmem his
      simp only []
      rw [linearise_go_acc, List.reverse_singleton, List.singleton_append]
      cases ho : ops[i]? with
      | none => have := (h X w (Fan.Rely.refl X w)).2 i hmem his; unfold Op1 at this; rw [ho] at this; exact this.elim
      | some o =>
        by_cases hw : Region.wanted o (yielded ops a.tmps) = true
        · have hS : SemS P T (execOp a.eval o) (fun v O' X' w' => T O' X' (Conc.G (b.at (a.put o.dst v) (.inRegion ops (Region.linearise.go md ops fuel (t / (Region.ready md ops listed).length) (listed.setIfInBounds i true) []) :: k)) cs) w') O X w := by
            intro X₁ w₁ hR
            have h1 := (h X₁ w₁ hR).2 i hmem his
            unfold Op1 at h1
            rw [ho] at h1
            simp only at h1
            rw [if_pos hw] at h1
            exact upS_mono (fun v O' X' w' ⟨x', _, h'⟩ => ih _ _ _ _ _ _ x' hj' h') h1
          exact hS.step hT hb ho hw (fun v O' X' w' q => q)
        · have h1 := (h X w (Fan.Rely.refl X w)).2 i hmem his
          unfold Op1 at h1
          rw [ho] at h1
          simp only at h1
          rw [if_neg hw] at h1
          obtain ⟨x', _, h'⟩ := h1
          exact hT.idle rfl (fun w => Conc.stepG_unwanted ho (by simpa using hw)) (ih _ _ _ _ _ _ x' hj' h')
end generic
section
variable {P : Program} {n : Nat} {env : Env} {H : Heap} {dst : Option Tmp} {ty : TypeId} {pos : String} {after : Array Edge} {gd : Option (Nat × Bool)}
structure AAnyT (stop : List Nat) (P : Program) (n : Nat) (ops : Array Oper) (fuel : Nat) (listed : Array Bool) (env : Env) (H : Heap) (K : Env → Heap → Prop) : Prop where
  out : ∀ {main T}, Fan.Closed P main T → ∀ {C X0 M w0 O X a w}, RelC C X0 M w0 n env H O X a w → ∀ (Q : Act → (Nat → Prop) → (Nat → Prop) → World → Prop),
    (∀ env' H' a' O' X' w', K env' H' → RelC C X0 M w0 n env' H' O' X' a' w' → Q a' O' X' w') → anyS stop P T .any ops Q Gr fuel listed a O X w H
theorem aanyT_take {stop ops fuel listed K d t} (i : Nat) {o : Oper} (his : i ∉ stop) (ho : ops[i]? = some o) (hgd : Gd ops env o true) (hs : Region.noSelect ops = true) (hf : Region.free .any ops listed i = true) (hr : (Region.ready .any ops listed).contains i = true)
    (h : AR P n [] o env H d) (hd : o.dst = some t) (ht : Nat.blt t n = true) (hk : AAnyT stop P n ops fuel (listed.setIfInBounds i true) ((t, d) :: env) H K) : AAnyT stop P n ops (fuel + 1) listed env H K := by
  refine ⟨fun {main T} fit C X0 M w0 O X a w hrel Q hQ => ?_⟩
  obtain ⟨v, h1, h2⟩ := h.out _ _ _ a w X hrel.rel (fun o ho => absurd ho List.not_mem_nil) (fun b hb => .inr hb) (fun o ho => absurd ho List.not_mem_nil)
  refine anyS_first (v := v) Gr.refl Gr.rely Gr.trans his ho (Region.noSelect_spec hs) fuel listed a O X w H (Region.free_spec ho hf) (by simpa using hr) (.inl ⟨hgd.wanted hrel.rel, fun X' w' ⟨x', hG⟩ => ?_⟩) ?_
  · obtain ⟨k1, k2⟩ := h2 w' hG.block
    exact ⟨k1, fun e he => by
      obtain ⟨ad, q1, q2, q3⟩ := k2 e he
      refine ⟨ad, q1, Nat.lt_of_lt_of_le q2 hG.size, fun hx => ?_⟩
      rcases hG.xn _ hx with h' | h'
      · exact q3 h'
      · omega⟩
  · rw [hd]
    exact hk.out fit (hrel.put h1 (by simpa [Nat.blt_eq] using ht)) Q hQ
theorem aanyT_one {stop ops fuel listed K} (i : Nat) {op : Op} (his : i ∉ stop) (hr : Region.ready .any ops listed = [i]) (ho : ops[i]? = some ⟨dst, op, ty, pos, after, none⟩)
    (h : AOps none P n ops [⟨dst, op, ty, pos, after, none⟩] env H (fun env' H' => AAnyT stop P n ops fuel (listed.setIfInBounds i true) env' H' K)) : AAnyT stop P n ops (fuel + 1) listed env H K := by
  have h' := h.out
  unfold AOpsR at h'
  refine ⟨fun {main T} fit C X0 M w0 O X a w hrel Q hQ X₁ w₁ hR => ⟨fun h0 => absurd (by rw [← h0, hr]; simp) his, fun j hj _ => ?_⟩⟩
  obtain rfl : j = i := by rw [hr] at hj; simpa using hj
  have hr1 := hrel.rely hR
  unfold Op1
  simp only [ho]
  rw [if_pos (by simp [Region.wanted])]
  exact (h'.out (κ := none) (main := main) (T := T) fit hr1.rebase (fun a' O' X' w' => ∃ x', Gr H X₁ w₁ x' X' w' ∧ anyS stop P T .any ops Q Gr fuel (listed.setIfInBounds j true) a' O' X' w' x') (fun env' H' a' O' X' w' hk hr' =>
    ⟨H', hr'.gr, (show AAnyT stop P n ops fuel (listed.setIfInBounds j true) env' H' K from hk).out fit (hr1.unbase hr') Q hQ⟩)) X₁ w₁ (Fan.Rely.refl _ _)
theorem aanyT_stop {stop ops fuel listed} {K : Env → Heap → Prop} (hr : Region.ready .any ops listed = stop) (hk : K env H) : AAnyT stop P n ops (fuel + 1) listed env H K := by
  refine ⟨fun {main T} fit C X0 M w0 O X a w hrel Q hQ X₁ w₁ hR => ⟨fun _ => hQ _ _ _ _ _ _ hk (hrel.rely hR), fun i hi hns => absurd (hr ▸ hi) hns⟩⟩
/-- A worker out of its walk. -/
theorem conW_intro {g : FuncId} {fn : Func} {id : Nat} {l : List Oper} {args : List D} {c j : Nat} {v : Value} {tc tv : Tmp} {ty pos after} (hf : P.funcs[g]? = some fn) (hb : fn.body = some (.region id l.toArray true)) (hres : fn.results = #[])
    (hcall : ∀ (vs : Array Value) (w : World), (callFunc g vs).run P w = .ok (.enter g vs) w) (hlen : Nat.ble args.length fn.ntmps = true) (hmix : P.follows .mixedOrders = true) (hlast : P.funcs[P.funcs.size]? = none)
    (hj : l.toArray[j]? = some ⟨none, .send (.tmp tc) (.tmp tv), ty, pos, after, none⟩) (J : Array Bool → Prop) (hJ0 : J (Array.replicate l.toArray.size false))
    (hJ : ∀ a i, J a → i ∈ Region.ready .any l.toArray a → i ∉ [j] → J (a.setIfInBounds i true)) (hne : ∀ a : Array Bool, J a → Region.ready .any l.toArray a ≠ []) (hsx : ∀ (a : Array Bool) i, J a → i ∈ Region.ready .any l.toArray a → i ∈ [j] → Region.ready .any l.toArray a = [j])
    (hend : ∀ a, J a → Region.ready .any l.toArray a = [j] → Region.ready .any l.toArray (a.setIfInBounds j true) = [])
    (h : AAnyT [j] P fn.ntmps l.toArray l.toArray.size (Array.replicate l.toArray.size false) (argEnv 0 args) [] (fun env' _ => look env' tc = some (.v (.chan (some c))) ∧ ∃ d, look env' tv = some d ∧ ∀ w O y, Rep w O d y → y = v)) : ConW P g args c v := by
  refine ⟨hcall, ⟨fn, _, hf, hb⟩, fun {O X w vs} hr0 hargs => ?_⟩
  rw [Conc.enter_atD _ hf hb]
  have hl := hargs.length
  have hlen' : args.length ≤ fn.ntmps := by simpa using hlen
  have start : RelC (fun _ => False) X [] w fn.ntmps (argEnv 0 args) [] O X { tmps := vs.toArray ++ Array.replicate (fn.ntmps - vs.toArray.size) undef, defers := [] } w := by
    refine ⟨⟨fun i d hi => ?_, hr0.rel.heap, Fr.refl _ _, fun b hb => .inl hb, hr0.rel.heap.frb, rfl, ?_⟩, hr0.own, hr0.dis, hr0.olt, rfl, rfl, rfl, Nat.le_refl _, fun _ _ _ _ => rfl, fun _ hb => hb, fun _ hb => .inl hb, fun _ hb => .inl hb, fun b hb => hb.elim⟩
    · obtain ⟨h1, h2⟩ := argEnv_look args 0 i d hi
      simp only [Nat.sub_zero] at h2
      obtain ⟨u, h3, h4⟩ := hargs.get h2
      refine ⟨u, ?_, h4⟩
      have hil : i < vs.length := (List.getElem?_eq_some_iff.1 h3).1
      rw [Array.getElem?_append_left (by simpa using hil)]
      simpa using h3
    · simp only [Array.size_append, List.size_toArray, Array.size_replicate]; omega
  generalize ({ tmps := vs.toArray ++ Array.replicate (fn.ntmps - vs.toArray.size) undef, defers := [] } : Act) = a0 at start
  refine Fan.goW_closed.step _ _ _ _ rfl fun X₁ w₁ hR => ?_
  refine ⟨_, _, _, Conc.stepG_region_draw, ⟨rfl, rfl, rfl, Nat.le_refl _, fun _ _ _ => rfl, by simp⟩, ?_⟩
  have hr : RelC (fun _ => False) X [] w fn.ntmps (argEnv 0 args) [] O X₁ a0 { w₁ with drawn := w₁.drawn + 1 } := (start.rely hR).rely (Fan.Rely.at X₁ w₁ (w₁.drawn + 1))
  have eg : Fan.grow O w₁.heap.size ({ w₁ with drawn := w₁.drawn + 1 } : World).heap.size = O := Fan.grow_same O _
  rw [eg]
  simp only [Region.schedule, hmix, Bool.true_or, if_true]
  refine anyS_soundJ (Q := fun a O X w => ∃ env' H' w0, RelC (fun _ => False) X₁ [] w0 fn.ntmps env' H' O X a w ∧ look env' tc = some (.v (.chan (some c))) ∧ ∃ d, look env' tv = some d ∧ ∀ w O y, Rep w O d y → y = v) Fan.goW_closed (by simp [Conc.baseD]) J hJ hne hsx (fun fuel t listed a O X w hj1 hrd ⟨env', H', w0, hrel, q1, d, q2, q3⟩ => ?_) _ _ _ a0 O X₁ _ [] hJ0 (h.out Fan.goW_closed hr.rebase _ (fun env' H' a' O' X' w' hk hr' => ⟨env', H', _, hr', hk⟩))
  · rw [go_last hrd (hend _ hj1 hrd)]
    refine .send rfl fun X₂ w₂ hR2 => ?_
    have hr2 := (hrel.rely hR2).rel
    have e1 := hr2.opdv (x := .tmp tc) q1
    have e2 : a.eval (.tmp tv) = v := q3 _ _ _ (hr2.opd (x := .tmp tv) q2)
    have hex : (execOp a.eval (⟨none, .send (.tmp tc) (.tmp tv), ty, pos, after, none⟩ : Oper)).run P w₂ = .ok (.comm #[Conc.scase c v (.tuple #[])] true .send) w₂ := by simp [execOp, e1, e2, Conc.scase]
    have hev : (execOp a.eval (⟨none, .send (.tmp tc) (.tmp tv), ty, pos, after, none⟩ : Oper)).events P w₂ #[] = #[] := by simp [execOp, e1, e2]
    have hst := Conc.stepG_comm (main := false) (P := P) (b := Conc.baseD g) (a := a) (k := []) (cs := [bot P]) (rest := []) hj rfl (by simp [Conc.baseD]) hex
    unfold Conc.listed at hst
    rw [hev, Conc.seen_none] at hst
    refine ⟨_, _, _, hst, by simp, ?_⟩
    rw [Conc.served_G, hj]
    refine ⟨4, Conc.QuitsIn.ctl rfl (fun w => Conc.stepG_region_end) (Conc.QuitsIn.ctl rfl (fun w => Conc.stepG_end) ?_)⟩
    refine Conc.QuitsIn.ctl (g' := Conc.G (bot P) []) rfl (fun w => ?_) ?_
    · simp [Conc.G, stepG, unwind, doReturn, results, Frame.at, Conc.baseD, bot, hf, hres, Act.put, hr2.dfr, seen, GStep.after, goexitEntry]
    · refine Conc.QuitsIn.ctl (g' := { Conc.G (bot P) [] with status := .finished }) rfl (fun w => ?_) (by simp [Conc.QuitsIn])
      simp [Conc.G, stepG, unwind, bot, goexitEntry, Frame.catches, hlast]
      rfl
end
end Go.Av
namespace Go.Av
open Go
set_option linter.unusedSimpArgs false
set_option linter.unusedVariables false
section
variable {Ps : Value → World → Prop} {P : Program} {n : Nat} {s : Pd} {env : Env} {H : Heap} {Q : Exit → Pd → Env → Heap → Prop}
theorem seqM_n {N : Pd → Env → Heap → Prop} {e h} (k : N s e h) : seqM N Q .normal s e h := k
theorem seqM_x {N : Pd → Env → Heap → Prop} {i e h} (k : Q (.exit i) s e h) : seqM N Q (.exit i) s e h := k
theorem blockM_n {id e h} (k : Q .normal s e h) : blockM id Q .normal s e h := k
theorem blockM_x {id i e h} (hi : Nat.beq i id = true) (k : Q .normal s e h) : blockM id Q (.exit i) s e h := by simp only [blockM, hi, cond_true]; exact k
theorem awm_region {id : Nat} {l : List Oper} (h : AOps none P n l.toArray l env H (fun env' H' => Q .normal s env' H')) : AWm Ps P n s (.region id l.toArray false) env H Q :=
  awm_of (Q' := fun e env' H' => e = .normal ∧ Q .normal s env' H') (awp_region ⟨AOpsR_mono h.out⟩) (fun e env' H' ⟨he, q⟩ => by subst he; exact q)
where
  AOpsR_mono {ops : Array Oper} : ∀ {l : List Oper} {env : Env} {H : Heap} {K : Env → Heap → Prop}, AOpsR none P n ops l env H K → AOpsR none P n ops l env H (fun e h => Exit.normal = .normal ∧ K e h)
    | [], env, H, K, h => ⟨rfl, h⟩
    | o :: l, env, H, K, h => by
      unfold AOpsR at h ⊢
      cases hg : o.guard with
      | none => rw [hg] at h; exact h.mono fun _ _ k => AOpsR_mono k
      | some jw =>
        obtain ⟨j, want⟩ := jw
        rw [hg] at h
        obtain ⟨t, x, h1, h3, h4, h5, h6⟩ := h
        exact ⟨t, x, h1, h3, h4, fun hx => (h5 hx).mono fun _ _ k => AOpsR_mono k, fun hx => AOpsR_mono (h6 hx)⟩
theorem awm_cond_f {c : Operand} {t : Bool} {c1 c2 : Code} (hc : opd env c = some (.b t)) (ht : t = false) (h : AWm Ps P n s c2 env H Q) : AWm Ps P n s (.cond c c1 c2) env H Q :=
  awm_cond hc (fun e => absurd (e.symm.trans ht) (by decide)) (fun _ => h)
theorem awm_loop1 {α : Type} {c : Code} (S : α → Pd) (live : List Nat) {e0} (h0 : Heap) (U : α → Env → Env) (V : α → Heap → Heap) (I : α → Prop) (μ : α → Nat) (a0 : α) (hs : Sel env live e0) (hI : I a0) (hw : Wk env H (U a0 e0) (V a0 h0)) (hS : s = S a0)
    (round : ∀ a, I a → AWm Ps P n (S a) c (U a e0) (V a h0) (seqM (fun s' env' H' => ∃ a', I a' ∧ μ a' < μ a ∧ s' = S a' ∧ Wk env' H' (U a' e0) (V a' h0)) Q)) : AWm Ps P n s (.loop c) env H Q :=
  awm_loop S (fun a => U a e0) (fun a => V a h0) I μ a0 hI hS hw round
theorem awm_mono {c : Code} {Q' : Exit → Pd → Env → Heap → Prop} (h : AWm Ps P n s c env H Q) (hq : ∀ e s' env' H', Q e s' env' H' → Q' e s' env' H') : AWm Ps P n s c env H Q' :=
  ⟨fun hr _ _ _ hb hQ => h.out hr hb (fun e s' a' w' O' X' env' H' q => hQ e s' a' w' O' X' env' H' (hq _ _ _ _ q))⟩
theorem awm_loop2 {α β : Type} {c : Code} (S : α → β → Pd) (live : List Nat) {e0} (h0 : Heap) (U : α → β → Env → Env) (V : α → β → Heap → Heap) (I : α → β → Prop) (μ : α → β → Nat) (a0 : α) (b0 : β) (hs : Sel env live e0) (hI : I a0 b0) (hw : Wk env H (U a0 b0 e0) (V a0 b0 h0)) (hS : s = S a0 b0)
    (round : ∀ a b, I a b → AWm Ps P n (S a b) c (U a b e0) (V a b h0) (seqM (fun s' env' H' => ∃ a' b', I a' b' ∧ μ a' b' < μ a b ∧ s' = S a' b' ∧ Wk env' H' (U a' b' e0) (V a' b' h0)) Q)) : AWm Ps P n s (.loop c) env H Q :=
  awm_loop (ι := α × β) (fun p => S p.1 p.2) (fun p => U p.1 p.2 e0) (fun p => V p.1 p.2 h0) (fun p => I p.1 p.2) (fun p => μ p.1 p.2) (a0, b0) hI hS hw (fun p hp => awm_mono (round p.1 p.2 hp) (fun e s' env' H' hq => by
    cases e with
    | normal => obtain ⟨a', b', h⟩ := hq; exact ⟨(a', b'), h⟩
    | _ => exact hq))
theorem awm_freeze {c : Code} (v : Value) (live : List Nat) {ety sz l H1 H' env'} (hk : Rem H (.arr v ety sz l) H1) (he : SelC v sz l env live env') (hh : HeapA v sz l H1 H') (h : AWm Ps P n s c env' H' Q) : AWm Ps P n s c env H Q :=
  awm_wk (wk_freeze hk he.sub hh.heapC) h
theorem awm_recv1 {id : Nat} {o0 : Oper} {rest : List Oper} {t e : TypeId} {t1 t2 : Tmp} {ty pos after} {c : Nat} {pd : List Value} (ht : tchan P t = some e) (hz : (tzero P e).isSome = true) (hn : Nat.blt t2 n = true) (hne : pd ≠ [])
    (h : AOps none P n (o0 :: ⟨some t2, .recv t (.tmp t1) false, ty, pos, after, none⟩ :: rest).toArray [o0] env H (fun env' H' => look env' t1 = some (.v (.chan (some c))) ∧ ∀ l₁ v l₂, pd = l₁ ++ v :: l₂ → ∃ d, (∀ w O, Rep w O d v) ∧
      AOps none P n (o0 :: ⟨some t2, .recv t (.tmp t1) false, ty, pos, after, none⟩ :: rest).toArray rest ((t2, d) :: env') H' (fun env'' H'' => Q .normal (some (c, l₁ ++ l₂)) env'' H''))) :
    AWm Ps P n (some (c, pd)) (.region id (o0 :: ⟨some t2, .recv t (.tmp t1) false, ty, pos, after, none⟩ :: rest).toArray false) env H Q :=
  awm_recv (pre := [o0]) ht hz hn hne h
/-- The orders that may come up, checked. -/
def okJ (ops : Array Oper) (j : Nat) (l : List (Array Bool)) : Bool :=
  l.contains (Array.replicate ops.size false) && l.all fun a => !(Region.ready .any ops a).isEmpty && ((Region.ready .any ops a).all fun i => Nat.beq i j || l.contains (a.setIfInBounds i true)) && (!(Region.ready .any ops a).contains j || (Region.ready .any ops a == [j])) && (!(Region.ready .any ops a == [j]) || (Region.ready .any ops (a.setIfInBounds j true)).isEmpty)
theorem conW_of {g : FuncId} {fn : Func} {id : Nat} {l : List Oper} {args : List D} {c : Nat} (j : Nat) {v : Value} {tc tv : Tmp} {ty pos after} (hf : P.funcs[g]? = some fn) (hb : fn.body = some (.region id l.toArray true)) (hres : fn.results = #[])
    (hcall : ∀ (vs : Array Value) (w : World), (callFunc g vs).run P w = .ok (.enter g vs) w) (hlen : Nat.ble args.length fn.ntmps = true) (hmix : P.follows .mixedOrders = true)
    (hj : l.toArray[j]? = some ⟨none, .send (.tmp tc) (.tmp tv), ty, pos, after, none⟩) (Jl : List (Array Bool)) (hJ : okJ l.toArray j Jl = true)
    (h : AAnyT [j] P fn.ntmps l.toArray l.toArray.size (Array.replicate l.toArray.size false) (argEnv 0 args) [] (fun env' _ => look env' tc = some (.v (.chan (some c))) ∧ ∃ d, look env' tv = some d ∧ ∀ w O y, Rep w O d y → y = v)) : ConW P g args c v := by
  unfold okJ at hJ
  rw [Bool.and_eq_true, List.all_eq_true] at hJ
  obtain ⟨h0, hA⟩ := hJ
  have hA' : ∀ a ∈ Jl, ((Region.ready .any l.toArray a ≠ [] ∧ ∀ i ∈ Region.ready .any l.toArray a, i = j ∨ a.setIfInBounds i true ∈ Jl) ∧ (j ∈ Region.ready .any l.toArray a → Region.ready .any l.toArray a = [j])) ∧ (Region.ready .any l.toArray a = [j] → Region.ready .any l.toArray (a.setIfInBounds j true) = []) := by
    intro a ha
    have := hA a ha
    simp only [Bool.and_eq_true, Bool.not_eq_true', Bool.or_eq_true, List.all_eq_true, Nat.beq_eq_true_eq, List.contains_iff_mem, beq_iff_eq, List.isEmpty_iff, List.isEmpty_eq_false_iff] at this
    obtain ⟨⟨⟨q1, q2⟩, q3⟩, q4⟩ := this
    refine ⟨⟨⟨q1, fun i hi => (q2 i hi).imp Nat.eq_of_beq_eq_true (fun h => h)⟩, fun h => ?_⟩, fun h => ?_⟩
    · rcases q3 with q3 | q3
      · rw [← List.contains_iff_mem, q3] at h; cases h
      · exact q3
    · rcases q4 with q4 | q4
      · rw [h] at q4; simp at q4
      · exact q4
  refine conW_intro hf hb hres hcall hlen hmix (by simp) hj (fun a => a ∈ Jl) (by simpa using h0) (fun a i ha hi hn => ?_) (fun a ha => (hA' a ha).1.1.1) (fun a i ha hi hs => ?_) (fun a ha => (hA' a ha).2) h
  · rcases (hA' a ha).1.1.2 i hi with h' | h'
    · exact absurd (by simp [h']) hn
    · exact h'
  · obtain rfl : i = j := by simpa using hs
    exact (hA' a ha).1.2 hi
end
end Go.Av
namespace Go.Av
open Go Go.RowKit
set_option linter.unusedVariables false
theorem law_argsM {P : Program} {f : FuncId} {ds : List D} {vs : List Value} {w : World} (hc : ∀ Ps, Con (some Ps) P f ds [] (Is (.b true) [])) (hi : P.inits.idxOf? f = none) (w0 : RepT w Nob ds vs) :
    Fan.EndsM P (fun v w' => v = .bool true ∧ Below w.heap.size w w') (Conc.solo (Conc.G (Frame.enter P f vs.toArray .normal) []) w) #[] := by
  have hok : HeapOk (fun b => False ∨ False) [] w := ⟨fun o ho => absurd ho List.not_mem_nil, by simp [Hb], fun b hb => by simp [Hb] at hb, fun b hb => by simp at hb⟩
  have hr : RelC (fun _ => False) (fun _ => False) (Hb []) w 0 [] [] (fun _ => False) (fun _ => False) nact w :=
    ⟨rel_nil hok, fun b hb => by simp [Hb] at hb, fun b hb => hb.elim, fun b hb => hb.elim, rfl, rfl, rfl, Nat.le_refl _, fun _ _ _ _ => rfl, fun _ h => h, fun _ h => .inl h, fun b hb => by simp [Hb] at hb, fun b hb => hb.elim⟩
  refine ((hc _).top ⟨rfl, rfl⟩ hi hr (w0.iff (fun b hb => ?_)) (fun v d H' O' X' w' hq hrep hrel => ?_)).run (fun b hb => hb.elim) (fun b hb => hb.elim) (fun b hb => hb.elim)
  · rcases hb with hb | hb
    · simp at hb
    · simp [Hb] at hb
  · obtain ⟨rfl, rfl⟩ := hq
    simp only [Rep] at hrep
    subst hrep
    exact ⟨rfl, hrel.os, hrel.tape, hrel.output, hrel.size, fun k hk => hrel.block k hk (by simp [Hb]) (fun h => h)⟩
end Go.Av
namespace Go.Av
open Go
set_option linter.unusedSimpArgs false
set_option linter.unusedVariables false
section
variable {P : Program} (w : World)
theorem events_equalIn_struct (d : Nat) (t : TypeId) (xs ys : Array Value) (es : Array Event) (ht : P.underlying t = some (.struct (P.fieldsOf t))) (hp : P.stoodInHeld t = false) :
    (Op.equalIn (d + 1) t (.agg xs) (.agg ys)).events P w es = (Op.eqFields d xs ys (P.fieldsOf t).toList).events P w es := by
  simp only [Op.equalIn, Sem.events_bind, Sem.run_bind, run_underlying ht, events_underlying, Result.andThen_ok, Result.evThen_ok, run_program, events_program, hp, Bool.false_eq_true, if_false]
  rw [← Array.forIn_toList]
  generalize (P.fieldsOf t).toList = fs
  clear ht
  induction fs generalizing w es with
  | nil => simp [Op.eqFields]
  | cons f fs ih =>
    simp only [List.forIn_cons, Op.eqFields, Sem.events_bind, Sem.run_bind, Sem.run_ite, Sem.events_ite]
    split
    · generalize (part f.type xs f.offset).run P w = r1
      generalize (part f.type xs f.offset).events P w es = e1
      cases r1 with
      | ok a w1 =>
        simp only [Result.andThen_ok, Result.evThen_ok, Sem.events_bind]
        generalize (part f.type ys f.offset).run P w1 = r2
        generalize (part f.type ys f.offset).events P w1 e1 = e2
        cases r2 with
        | ok b w2 =>
          simp only [Result.andThen_ok, Result.evThen_ok, Sem.events_bind]
          generalize (Op.equalIn d f.type a b).run P w2 = r3
          generalize (Op.equalIn d f.type a b).events P w2 e2 = e3
          cases r3 with
          | ok r w3 =>
            cases r
            · simp
            · simp only [Result.andThen_ok, Result.evThen_ok, Bool.not_true, Bool.false_eq_true, if_false, Sem.run_pure, Sem.events_pure]
              exact ih w3 e3
          | halt x w3 => simp [Result.andThen]
        | halt x w2 => simp [Result.andThen]
      | halt x w1 => simp [Result.andThen]
    · simp only [Sem.run_pure, Sem.events_pure, Result.andThen_ok, Result.evThen_ok]
      exact ih w es
theorem events_equalIn_int (d : Nat) (t : TypeId) (k k' : IntKind) (a b : Int) (es : Array Event) (h : P.underlying t = some (.int k')) : (Op.equalIn (d + 1) t (.int k a) (.int k b)).events P w es = es := by
  simp [Op.equalIn, run_underlying h]
theorem events_equalIn_bool (d : Nat) (t : TypeId) (a b : Bool) (es : Array Event) (h : P.underlying t = some .bool) : (Op.equalIn (d + 1) t (.bool a) (.bool b)).events P w es = es := by
  simp [Op.equalIn, run_underlying h]
theorem events_equalIn_string (d : Nat) (t : TypeId) (a b : ByteArray) (es : Array Event) (h : P.underlying t = some .string) : (Op.equalIn (d + 1) t (.string a) (.string b)).events P w es = es := by
  simp [Op.equalIn, run_underlying h]
theorem events_eqGuard_agg (op : BinOp) (t : TypeId) (x y : Operand) (xs ys : Array Value) (es : Array Event) (hm : P.eqGuardType P.depth t = false) : (eqGuard op t x y (.agg xs) (.agg ys)).events P w es = es := by
  cases op <;> simp [eqGuard, run_program, hm]
end
/-- What '==' says of two structs of numbers, truth values and strings. -/
def EqS (P : Program) (t : TypeId) (A B : Array Value) (b : Bool) : Prop := P.eqGuardType P.depth t = false ∧ ∀ w, (Op.equalIn 10000 t (.agg A) (.agg B)).run P w = .ok b w ∧ (Op.equalIn 10000 t (.agg A) (.agg B)).events P w #[] = #[]
theorem AllV.vals {w : World} {O : Nat → Prop} : ∀ {us ds} {cs : List Value}, AllV us ds → RepL w O ds cs → cs = us := by
  intro us ds cs h
  induction h generalizing cs with
  | nil => intro h; simpa [RepL] using h
  | cons hu h ih =>
    intro hr
    simp only [RepL, Rep] at hr
    obtain ⟨c, cr, rfl, rfl, _, h4⟩ := hr
    rw [ih h4]
theorem AllV.agg {w : World} {O : Nat → Prop} {us ds} {y : Value} (h : AllV us ds) (hr : Rep w O (.agg ds) y) : y = .agg us.toArray := by
  simp only [Rep] at hr
  obtain ⟨cs, rfl, h2⟩ := hr
  rw [h.vals h2]
section
variable {P : Program} {n : Nat} {env : Env} {H : Heap} {dst : Option Tmp} {ty : TypeId} {pos : String} {after : Array Edge} {gd : Option (Nat × Bool)} {x y : Operand}
theorem ap_eqV {t u us vs ds es b} (hx : opd env x = some (.agg ds)) (hu : AllV us ds) (hy : opd env y = some (.agg es)) (hv : AllV vs es) (he : EqS P t us.toArray vs.toArray b) : AP P n ⟨dst, .binOp .eql t x y u, ty, pos, after, gd⟩ env H (.b b) := by
  refine ⟨fun F M w0 f w hr => ?_⟩
  have h1 := hu.agg (hr.opd hx)
  have h2 := hv.agg (hr.opd hy)
  refine ⟨.bool b, by simp [Rep], fun w' => ⟨?_, ?_⟩⟩
  · simp only [execOp, h1, h2]
    simp only [Sem.run_bind, run_eqGuard_agg _ _ _ _ _ _ _ he.1, Result.andThen_ok, run_eql_struct, (he.2 w').1]
    simp only [Sem.run_pure, Sem.run_map, Result.andThen_ok]
  · simp only [execOp, h1, h2]
    simp only [Sem.events_bind, Sem.run_bind, run_eqGuard_agg _ _ _ _ _ _ _ he.1, events_eqGuard_agg _ _ _ _ _ _ _ _ he.1, Result.andThen_ok, Result.evThen_ok, binOp, Op.equal, Op.maxDepth, (he.2 w').1, (he.2 w').2]
    simp [(he.2 w').1, (he.2 w').2]
theorem ap_neV {t u us vs ds es b} (hx : opd env x = some (.agg ds)) (hu : AllV us ds) (hy : opd env y = some (.agg es)) (hv : AllV vs es) (he : EqS P t us.toArray vs.toArray b) : AP P n ⟨dst, .binOp .neq t x y u, ty, pos, after, gd⟩ env H (.b !b) := by
  refine ⟨fun F M w0 f w hr => ?_⟩
  have h1 := hu.agg (hr.opd hx)
  have h2 := hv.agg (hr.opd hy)
  refine ⟨.bool !b, by simp [Rep], fun w' => ⟨?_, ?_⟩⟩
  · simp only [execOp, h1, h2]
    simp only [Sem.run_bind, run_eqGuard_agg _ _ _ _ _ _ _ he.1, Result.andThen_ok, run_neq_struct, (he.2 w').1]
    simp only [Sem.run_pure, Sem.run_map, Result.andThen_ok]
  · simp only [execOp, h1, h2]
    simp only [Sem.events_bind, Sem.run_bind, run_eqGuard_agg _ _ _ _ _ _ _ he.1, events_eqGuard_agg _ _ _ _ _ _ _ _ he.1, Result.andThen_ok, Result.evThen_ok, binOp, Op.equal, Op.maxDepth, (he.2 w').1, (he.2 w').2]
    simp [(he.2 w').1, (he.2 w').2]
end
end Go.Av
