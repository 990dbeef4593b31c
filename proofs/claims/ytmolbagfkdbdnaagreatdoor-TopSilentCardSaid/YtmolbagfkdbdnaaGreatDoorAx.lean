/- Rules for walking through the model's code over a symbolic state: what a function is called with, what it owns, what it answers. No condition beyond what each rule says. -/
import Derived.Test.YtmolbagfkdbdnaaGreatDoorAv
import Derived.Shelf.SlSortCmp.Whole1
import Derived.Lib.ConvBytes
namespace Go.Av
open Go Go.Sort Go.Proofs
set_option linter.unusedVariables false
set_option linter.unusedSimpArgs false
theorem repT_vals {w : World} {O : Nat → Prop} : ∀ {args vs : List Value}, RepT w O (args.map .v) vs → vs = args
  | [], vs, h => by simpa [RepT] using h
  | a :: r, vs, h => by
    simp only [List.map_cons, RepT, Rep] at h
    obtain ⟨c, cr, rfl, rfl, h⟩ := h
    rw [repT_vals h]
theorem repT_of_vals {w : World} {O : Nat → Prop} : ∀ {args : List Value}, RepT w O (args.map .v) args
  | [] => by simp [RepT]
  | a :: r => by
    simp only [List.map_cons, RepT, Rep]
    exact ⟨a, r, rfl, rfl, repT_of_vals⟩
/-- What a function of plain values does that leaves the world as it is. -/
theorem Con.ofPure {P : Program} {f : FuncId} {args : List Value} {r : Value} (he : ∀ (vs : Array Value) (w : World), (callFunc f vs).run P w = .ok (.enter f vs) w) (h : ∀ w, Calls P f args.toArray w fun e w' => e = .returned r ∧ w' = w) : Con P f (args.map .v) [] (Is (.v r) []) := by
  refine ⟨he, fun F w vs hok hrep => ?_⟩
  obtain rfl := repT_vals hrep
  refine (h w).mono fun e w' ⟨h1, h2⟩ => ?_
  subst h2
  exact ⟨r, .v r, [], h1, ⟨rfl, rfl⟩, by simp [Rep], hok, Fr.refl _ _, fun b hb => .inl hb⟩
theorem Con.ofPureT {P : Program} {f : FuncId} {args rs : List Value} (he : ∀ (vs : Array Value) (w : World), (callFunc f vs).run P w = .ok (.enter f vs) w) (h : ∀ w, Calls P f args.toArray w fun e w' => e = .returned (.tuple rs.toArray) ∧ w' = w) : Con P f (args.map .v) [] (Is (.tup (rs.map .v)) []) := by
  refine ⟨he, fun F w vs hok hrep => ?_⟩
  obtain rfl := repT_vals hrep
  refine (h w).mono fun e w' ⟨h1, h2⟩ => ?_
  subst h2
  exact ⟨_, .tup (rs.map .v), [], h1, ⟨rfl, rfl⟩, by simp only [Rep]; exact ⟨rs, rfl, repT_of_vals⟩, hok, Fr.refl _ _, fun b hb => .inl hb⟩
theorem repE_intI {w : World} {O : Nat → Prop} : ∀ {l : List Int} {xs : List Value}, RepE w O 1 (l.map .i) xs → xs = l.map (Value.int .i64)
  | [], xs, h => by simpa [RepE] using h
  | n :: r, xs, h => by
    simp only [List.map_cons, RepE, Rep] at h
    obtain ⟨c, cr, rfl, _, _, rfl, h⟩ := h
    rw [repE_intI h]
    simp [Value.cells]
theorem repE_of_ints {w : World} {O : Nat → Prop} : ∀ {l : List Int}, RepE w O 1 (l.map .i) (l.map (Value.int .i64))
  | [] => by simp [RepE]
  | n :: r => by
    simp only [List.map_cons, RepE, Rep]
    refine ⟨.int .i64 n, r.map (Value.int .i64), by simp [Value.cells], by simp [Value.cells], ?_, rfl, repE_of_ints⟩
    intro u hu
    simp only [Value.cells, List.mem_singleton] at hu
    subst hu
    rfl
/-- A sort of ints. -/
theorem Con.ofSort {P : Program} {f g : FuncId} {R : Array Int → Array Int → Prop} {ety : TypeId} (hR : ∀ d d', R d d' → d'.size = d.size) (hR0 : R #[] #[]) (he : ∀ (vs : Array Value) (w : World), (callFunc f vs).run P w = .ok (.enter f vs) w)
    (hs : ∀ (blk cap : Nat) (d : Array Int) (w : World), Holds (Value.int .i64) w blk 0 d → blk < w.heap.size → d.size < 4611686018427387904 →
      Calls P f #[.slice (some ⟨blk, 0, none⟩) d.size cap, .func (.func g) #[] #[]] w fun e w' => e = .returned (.tuple #[]) ∧ ∃ d' n os, R d d' ∧ w' = sortWorld (Value.int .i64) w blk 0 n d' os)
    (hn : ∀ w, Calls P f #[.slice none 0 0, .func (.func g) #[] #[]] w fun e w' => e = .returned (.tuple #[]) ∧ w' = w) (v : Value) (l : List Int) :
    Con P f [.v v, .v (.func (.func g) #[] #[])] [.arr v ety 1 (l.map .i)] (fun d H => ∃ l' : List Int, d = .tup [] ∧ R l.toArray l'.toArray ∧ H = [.arr v ety 1 (l'.map .i)]) := by
  refine ⟨he, fun F w vs hok hrep => ?_⟩
  obtain rfl := repT_vals (args := [v, .func (.func g) #[] #[]]) hrep
  obtain ⟨h1, hlb, xs, hown, hE⟩ := hok.holds _ (List.mem_cons_self ..)
  obtain rfl := repE_intI hE
  rw [List.length_map] at hown hlb
  rcases hown.2 with ⟨rfl, h2⟩ | ⟨b, cap, cur, rfl, h3, h4, h5, h6, h7, h8⟩
  · obtain rfl := List.eq_nil_of_length_eq_zero h2
    refine (hn w).mono fun e w' ⟨k1, k2⟩ => ?_
    subst k2
    exact ⟨_, .tup [], _, k1, ⟨[], rfl, hR0, rfl⟩, by simp only [Rep]; exact ⟨[], rfl, by simp [RepT]⟩, hok, Fr.refl _ _, fun b hb => .inl hb⟩
  · have hcl : cur.toList.length = cur.size := Array.length_toList
    have hcur : ∀ j, j < l.length → cur[j]? = some (.int .i64 l[j]!) := fun j hj => by
      have e1 : (cur.toList.take (l.length * 1))[j]? = cur[j]? := by
        rw [List.getElem?_take, if_pos (by omega), Array.getElem?_toList]
      rw [← e1, h8, List.getElem?_map, List.getElem?_eq_getElem hj]
      simp [hj]
    have hb : b < w.heap.size := (Array.getElem?_eq_some_iff.1 h4).1
    unfold capB at hlb
    have hH : Holds (Value.int .i64) w b 0 l.toArray := fun j hj => by
      have hj' : j < l.length := by simpa using hj
      refine ⟨?_, ?_⟩
      · simp only [World.cell?, h4, Nat.zero_add]
        rw [if_neg (by simp), hcur j hj']
        simp
      · simp [World.frozen?, h4]
    have hc := hs b cap l.toArray w hH hb (by simp; omega)
    have e0 : l.toArray.size = l.length := by simp
    rw [e0] at hc
    refine hc.mono fun e w' ⟨k1, d', n, os, k2, k3⟩ => ?_
    subst k3
    have hsz := hR _ _ k2
    have hsz' : d'.toList.length = l.length := by rw [Array.length_toList, hsz]; simp
    have hp : R l.toArray d'.toList.toArray := k2
    have hheap : ∀ k, k < w.heap.size → (sortWorld (Value.int .i64) w b 0 n d' os).heap[k]? = if b = k then some (.cells (putCells (Value.int .i64) 0 d' cur) ety (0, 0)) else w.heap[k]? := fun k hk => by
      have e1 : (sortWorld (Value.int .i64) w b 0 n d' os).heap = (w.heap.modify b (onCells (putCells (Value.int .i64) 0 d'))) ++ os := rfl
      rw [e1, Array.getElem?_append_left (by simpa using hk), Array.getElem?_modify]
      split
      · rename_i e
        subst e
        rw [h4]
        rfl
      · rfl
    have hsize : w.heap.size ≤ (sortWorld (Value.int .i64) w b 0 n d' os).heap.size := by
      have e1 : (sortWorld (Value.int .i64) w b 0 n d' os).heap = (w.heap.modify b (onCells (putCells (Value.int .i64) 0 d'))) ++ os := rfl
      rw [e1, Array.size_append, Array.size_modify]
      omega
    have hHb : ∀ q : List Int, Hb [.arr (.slice (some ⟨b, 0, none⟩) l.length cap) ety 1 (q.map .i)] = [b] := fun q => by simp [Hb, Ob.blk, Value.ownBlock]
    have hHb' : Hb [.arr (.slice (some ⟨b, 0, none⟩) (l.map D.i).length cap) ety 1 (l.map .i)] = [b] := by simp [Hb, Ob.blk, Value.ownBlock]
    have hdis : ¬ F b := hok.disj b (by rw [hHb l]; simp)
    refine ⟨_, .tup [], [.arr (.slice (some ⟨b, 0, none⟩) l.length cap) ety 1 (d'.toList.map .i)], k1, ⟨d'.toList, rfl, hp, rfl⟩, by simp only [Rep]; exact ⟨[], rfl, by simp [RepT]⟩, ⟨fun o ho => ?_, by rw [hHb]; simp, fun x hx => ?_, fun x hx => Nat.lt_of_lt_of_le (hok.frb x hx) hsize⟩, ⟨rfl, rfl, rfl, hsize, fun x hx hm => ?_⟩, fun x hx => .inl (by rw [hHb] at hx ⊢; exact hx)⟩
    · obtain rfl := List.mem_singleton.1 ho
      refine ⟨Nat.one_pos, by rw [List.length_map, hsz']; unfold capB; omega, _, ⟨by simp, .inr ⟨b, cap, _, by rw [List.length_map, hsz'], Nat.zero_le _, by rw [hheap b hb, if_pos rfl], by rw [List.length_map, hsz']; exact h5, h6, by rw [← h7]; simp [putCells], ?_⟩⟩, repE_of_ints⟩
      rw [List.length_map, hsz', Nat.mul_one]
      apply List.ext_getElem?
      intro k
      rw [List.getElem?_take, List.getElem?_map]
      split
      · rename_i hk
        have hk' : k < d'.size := by rw [hsz]; simpa using hk
        rw [Array.getElem?_toList]
        simp only [putCells, Array.getElem?_mapIdx, hcur k hk, Option.map_some]
        rw [if_pos ⟨by omega, by omega⟩, Nat.sub_zero, Array.getElem?_toList, Array.getElem?_eq_getElem hk', Option.map_some, getElem!_pos d' k hk']
      · rename_i hk
        rw [List.getElem?_eq_none (by omega)]
        rfl
    · rw [hHb] at hx
      obtain rfl := List.mem_singleton.1 hx
      exact hdis
    · rw [hheap x hx, if_neg]
      intro e
      subst e
      exact hm (by rw [hHb l]; simp)
end Go.Av
namespace Go.Av
open Go
set_option linter.unusedVariables false
set_option linter.unusedSimpArgs false
section
variable {P : Program} {n : Nat} {env : Env} {H : Heap} {dst : Option Tmp} {ty : TypeId} {pos : String} {after : Array Edge} {gd : Option (Nat × Bool)} {x y : Operand}
theorem ap_index_cut {t e sz len cap cap' g m j k} (hx : opd env x = some (.v (.slice (some ⟨g, cutAt cap m sz, none⟩) len cap'))) (hy : opd env y = some (.i j)) (ht : telem P t = some e) (hs : tsize P e = some sz) (hj : j = ((k : Nat) : Int)) (hk : k < len) (hc : m < cap) :
    AP P n ⟨dst, .indexAddr t x y, ty, pos, after, gd⟩ env H (.p g ((m + k) * sz)) := by
  refine ⟨fun F M w0 a w hr => ?_⟩
  have h1 := hr.opdv hx
  have h2 := hr.opdv hy
  subst hj
  have hcut : cutAt cap m sz = m * sz := by unfold cutAt; rw [if_neg (by omega)]
  rw [hcut] at h1
  refine ⟨.pointer (some ⟨g, (m + k) * sz, none⟩), by simp [Rep], fun w' => ?_⟩
  have hi : (0 : Int) ≤ (k : Int) ∧ (k : Int) < (len : Int) := by omega
  have hi' : ¬ len ≤ k := by omega
  simp [execOp, h1, h2, Instr.indexAt, asIntOf, run_underlying (telem_under ht), run_sizeOf hs, hi, hi', addr_add, Nat.add_mul]
theorem ap_len_val {t : TypeId} {p : Option Addr} {l c : Nat} (hx : opd env x = some (.v (.slice p l c))) (ht : ∃ e, telem P t = some e) : AP P n ⟨dst, .call { callee := .builtin .len, args := #[x], argTypes := #[t] }, ty, pos, after, gd⟩ env H (.i l) := by
  refine ⟨fun F M w0 a w hr => ?_⟩
  have h1 := hr.opdv hx
  obtain ⟨e, he⟩ := ht
  refine ⟨.int .i64 l, by simp [Rep], fun w' => ?_⟩
  simp [execOp, resolve, invoke, builtin, h1, Builtin.len_, run_underlying (telem_under he), goInt]
end
end Go.Av
namespace Go.Av
open Go
set_option linter.unusedVariables false
set_option linter.unusedSimpArgs false
section
variable {P : Program} {n : Nat} {env : Env} {H : Heap} {dst : Option Tmp} {ty : TypeId} {pos : String} {after : Array Edge} {gd : Option (Nat × Bool)} {x y : Operand}
theorem awp_arr_case {c : Code} {Q} {v e sz l f} (hk : UpdF H (.arr v e sz l) f) (h0 : v = .slice none 0 0 → l = [] → AWp P n c env H Q) (h : ∀ g cap, l.length ≤ cap → v = .slice (some ⟨g, 0, none⟩) l.length cap → AWp P n c env H Q) : AWp P n c env H Q := by
  refine ⟨fun F M w0 a w hr => ?_⟩
  obtain ⟨_, _, xs, hown, _⟩ := hr.heap.holds _ hk.mem
  rcases hown.2 with ⟨h1, h2⟩ | ⟨g, cap, cur, h2, _, _, h5, _⟩
  · exact (h0 h1 (List.eq_nil_of_length_eq_zero h2)).out F M w0 a w hr
  · exact (h g cap h5 h2).out F M w0 a w hr
/-- The end of no slice. -/
theorem ap_slice_nil_from {t e : TypeId} {sz : Nat} {j : Int} (hx : opd env x = some .nil) (hy : opd env y = some (.i j)) (ht : telem P t = some e) (hs : tsize P e = some sz) (hj : j = 0) :
    AP P n ⟨dst, .slice t x (some y) none none, ty, pos, after, gd⟩ env H .nil := by
  refine ⟨fun F M w0 a w hr => ?_⟩
  have h1 := hr.opdv hx
  have h2 := hr.opdv hy
  subst hj
  refine ⟨.slice none 0 0, by simp only [Rep], fun w' => ?_⟩
  simp [execOp, h1, h2, Instr.sliceAt, Instr.slice, run_underlying (telem_under ht), Instr.sliceBounds, Instr.sliceBound, asIntOf, run_sizeOf hs, Addr.add]
end
end Go.Av
namespace Go.Av
open Go
set_option linter.unusedVariables false
def Up (d d' : D) : Prop := ∀ w (O : Nat → Prop) v, Rep w O d v → Rep w O d' v
theorem Up.same {d} : Up d d := fun _ _ _ h => h
theorem Up.int {x : Int} : Up (.v (.int .i64 x)) (.i x) := fun w O v h => by simpa [Rep] using h
theorem Up.nil {s : Nat} : Up (.v (.slice none 0 0)) (.sl s []) := fun w O v h => by
  have hv : v = .slice none 0 0 := by simpa [Rep] using h
  subst hv
  simp only [Rep]
  exact ⟨by simp, [], by simp [RepE], .inr (by simp)⟩
inductive UpL : List D → List D → Prop
  | nil : UpL [] []
  | cons {x y xs ys} (h : Up x y) (hr : UpL xs ys) : UpL (x :: xs) (y :: ys)
theorem UpL.rep {w : World} {O : Nat → Prop} {xs ys : List D} (h : UpL xs ys) : ∀ vs, RepL w O xs vs → RepL w O ys vs := by
  induction h with
  | nil => exact fun _ h => h
  | cons h _ ih =>
    intro vs hv
    simp only [RepL] at hv ⊢
    obtain ⟨c, cs, rfl, h1, h2, h3⟩ := hv
    exact ⟨c, cs, rfl, h _ _ _ h1, h2, ih _ h3⟩
theorem Up.agg {xs ys} (h : UpL xs ys) : Up (.agg xs) (.agg ys) := fun w O v hv => by
  simp only [Rep] at hv ⊢
  obtain ⟨vs, rfl, h2⟩ := hv
  exact ⟨vs, rfl, h.rep _ h2⟩
theorem AP.up {P : Program} {n : Nat} {o : Oper} {env : Env} {H : Heap} {d d' : D} (h : AP P n o env H d) (hu : Up d d') : AP P n o env H d' :=
  ⟨fun F M w0 a w hr => let ⟨v, h1, h2⟩ := h.out F M w0 a w hr; ⟨v, hu _ _ _ h1, h2⟩⟩
/-- A slice of the function's own is one cell. -/
theorem aops_arr_one {P : Program} {n : Nat} {env : Env} {H : Heap} {K : Env → Heap → Prop} {ops : Array Oper} {o rest v e sz l f} (hk : UpdF H (.arr v e sz l) f) (hg : o.guard = none) (h : v.oneCell' = true → AOps P n ops (o :: rest) env H K) : AOps P n ops (o :: rest) env H K := by
  refine aops_step hg ⟨fun F M w0 a w hr Kc Q hK => ?_⟩
  obtain ⟨_, _, xs, hown, _⟩ := hr.heap.holds _ hk.mem
  have hv : v.oneCell' = true := by
    rcases hown.2 with ⟨rfl, _⟩ | ⟨g, cap, cur, rfl, _⟩ <;> rfl
  have h1 := (h hv).out
  unfold AOpsR at h1
  rw [hg] at h1
  exact h1.out F M w0 a w hr Kc Q (fun e1 H1 a' w' k r => hK e1 H1 a' w' ⟨k⟩ r)
end Go.Av
namespace Go.Av
open Go
set_option linter.unusedVariables false
theorem repL_vals {w : World} {O O' : Nat → Prop} : ∀ {xs : List Value} {vs : List Value}, RepL w O (xs.map .v) vs → ∀ {w' : World}, RepL w' O' (xs.map .v) vs
  | [], vs, h, w' => by simpa [RepL] using h
  | x :: r, vs, h, w' => by
    simp only [List.map_cons, RepL, Rep] at h ⊢
    obtain ⟨c, cr, h1, h2, h3, h4⟩ := h
    exact ⟨c, cr, h1, h2, h3, repL_vals h4⟩
theorem Con.borrowB {P : Program} {f : FuncId} {pre post : List D} {v : Value} {ety sz : Nat} {l : List D} {b ty : Nat} {xs : List Value} {r : Value}
    (h : Con P f (pre ++ .sl sz l :: post) [.box b ty (xs.map .v)] (Is (.v r) [.box b ty (xs.map .v)])) :
    Con P f (pre ++ .v v :: post) [.box b ty (xs.map .v), .arr v ety sz l] (Is (.v r) [.box b ty (xs.map .v), .arr v ety sz l]) := by
  refine ⟨h.enter, fun F w vs hok hrep => ?_⟩
  have ho := hok.holds (.arr v ety sz l) (List.mem_cons_of_mem _ (List.mem_cons_self ..))
  have hbx := hok.holds (.box b ty (xs.map .v)) (List.mem_cons_self ..)
  have hHb : Hb [.box b ty (xs.map .v)] = [b] := by simp [Hb, Ob.blk]
  have hb1 : b ∈ Hb [.box b ty (xs.map .v), .arr v ety sz l] := mem_Hb (List.mem_cons_self ..) rfl
  have hboxAt : ∀ {O O' : Nat → Prop} {w' : World}, (Ob.box b ty (xs.map .v)).Holds w' O → (Ob.box b ty (xs.map .v)).Holds w' O' := by
    rintro O O' w' ⟨vs', e1, e2⟩
    exact ⟨vs', e1, repL_vals e2⟩
  have hok0 : HeapOk F [.box b ty (xs.map .v)] w := ⟨fun o h1 => by
      obtain rfl := List.mem_singleton.1 h1
      exact hboxAt hbx, by rw [hHb]; simp, fun x hx => by
      rw [hHb] at hx
      obtain rfl := List.mem_singleton.1 hx
      exact hok.disj x hb1, hok.frb⟩
  have hsub : ∀ x, Own F [.box b ty (xs.map .v)] x → Own F [.box b ty (xs.map .v), .arr v ety sz l] x := fun x hx => by
    rcases hx with hx | hx
    · exact .inl hx
    · rw [hHb] at hx
      obtain rfl := List.mem_singleton.1 hx
      exact .inr hb1
  have hnod := hok.nodup
  have hv : Rep w (Own F [.box b ty (xs.map .v)]) (.sl sz l) v := by
    obtain ⟨hsz, hlb, ys, hown, hE⟩ := ho
    simp only [Rep]
    refine ⟨hlb, ys, RepE.mono (fun x _ hx' => ⟨fun h => hx' (hsub x h), rfl⟩) _ _ _ hE, ?_⟩
    rcases hown.2 with ⟨h1, h2⟩ | ⟨g, cap, cur, h1, h3, h4, h5, h6, h7, h8⟩
    · exact .inr ⟨h1, List.eq_nil_of_length_eq_zero h2⟩
    · refine .inl ⟨⟨g, 0, none⟩, cap, h1, h5, .inr ⟨fun hO => ?_, rfl, fun j c hj => ?_⟩⟩
      · have hg : (Ob.arr v ety sz l).blk = some g := by simp [Ob.blk, h1, Value.ownBlock]
        rcases hO with hF | hm
        · exact hok.disj g (mem_Hb (List.mem_cons_of_mem _ (List.mem_cons_self ..)) hg) hF
        · rw [hHb] at hm
          obtain rfl := List.mem_singleton.1 hm
          have : Hb [.box g ty (xs.map .v), .arr v ety sz l] = [g, g] := by simp [Hb, Ob.blk, h1, Value.ownBlock]
          rw [this] at hnod
          simp at hnod
      · rw [← h8, List.getElem?_take] at hj
        split at hj
        · rw [cell_of_row w g _ cur ety (0, 0) h4]; simpa using hj
        · cases hj
  refine (h.run F w vs hok0 (RepT.lend hsub hv hrep)).mono fun e w' ⟨u, d, H', q1, ⟨q2, q2'⟩, q3, q4, q5, q6⟩ => ?_
  subst q2
  subst q2'
  have hlt : ∀ x, (Ob.arr v ety sz l).blk = some x → x < w.heap.size ∧ x ≠ b := fun x hx => ⟨ho.blk_lt hx, fun e => by
    subst e
    have : Hb [.box x ty (xs.map .v), .arr v ety sz l] = [x, x] := by
      show List.filterMap Ob.blk _ = _
      simp only [List.filterMap_cons, List.filterMap_nil, hx]
      rfl
    rw [this] at hnod
    simp at hnod⟩
  refine ⟨u, .v r, _, q1, ⟨rfl, rfl⟩, by simpa [Rep] using q3, ⟨fun o ho' => ?_, hnod, hok.disj, fun x hx => Nat.lt_of_lt_of_le (hok.frb x hx) q5.size⟩, q5.weaken (by rw [hHb]; intro x hx; obtain rfl := List.mem_singleton.1 hx; exact hb1), fun x hx => .inl hx⟩
  rcases List.mem_cons.1 ho' with rfl | ho'
  · exact hboxAt (q4.holds _ (List.mem_cons_self ..))
  · obtain rfl := List.mem_singleton.1 ho'
    refine ho.mono (fun x hx hO => ⟨hO, q5.block x hx fun hm => hO ?_⟩) (fun x hx => q5.block x (hlt x hx).1 fun hm => ?_)
    · rw [hHb] at hm
      obtain rfl := List.mem_singleton.1 hm
      exact .inr hb1
    · rw [hHb] at hm
      exact (hlt x hx).2 (List.mem_singleton.1 hm)
end Go.Av
namespace Go.Av
open Go
set_option linter.unusedVariables false
set_option linter.unusedSimpArgs false
section
variable {P : Program} {n : Nat} {env : Env} {H : Heap} {dst : Option Tmp} {ty : TypeId} {pos : String} {after : Array Edge} {gd : Option (Nat × Bool)} {x y : Operand}
theorem ap_sadd {p q t u} (hx : opd env x = some (.v (.string p))) (hy : opd env y = some (.v (.string q))) (hs : p.size + q.size ≤ 9223372036854775807) : AP P n ⟨dst, .binOp .add t x y u, ty, pos, after, gd⟩ env H (.v (.string (p ++ q))) := by
  refine ⟨fun F M w0 a w hr => ?_⟩
  have h1 := hr.opdv hx
  have h2 := hr.opdv hy
  refine ⟨.string (p ++ q), by simp [Rep], fun w' => ?_⟩
  simp [execOp, h1, h2, eqGuard, binOp, Op.stringOp]
  try omega
theorem ap_index_str {t : TypeId} {s : ByteArray} {k : Nat} {kk : IntKind} {j : Int} {c : UInt8} (hx : opd env x = some (.v (.string s))) (hy : opd env y = some (.v (.int kk j))) (ht : P.underlying t = some .string) (hj : j = (k : Int)) (hc : s[k]? = some c) :
    AP P n ⟨dst, .index t x y, ty, pos, after, gd⟩ env H (.v (.int .u8 (c.toNat : Int))) := by
  refine ⟨fun F M w0 a w hr => ?_⟩
  have h1 := hr.opdv hx
  have h2 := hr.opdv hy
  subst hj
  refine ⟨.int .u8 (c.toNat : Int), by simp [Rep], fun w' => ?_⟩
  simp [execOp, h1, h2, Instr.index, asIntOf, run_underlying ht, hc]
end
theorem freeze_other (w : World) (a : Addr) (n b : Nat) (h : b ≠ a.block) : (w.freeze a n).heap[b]? = w.heap[b]? := by
  unfold World.freeze
  split
  · rfl
  · rw [Array.getElem?_modify, if_neg fun e => h e.symm]
theorem freeze_os (w : World) (a : Addr) (n : Nat) : (w.freeze a n).os = w.os ∧ (w.freeze a n).tape = w.tape ∧ (w.freeze a n).output = w.output ∧ (w.freeze a n).heap.size = w.heap.size := by
  unfold World.freeze
  split
  · exact ⟨rfl, rfl, rfl, rfl⟩
  · exact ⟨rfl, rfl, rfl, Array.size_modify⟩
/-- A call of plain values that lays a row of bytes nobody keeps. -/
theorem Con.ofBytes {P : Program} {f : FuncId} {e : TypeId} {args rs : List Value} (he : ∀ (vs : Array Value) (w : World), (callFunc f vs).run P w = .ok (.enter f vs) w)
    (h : ∀ w, Calls P f args.toArray w fun o w' => o = .returned (.tuple rs.toArray) ∧ ∃ t, w' = Lib.bytesWorld w e t) : Con P f (args.map .v) [] (Is (.tup (rs.map .v)) []) := by
  refine ⟨he, fun F w vs hok hrep => ?_⟩
  obtain rfl := repT_vals hrep
  refine (h w).mono fun o w' ⟨h1, t, h2⟩ => ?_
  subst h2
  have hh : ∀ b, b < w.heap.size → (Lib.bytesWorld w e t).heap[b]? = w.heap[b]? := fun b hb => by
    have h1 := freeze_other (w.drew.alloc (.cells (Lib.bytesCells w e t) e)) ⟨w.heap.size, (Lib.bytesCells w e t).size, none⟩ 1 b (by show b ≠ w.heap.size; omega)
    refine h1.trans ?_
    show (w.heap.push _)[b]? = _
    rw [Array.getElem?_push, if_neg (by omega)]
  have hfr : Fr [] w (Lib.bytesWorld w e t) := ⟨(freeze_os _ _ _).1, (freeze_os _ _ _).2.1, (freeze_os _ _ _).2.2.1, by
    have h1 := (freeze_os (w.drew.alloc (.cells (Lib.bytesCells w e t) e)) ⟨w.heap.size, (Lib.bytesCells w e t).size, none⟩ 1).2.2.2
    refine Nat.le_trans ?_ (Nat.le_of_eq h1.symm)
    show w.heap.size ≤ (w.heap.push _).size
    rw [Array.size_push]
    omega, fun b hb _ => hh b hb⟩
  exact ⟨_, .tup (rs.map .v), [], h1, ⟨rfl, rfl⟩, by simp only [Rep]; exact ⟨rs, rfl, repT_of_vals⟩, ⟨fun o ho => absurd ho List.not_mem_nil, hok.nodup, fun x hx => absurd hx (by simp [Hb]), fun x hx => Nat.lt_of_lt_of_le (hok.frb x hx) hfr.size⟩, hfr, fun b hb => .inl hb⟩
end Go.Av
namespace Go.Av
open Go
set_option linter.unusedVariables false
variable {P : Program} {n : Nat} {env : Env} {H : Heap} {Q : Exit → Env → Heap → Prop}
structure AWpIn (P : Program) (n : Nat) (c : Code) (env : Env) (H : Heap) (Q : Exit → Env → Heap → Prop) : Prop where
  out : ∀ F M w0 a w, Rel F M w0 n env H a w → ∀ b k cs, ∃ e a' w', (∃ env' H', Q e env' H' ∧ Rel F M w0 n env' H' a' w') ∧ Arrives P (lone (b.at a (.code c :: .inLoop c :: k)) cs w) b k cs e a' w'
theorem awp_unroll {c : Code} (h : AWpIn P n c env H Q) : AWp P n (.loop c) env H Q := by
  refine ⟨fun F M w0 a w hr b k cs => ?_⟩
  obtain ⟨e, a', w', hq, harr⟩ := h.out F M w0 a w hr b k cs
  exact ⟨e, a', w', hq, .of_steps (.one step_loop) harr⟩
theorem awpin_step {c : Code} (h : AWp P n c env H (seqQ (fun env' H' => AWpIn P n c env' H' Q) Q)) : AWpIn P n c env H Q := by
  refine ⟨fun F M w0 a w hr b k cs => ?_⟩
  obtain ⟨e, a1, w1, hq, harr⟩ := h.out F M w0 a w hr b (.inLoop c :: k) cs
  obtain ⟨env', H', hq, hr'⟩ := hq
  cases e with
  | normal =>
    obtain ⟨e2, a2, w2, hq2, harr2⟩ := hq.out.out F M w0 a1 w1 hr' b k cs
    exact ⟨e2, a2, w2, hq2, .of_steps (Steps.trans harr (.one step_inLoop)) harr2⟩
  | exit id => exact ⟨_, a1, w1, ⟨env', H', hq.out, hr'⟩, .pass (x := .inLoop c) rfl (fun _ _ => .inl (by simp)) harr⟩
  | goto l => exact ⟨_, a1, w1, ⟨env', H', hq.out, hr'⟩, .pass (x := .inLoop c) rfl (fun _ _ => .inl (by simp)) harr⟩
  | ret => exact ⟨_, a1, w1, ⟨env', H', hq.out, hr'⟩, .pass (x := .inLoop c) rfl (fun _ _ => .inl (by simp)) harr⟩
  | panic ch => exact ⟨_, a1, w1, ⟨env', H', hq.out, hr'⟩, .pass (x := .inLoop c) rfl (fun _ _ => .inl (by simp)) harr⟩
  | outgrown => exact ⟨_, a1, w1, ⟨env', H', hq.out, hr'⟩, .pass (x := .inLoop c) rfl (fun _ _ => .inl (by simp)) harr⟩
theorem awpin_selH {c : Code} (live : List Nat) (H' : Heap) {e0} (hs : Sel env live e0) (hw : Wk env H e0 H') (h : AWpIn P n c e0 H' Q) : AWpIn P n c env H Q :=
  ⟨fun F M w0 a w hr => h.out F M w0 a w (hw.out F M w0 n a w hr)⟩
theorem awpin_sel {c : Code} (live : List Nat) {e0} (hs : Sel env live e0) (hw : Wk env H e0 H) (h : AWpIn P n c e0 H Q) : AWpIn P n c env H Q :=
  ⟨fun F M w0 a w hr => h.out F M w0 a w (hw.out F M w0 n a w hr)⟩
end Go.Av
namespace Go.Av
open Go
def atEnd (f : FuncId) (m : Machine) : Bool :=
  match m.gs[0]? with
  | some g => Nat.beq g.frame.fn f && (match g.frame.mode with | .returning => true | _ => false)
  | none => true
def runTo (P : Program) (f : FuncId) : Nat → Machine → Machine
  | 0, m => m
  | k + 1, m => match atEnd f m with
    | true => m
    | false => match step P m with
      | .next m' => runTo P f k m'
      | _ => m
theorem runTo_steps (P : Program) (f : FuncId) : ∀ (k : Nat) (m : Machine), Steps P m (runTo P f k m)
  | 0, m => .refl P m
  | k + 1, m => by
    unfold runTo
    cases atEnd f m with
    | true => exact .refl P m
    | false =>
      simp only
      cases hs : step P m with
      | next m' => exact .head hs (runTo_steps P f k m')
      | _ => exact .refl P m
def frOf (P : Program) (f : FuncId) (args : Array Value) (k : Nat) : Frame :=
  match (runTo P f k (lone (Frame.enter P f args .normal) [] default)).gs[0]? with
  | some g => g.frame
  | none => Frame.enter P f args .normal
theorem callRun {P : Program} {f : FuncId} {args : Array Value} {r : Value} (k : Nat) (fn : Func) (h : ∀ cs w, runTo P f k (lone (Frame.enter P f args .normal) cs w) = lone (frOf P f args k) cs w)
    (hf : (frOf P f args k).fn = f) (hm : (frOf P f args k).mode = .returning) (hd : (frOf P f args k).defers = []) (hk : (frOf P f args k).kind = .normal) (hp : P.funcs[(frOf P f args k).fn]? = some fn) (hr : ∀ w, (results fn (frOf P f args k).tmps).run P w = .ok r w) (w : World) :
    Calls P f args w fun e w' => e = .returned r ∧ w' = w :=
  fun cs => ⟨.returned r, w, frOf P f args k, ⟨rfl, rfl⟩, (by have h1 := runTo_steps P f k (lone (Frame.enter P f args .normal) cs w); rw [h cs w] at h1; exact h1), hf, hm, hd, hk, fn, hp, hr w⟩
end Go.Av
