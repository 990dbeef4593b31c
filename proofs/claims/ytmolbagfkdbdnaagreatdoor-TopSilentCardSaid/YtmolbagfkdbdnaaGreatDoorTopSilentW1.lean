/- Walks: each says what one function of the program answers, for the arguments that its statement names. No condition beyond what each theorem says. -/
import Derived.Test.YtmolbagfkdbdnaaGreatDoorTq
import Derived.Test.YtmolbagfkdbdnaaGreatDoorProg
import Derived.KernelRfl
import Derived.Tactics
import Derived.Tactics2
import Derived.StillTactics
import Derived.Shelf.SlSortCmp.Whole1
import Derived.Shelf.SlSortCmp.NoneTotal
import Derived.Shelf.Strconv.Atoi
set_option linter.unusedVariables false
set_option linter.unusedSimpArgs false
set_option maxRecDepth 4000
set_option maxHeartbeats 2000000
namespace Go.Proofs.YtmolbagfkdbdnaaGreatDoor
open Go Go.Av Go.Tq
theorem zDec {p : Prop} (h : p := by first | with_reducible assumption | with_reducible exact rfl | decide | (refine decide_eq_true ?_; omega) | (refine decide_eq_false ?_; omega)) : p := h
theorem zUpd {p : Prop} (h : p := by first | exact .here | exact .there .here | exact .there (.there .here) | exact .there (.there (.there .here)) | exact .there (.there (.there (.there .here))) | exact .there (.there (.there (.there (.there .here)))) | exact .there (.there (.there (.there (.there (.there .here))))) | exact .there (.there (.there (.there (.there (.there (.there .here))))))) : p := h
theorem zScal {p : Prop} (h : p := by first | exact .sl | exact .v rfl | exact .v (by assumption)) : p := h
theorem zFlat {p : Prop} (h : p := by first | exact .agg | exact .sl | exact .v rfl | exact .v (by assumption)) : p := h
theorem zRc {p : Prop} (h : p := by (repeat constructor)) : p := h
theorem zSplit {p : Prop} (h : p := by (repeat (first | exact .nil | exact Split.none _ | apply Split.left | apply Split.right))) : p := h
theorem zAss {p : Prop} (h : p := by first | with_reducible assumption | assumption | rfl) : p := h
theorem zSub {p : Prop} (h : p := by (repeat (first | exact .nil | refine .cons rfl ?_))) : p := h
theorem zKr {p : Prop} (h : p := by kernel_rfl) : p := h
theorem zKeep {p : Prop} (h : p := by (repeat (first | exact .nil | refine .cons (by first | exact .here | exact .there .here | exact .there (.there .here) | exact .there (.there (.there .here)) | exact .there (.there (.there (.there .here)))) ?_))) : p := h
theorem zSelC {p : Prop} (h : p := by (repeat (first | exact .nil | apply SelC.cons rfl (by first | exact Cv.fz | (apply Cv.agg; repeat (first | exact CvL.nil | apply CvL.cons (by first | exact Cv.fz | exact Cv.same))) | exact Cv.same)))) : p := h
theorem zHeapA {p : Prop} (h : p := by (repeat (first | exact .nil | apply HeapA.box (by repeat (first | exact CvL.nil | apply CvL.cons (by first | exact Cv.fz | exact Cv.same))) | apply HeapA.arr))) : p := h
theorem zHeapS {p : Prop} (h : p := by (repeat (first | exact .nil | apply HeapA.box (by repeat (first | exact CvL.nil | apply CvL.cons Cv.same)) | apply HeapA.arr))) : p := h
theorem zRem {p : Prop} (h : p := by (repeat (first | exact .here | apply Rem.there))) : p := h
theorem zFill {p : Prop} (h : p := by (repeat (first | exact .nil | apply FillL.cons rfl zFlat rfl zRc))) : p := h
theorem zRs {p : Prop} (h : p := by (repeat (first | exact .nil | (apply ResL.tmp; exact rfl) | (apply ResL.cell; exact rfl; exact zUpd; exact rfl; exact rfl)))) : p := h
/-- The struct types that are met, and their fields: place, width, whether of many parts. -/
inductive Tf where
  | leaf (s : Nat) (l : List (Nat × Nat × Bool))
  | node (p : Nat) (a b : Tf)
def Tf.nth : List (Nat × Nat × Bool) → Nat → Option (Nat × Nat × Bool)
  | [], _ => none
  | x :: _, 0 => some x
  | _ :: r, k + 1 => Tf.nth r k
def Tf.look : Tf → Nat → Nat → Option (Nat × Nat × Bool)
  | .leaf k l, s, f => bif Nat.beq s k then Tf.nth l f else none
  | .node p a b, s, f => bif Nat.blt s p then a.look s f else b.look s f
def Tf.ok (P : Program) : Tf → Bool
  | .leaf k l => (List.range l.length).all fun f => decide (tfield P k f = Tf.nth l f)
  | .node _ a b => a.ok P && b.ok P
theorem Tf.nth_lt : ∀ {l : List (Nat × Nat × Bool)} {f : Nat} {v}, Tf.nth l f = some v → f < l.length
  | [], _, _, h => by cases h
  | _ :: _, 0, _, _ => by simp
  | _ :: r, k + 1, _, h => by have := Tf.nth_lt (l := r) h; simp only [List.length_cons]; omega
theorem Tf.sound {P : Program} : ∀ {T : Tf}, T.ok P = true → ∀ {s f : Nat} {v}, T.look s f = some v → tfield P s f = some v
  | .leaf k l, h, s, f, v, e => by
    simp only [Tf.look] at e
    cases hb : Nat.beq s k with
    | false => rw [hb] at e; cases e
    | true =>
      rw [hb] at e
      have e' : Tf.nth l f = some v := e
      have hs := Nat.eq_of_beq_eq_true hb
      subst hs
      have := List.all_eq_true.1 h f (List.mem_range.2 (Tf.nth_lt e'))
      rw [of_decide_eq_true this]; exact e'
  | .node p a b, h, s, f, v, e => by
    simp only [Tf.ok, Bool.and_eq_true] at h
    simp only [Tf.look] at e
    cases hb : Nat.blt s p with
    | true => rw [hb] at e; exact Tf.sound h.1 e
    | false => rw [hb] at e; exact Tf.sound h.2 e
def tfs : Tf := .node 49 (.node 41 (.node 36 (.leaf 27 [(0, 1, false)]) (.leaf 36 [(0, 1, false), (1, 1, false)])) (.node 44 (.leaf 41 [(0, 1, false), (1, 1, false), (2, 1, false)]) (.node 46 (.leaf 44 [(0, 1, false), (1, 1, false), (2, 3, true), (5, 1, false), (6, 1, false)]) (.leaf 46 [(0, 1, false), (1, 1, false), (2, 1, false), (3, 2, true), (5, 3, true), (8, 7, true)])))) (.node 64 (.node 57 (.leaf 49 [(0, 1, false), (1, 1, false), (2, 1, false)]) (.node 62 (.leaf 57 [(0, 1, false), (1, 1, false), (2, 3, true), (5, 1, false), (6, 1, false), (7, 1, false), (8, 1, false)]) (.leaf 62 [(0, 1, false), (1, 1, false)]))) (.node 166 (.leaf 64 [(0, 1, false), (1, 3, true)]) (.node 218 (.leaf 166 [(0, 1, false), (1, 1, false), (2, 1, false)]) (.leaf 218 [(0, 1, false), (1, 1, false)]))))
theorem tfs_ok : tfs.ok Tryz.prog = true := by kernel_rfl
theorem zfa {n env H dst ty pos after gd x s f b o off sz g} (hx : opd env x = some (.p b o)) (hf : tfs.look s f = some (off, sz, g)) : AP Tryz.prog n ⟨dst, .fieldAddr s x f, ty, pos, after, gd⟩ env H (.p b (o + off)) := ap_fieldAddr hx (Tf.sound tfs_ok hf)
theorem zfe {n env H dst ty pos after gd x s f l off sz g r} (hx : opd env x = some (.el (.agg l))) (hf : tfs.look s f = some (off, sz, g)) (hs : SubL l off sz r) : AP Tryz.prog n ⟨dst, .fieldAddr s x f, ty, pos, after, gd⟩ env H (.el (.agg r)) := ap_fieldAddr_el hx (Tf.sound tfs_ok hf) hs
theorem zf1 {n env H dst ty pos after gd x s f l off sz d} (hx : opd env x = some (.agg l)) (hf : tfs.look s f = some (off, sz, false)) (hs : SubL l off 1 [d]) : AP Tryz.prog n ⟨dst, .field s x f, ty, pos, after, gd⟩ env H d := ap_field hx (Tf.sound tfs_ok hf) hs
theorem zfg {n env H dst ty pos after gd x s f l off sz r} (hx : opd env x = some (.agg l)) (hf : tfs.look s f = some (off, sz, true)) (hs : SubL l off sz r) : AP Tryz.prog n ⟨dst, .field s x f, ty, pos, after, gd⟩ env H (.agg r) := ap_field_agg hx (Tf.sound tfs_ok hf) hs
theorem zAP {n env H d} {o : Oper} (h : AP Tryz.prog n o env H d := by first | exact ap_move rfl | exact ap_assign rfl | exact zfa rfl rfl | exact ap_cmp rfl rfl rfl | (apply zfe; exact rfl; exact rfl; exact zRc) | (apply ap_pick_true; exact rfl; exact zDec; exact rfl) | (apply ap_pick_false; exact rfl; exact zDec; exact rfl) | exact ap_not rfl | exact ap_extract rfl rfl | (apply ap_arith; exact rfl; exact rfl; exact rfl; omega) | (apply ap_index; exact rfl; exact rfl; exact rfl; exact rfl; decide; exact rfl; exact zAss) | (apply ap_index; exact rfl; exact rfl; exact rfl; exact rfl; decide; omega; exact zAss) | (apply ap_index_own; exact rfl; exact rfl; exact rfl; exact rfl; exact rfl; first | omega | (simp only [List.length_map, List.length_set, avs_len]; omega)) | exact ap_scmp rfl rfl rfl | exact ap_eqb rfl rfl rfl | exact ap_neb rfl rfl rfl | (apply zf1; exact rfl; exact rfl; exact zRc) | (apply zfg; exact rfl; exact rfl; exact zRc) | exact ap_nilCheck rfl | exact ap_nilCheck_el rfl | (apply ap_buildA; exact rfl; exact rfl; exact rfl; exact zRc; exact zFill) | (apply ap_build; exact zKr; exact rfl; exact zRc; exact zFill) | (apply ap_slice_to; exact rfl; exact rfl; exact rfl; exact rfl; exact rfl; omega) | (apply ap_slice_own_from; exact rfl; exact zUpd; exact rfl; exact rfl; exact rfl; exact rfl; omega) | (apply ap_slice_from; exact rfl; exact rfl; exact rfl; exact rfl; exact rfl; simp only [List.length_map]; omega) | (apply ap_indexA; exact rfl; exact rfl; exact rfl; exact rfl; exact rfl; exact rfl; omega; exact zRc) | (apply ap_indexA1; exact rfl; exact rfl; exact rfl; exact rfl; exact rfl; exact rfl; omega; exact zRc) | (apply ap_makeFunc; exact zRc) | exact ap_len_str rfl rfl | exact ap_min rfl rfl | exact ap_max rfl rfl | exact ap_convi rfl rfl rfl | (apply ap_rem; exact rfl; exact rfl; omega) | (apply ap_quo; exact rfl; exact rfl; omega) | (apply ap_bits; exact rfl; exact rfl; exact rfl; omega; omega) | exact ap_andw (k := .u64) rfl rfl | exact ap_xorw rfl rfl | exact ap_arithw (k := .u64) rfl rfl rfl | exact ap_arithw (k := .u32) rfl rfl rfl | (apply ap_len_arr; exact rfl; exact zUpd; exact rfl) | exact ap_len_nil rfl rfl) : AP Tryz.prog n o env H d := h
theorem zAR {n Hr env H d} {o : Oper} (h : AR Tryz.prog n Hr o env H d := by first | (apply AP.ar; exact zAP) | (apply AP.ar; exact ap_len rfl rfl) | (apply ar_load1; exact rfl; exact zUpd; exact rfl; exact zRc) | (apply ar_load; exact rfl; exact zUpd; exact rfl; exact rfl; exact zRc) | (apply AQ.ar; apply aq_load_el1; exact rfl; exact rfl; exact zScal; (exact fun _ h => h)) | (apply AQ.ar; apply aq_load_el; exact rfl; exact rfl; exact rfl; exact rfl; (exact fun _ h => h)) | (apply AQ.ar; apply aq_load_el1'; exact rfl; exact rfl; exact zScal; (exact fun _ h => h)) | (apply ar_load_own1; exact rfl; exact zUpd; exact rfl; exact zAss; exact zScal) | (apply ar_len_arr; exact rfl; exact zUpd; exact rfl)) : AR Tryz.prog n Hr o env H d := h
inductive NotB : Bool → Bool → Prop
  | t : NotB true false
  | f : NotB false true
/-- The guard lets an operation run. -/
inductive Gx (ops : Array Oper) (env : Env) (t : Tmp) : Option (Nat × Bool) → Prop
  | none : Gx ops env t none
  | yes {j want b} (hl : Go.Av.look env t = Option.none) (hj : ((ops[j]?).bind (·.dst)).bind (Go.Av.look env) = some (D.b b)) (hb : b = want) : Gx ops env t (some (j, want))
/-- The guard shuts it out. -/
inductive Gn (ops : Array Oper) (env : Env) (t : Tmp) : Option (Nat × Bool) → Prop
  | u {j want} (hj : ((ops[j]?).bind (·.dst)).bind (Go.Av.look env) = some (.v undef)) : Gn ops env t (some (j, want))
  | no {j want wn b} (hw : NotB want wn) (hl : Go.Av.look env t = Option.none) (hj : ((ops[j]?).bind (·.dst)).bind (Go.Av.look env) = some (D.b b)) (hb : b = wn) : Gn ops env t (some (j, want))
theorem zGx {ops env t gd} (h : Gx ops env t gd := by first | exact .none | exact .yes rfl rfl zDec) : Gx ops env t gd := h
theorem zGn {ops env t gd} (h : Gn ops env t gd := by first | exact .u rfl | exact .no .t rfl rfl zDec | exact .no .f rfl rfl zDec) : Gn ops env t gd := h
theorem zQ {P : Program} {n : Nat} {env : Env} {H : Heap} {ops : Array Oper} {rest : List Oper} {K : Env → Heap → Prop} {op : Op} {dst : Option Tmp} {ty : TypeId} {pos : String} {after : Array Edge} {gd : Option (Nat × Bool)} {t : Tmp} {d : D} (h : AQ P n [] ⟨dst, op, ty, pos, after, gd⟩ env H d) (hk : AOps P n ops rest ((t, d) :: env) H K) (hd : dst = some t := by exact rfl) (ht : Nat.blt t n = true := by exact rfl) (hg : Gx ops env t gd := by exact zGx) : AOps P n ops (⟨dst, op, ty, pos, after, gd⟩ :: rest) env H K := by
  cases hg with
  | none => exact aops_q h rfl hd ht hk
  | yes hl hj hb => exact aops_yes hd hl ht hj hb (aops_q (o := ⟨dst, op, ty, pos, after, none⟩) ⟨h.out⟩ rfl hd ht hk)
theorem zSk {P : Program} {n : Nat} {env : Env} {H : Heap} {ops : Array Oper} {rest : List Oper} {K : Env → Heap → Prop} {op : Op} {dst : Option Tmp} {ty : TypeId} {pos : String} {after : Array Edge} {gd : Option (Nat × Bool)} {t : Tmp} (h : AOps P n ops rest ((t, .v undef) :: env) H K) (hd : dst = some t := by exact rfl) (ht : Nat.blt t n = true := by exact rfl) (hg : Gn ops env t gd := by exact zGn) : AOps P n ops (⟨dst, op, ty, pos, after, gd⟩ :: rest) env H K := by
  cases hg with
  | u hj => exact aops_no_u hd ht hj h
  | no hw hl hj hb => exact aops_no hd hl ht hj (by subst hb; cases hw <;> rfl) h
theorem zY {P : Program} {n : Nat} {env : Env} {H : Heap} {ops : Array Oper} {rest : List Oper} {K : Env → Heap → Prop} {op : Op} {dst : Option Tmp} {ty : TypeId} {pos : String} {after : Array Edge} {gd : Option (Nat × Bool)} {t : Tmp} (h : AOps P n ops (⟨dst, op, ty, pos, after, none⟩ :: rest) env H K) (hd : dst = some t := by exact rfl) (ht : Nat.blt t n = true := by exact rfl) (hg : Gx ops env t gd := by exact zGx) : AOps P n ops (⟨dst, op, ty, pos, after, gd⟩ :: rest) env H K := by
  cases hg with
  | none => exact h
  | yes hl hj hb => exact aops_yes hd hl ht hj hb h
theorem zG {P : Program} {n : Nat} {env : Env} {H : Heap} {ops : Array Oper} {rest : List Oper} {K : Env → Heap → Prop} {op : Op} {dst : Option Tmp} {ty : TypeId} {pos : String} {after : Array Edge} {t : Tmp} {j : Nat} {want wn b : Bool} (h : b = want → AOps P n ops (⟨dst, op, ty, pos, after, none⟩ :: rest) env H K) (h' : b = wn → AOps P n ops rest ((t, .v undef) :: env) H K) (hw : NotB want wn := by first | exact .t | exact .f) (hd : dst = some t := by exact rfl) (hl : Go.Av.look env t = none := by exact rfl) (ht : Nat.blt t n = true := by exact rfl) (hj : ((ops[j]?).bind (·.dst)).bind (Go.Av.look env) = some (D.b b) := by exact rfl) : AOps P n ops (⟨dst, op, ty, pos, after, some (j, want)⟩ :: rest) env H K := aops_guard hd hl ht hj h (fun e => h' (by cases hw <;> simpa using e))
/-- What a store makes of the heap. -/
def Stored (P : Program) (n : Nat) (o : Oper) (env : Env) (H H' : Heap) : Prop := ∀ (ops : Array Oper) (rest : List Oper) (K : Env → Heap → Prop), AOps P n ops rest env H' K → AOps P n ops (o :: rest) env H K
theorem sto1 {P : Program} {n : Nat} {env : Env} {H : Heap} {ty : TypeId} {pos : String} {after : Array Edge} {x y : Operand} {t b off d ds bty cs cs' f} (hx : opd env x = some (.p b off)) (hy : opd env y = some d) (hfl : Flat d ds) (hk : UpdF H (.box b bty cs) f) (hs : tsize P t = some ds.length) (hsp : Spl cs off ds cs') : Stored P n ⟨none, .store t x y, ty, pos, after, none⟩ env H (f (.box b bty cs')) := fun _ _ _ h => aops_store hx hy hfl hk hs hsp h
theorem sto2 {P : Program} {n : Nat} {env : Env} {H : Heap} {ty : TypeId} {pos : String} {after : Array Edge} {x y : Operand} {t g k len cap ety l d f} (hx : opd env x = some (.p g (k * 1))) (hy : opd env y = some d) (hsc : Scal d) (hk : UpdF H (.arr (.slice (some ⟨g, 0, none⟩) len cap) ety 1 l) f) (hs : tsize P t = some 1) (hkl : k < l.length) : Stored P n ⟨none, .store t x y, ty, pos, after, none⟩ env H (f (.arr (.slice (some ⟨g, 0, none⟩) len cap) ety 1 (l.set k d))) := fun _ _ _ h => aops_store_own1 hx hy hsc hk hs hkl h
theorem zV {P : Program} {n : Nat} {env : Env} {H : Heap} {ops : Array Oper} {rest : List Oper} {K : Env → Heap → Prop} {op : Op} {dst : Option Tmp} {ty : TypeId} {pos : String} {after : Array Edge} {gd : Option (Nat × Bool)} {t : Tmp} {d : D} (hk : AOps P n ops rest ((t, d) :: env) H K) (hd : dst = some t) (ht : Nat.blt t n = true) (hg : Gx ops env t gd) (h : AQ P n [] ⟨dst, op, ty, pos, after, gd⟩ env H d) : AOps P n ops (⟨dst, op, ty, pos, after, gd⟩ :: rest) env H K := zQ h hk hd ht hg
theorem zOp {n env H d} {o : Oper} (h : AQ Tryz.prog n [] o env H d := by first | (apply AP.aq; exact zAP) | (apply aq_load1; exact rfl; exact zUpd; (exact List.not_mem_nil); exact rfl; exact zRc) | (apply aq_load; exact rfl; exact zUpd; (exact List.not_mem_nil); exact rfl; exact rfl; exact zRc) | (apply aq_load_el1; exact rfl; exact rfl; exact zScal; (exact fun _ h => absurd h List.not_mem_nil)) | (apply aq_load_el; exact rfl; exact rfl; exact rfl; exact rfl; (exact fun _ h => absurd h List.not_mem_nil)) | (apply aq_load_el1'; exact rfl; exact rfl; exact zScal; (exact fun _ h => absurd h List.not_mem_nil)) | (apply aq_load_own1; exact rfl; exact zUpd; (exact List.not_mem_nil); exact rfl; exact zAss; exact zScal)) : AQ Tryz.prog n [] o env H d := h
theorem zSto {P : Program} {n : Nat} {env : Env} {H : Heap} {o : Oper} {ops : Array Oper} {rest : List Oper} {K : Env → Heap → Prop} {H' : Heap} (hk : AOps P n ops rest env H' K) (h : Stored P n o env H H') : AOps P n ops (o :: rest) env H K := h _ _ _ hk
theorem zVn {P : Program} {n : Nat} {env : Env} {H : Heap} {ops : Array Oper} {rest : List Oper} {K : Env → Heap → Prop} {op : Op} {dst : Option Tmp} {ty : TypeId} {pos : String} {after : Array Edge} {gd : Option (Nat × Bool)} {t : Tmp} (hk : AOps P n ops rest ((t, .v undef) :: env) H K) (hd : dst = some t) (ht : Nat.blt t n = true) (hg : Gn ops env t gd) : AOps P n ops (⟨dst, op, ty, pos, after, gd⟩ :: rest) env H K := zSk hk hd ht hg
/-- One step that is found by itself. -/
theorem zW {p q : Prop} (h : q) (s : q → p := by intro h; first | (apply zV h; exact rfl; exact rfl; exact zGx; exact zOp) | exact awp_seq h | exact awp_region h | exact aops_nil h | exact seqQ_n h | (apply zSto h; first | (apply sto1; exact rfl; exact rfl; exact zFlat; exact zUpd; exact rfl; exact zRc) | (apply sto2; exact rfl; exact rfl; exact zScal; exact zUpd; exact rfl; (simp only [List.length_set, List.length_map]; omega))) | (apply zVn h; exact rfl; exact rfl; exact zGn) | exact awp_block h | exact awp_skip h | exact awp_ret h | exact awp_exit h | exact seqQ_r h | exact seqQ_x h | exact blockQ_n h | exact blockQ_r h | exact blockQ_x rfl h | exact blockQ_y rfl h | exact aany_nil zKr h) : p := s h
theorem zLn {P : Program} {n : Nat} {env : Env} {H : Heap} {ops : Array Oper} {rest : List Oper} {K : Env → Heap → Prop} {dst : Option Tmp} {ty : TypeId} {pos : String} {after : Array Edge} {t0 e sz l d' x} (hk : l.length ≤ capB → AOps P n ops rest ((d', .i (l.length : Int)) :: env) H K) (hx : opd env x = some (.sl sz l) := by exact rfl) (ht : telem P t0 = some e := by exact rfl) (hd : dst = some d' := by exact rfl) (hn : Nat.blt d' n = true := by exact rfl) : AOps P n ops (⟨dst, .call { callee := .builtin .len, args := #[x], argTypes := #[t0] }, ty, pos, after, none⟩ :: rest) env H K := aops_len hx ht hd hn hk
theorem zC {P : Program} {n : Nat} {env : Env} {H : Heap} {Q : Exit → Env → Heap → Prop} {c : Operand} {t : Bool} {c1 c2 : Code} (ht : t = true → AWp P n c1 env H Q) (hf : t = false → AWp P n c2 env H Q) (hc : opd env c = some (.b t) := by exact rfl) : AWp P n (.cond c c1 c2) env H Q := awp_cond hc ht hf
theorem zWk {env : Env} {H : Heap} {env' : Env} {H' : Heap} (he : Sub env env' := by exact zSub) (hh : Keep H H' := by exact zKeep) : Wk env H env' H' := wk he hh
theorem zFz {P : Program} {n : Nat} {env : Env} {H : Heap} {Q : Exit → Env → Heap → Prop} {env' : Env} {H1 H' : Heap} {c : Code} (v : Value) (live : List Nat) {ety sz l} (h : AWp P n c env' H' Q) (hk : Rem H (.arr v ety sz l) H1 := by exact zRem) (he : SelC v sz l env live env' := by exact zSelC) (hh : HeapA v sz l H1 H' := by exact zHeapA) : AWp P n c env H Q := awp_freeze v live hk he hh h
theorem zPi {P : Program} {env : Env} {H : Heap} {rs : List ResultVar} {d : D} {K : Heap} {ds} (hd : resD ds = d) (h : ResL P env H rs ds := by exact zRs) (hk : Keep H K := by exact zKeep) : Post P rs (Is d K) .ret env H := post_is h hk hd
theorem zBx {P : Program} {n : Nat} {env : Env} {H : Heap} {ops : Array Oper} {rest : List Oper} {K : Env → Heap → Prop} {dst : Option Tmp} {ty : TypeId} {pos : String} {after : Array Edge} {t : Tmp} {ety d ds x} (hk : ∀ b, AOps P n ops rest ((t, .p b 0) :: env) (.box b ety ds :: H) K) (hx : opd env x = some d := by exact rfl) (hfl : Flat d ds := by exact zFlat) (hd : dst = some t := by exact rfl) (hn : Nat.blt t n = true := by exact rfl) : AOps P n ops (⟨dst, .box ety x, ty, pos, after, none⟩ :: rest) env H K := aops_box hx hfl hd hn hk
theorem zAl {P : Program} {n : Nat} {env : Env} {H : Heap} {ops : Array Oper} {rest : List Oper} {K : Env → Heap → Prop} {dst : Option Tmp} {ty : TypeId} {pos : String} {after : Array Edge} {t : Tmp} {ety us ds} (hk : ∀ b, AOps P n ops rest ((t, .p b 0) :: env) (.box b ety ds :: H) K) (hz : tzero P ety = some us := by exact rfl) (hu : AllV us ds := by exact zRc) (hd : dst = some t := by exact rfl) (hn : Nat.blt t n = true := by exact rfl) : AOps P n ops (⟨dst, .alloc ety, ty, pos, after, none⟩ :: rest) env H K := aops_alloc hz hu hd hn hk
theorem zDr {P : Program} {n : Nat} {env : Env} {H : Heap} {Q : Exit → Env → Heap → Prop} {Hr : Heap} {id : Nat} {l : List Oper} (Hm : Heap) (h : AAny P n Hr l.toArray l.toArray.size (Array.replicate l.toArray.size false) env Hm (fun env' H' => Q .normal env' (H' ++ Hr))) (hmix : P.follows .mixedOrders = true := by exact zKr) (hs : Split H Hm Hr := by exact zSplit) : AWp P n (.region id l.toArray true) env H Q := awp_draw hmix hs h
theorem zGd {ops env o} (h : Gd ops env o true := by first | exact .none rfl | exact .yes rfl rfl zDec) : Gd ops env o true := h
theorem zGo {ops env o} (h : Gd ops env o false := by first | exact .nou rfl rfl | exact .no rfl rfl (by first | (show _ = true; with_reducible assumption) | (show _ = false; with_reducible assumption) | exact zDec)) : Gd ops env o false := h
theorem zT {n : Nat} {Hr : Heap} {ops : Array Oper} {env : Env} {H : Heap} {K : Env → Heap → Prop} {fuel : Nat} {listed : Array Bool} {d : D} {t : Tmp} {o : Oper} (i : Nat) (hk : AAny Tryz.prog n Hr ops fuel (listed.setIfInBounds i true) ((t, d) :: env) H K) (ho : ops[i]? = some o := by exact rfl) (hgd : Gd ops env o true := by exact zGd) (h : AR Tryz.prog n Hr o env H d := by exact zAR) (hs : Region.noSelect ops = true := by exact zKr) (hf : Region.free .any ops listed i = true := by exact zKr) (hr : (Region.ready .any ops listed).contains i = true := by exact zKr) (hd : o.dst = some t := by exact rfl) (ht : Nat.blt t n = true := by exact rfl) : AAny Tryz.prog n Hr ops (fuel + 1) listed env H K := aany_take i ho hgd hs hf hr h hd ht hk
theorem zK {P : Program} {n : Nat} {Hr : Heap} {ops : Array Oper} {env : Env} {H : Heap} {K : Env → Heap → Prop} {fuel : Nat} {listed : Array Bool} {t : Tmp} {o : Oper} (i : Nat) (hk : AAny P n Hr ops fuel (listed.setIfInBounds i true) env H K) (ho : ops[i]? = some o := by exact rfl) (hgd : Gd ops env o false := by exact zGo) (hs : Region.noSelect ops = true := by exact zKr) (hf : Region.free .any ops listed i = true := by exact zKr) (hr : (Region.ready .any ops listed).contains i = true := by exact zKr) (hd : o.dst = some t := by exact rfl) (hl : Go.Av.look env t = none := by exact rfl) : AAny P n Hr ops (fuel + 1) listed env H K := aany_skip i ho hgd hs hf hr hd hl hk
theorem zKu {P : Program} {n : Nat} {Hr : Heap} {ops : Array Oper} {env : Env} {H : Heap} {K : Env → Heap → Prop} {fuel : Nat} {listed : Array Bool} {t : Tmp} {o : Oper} (i : Nat) (hk : AAny P n Hr ops fuel (listed.setIfInBounds i true) ((t, .v undef) :: env) H K) (ho : ops[i]? = some o := by exact rfl) (hgd : Gd ops env o false := by exact zGo) (hs : Region.noSelect ops = true := by exact zKr) (hf : Region.free .any ops listed i = true := by exact zKr) (hr : (Region.ready .any ops listed).contains i = true := by exact zKr) (hd : o.dst = some t := by exact rfl) (ht : Nat.blt t n = true := by exact rfl) : AAny P n Hr ops (fuel + 1) listed env H K := aany_skipu i ho hgd hs hf hr hd ht hk
theorem zOn {P : Program} {n : Nat} {Hr : Heap} {ops : Array Oper} {env : Env} {H : Heap} {K : Env → Heap → Prop} {fuel : Nat} {listed : Array Bool} {op : Op} {dst : Option Tmp} {ty : TypeId} {pos : String} {after : Array Edge} {gd : Option (Nat × Bool)} (i : Nat) (h : AOps P n ops [⟨dst, op, ty, pos, after, none⟩] env H (fun env' H' => AAny P n Hr ops fuel (listed.setIfInBounds i true) env' H' K)) (hr : Region.ready .any ops listed = [i] := by exact zKr) (ho : ops[i]? = some ⟨dst, op, ty, pos, after, gd⟩ := by exact rfl) (hgd : Gd ops env ⟨dst, op, ty, pos, after, gd⟩ true := by exact zGd) : AAny P n Hr ops (fuel + 1) listed env H K := aany_one i hr ho hgd h
theorem zE2 {P : Program} {n : Nat} {Hr : Heap} {ops : Array Oper} {env : Env} {H : Heap} {K : Env → Heap → Prop} {fuel : Nat} {listed : Array Bool} {op : Op} {dst : Option Tmp} {ty : TypeId} {pos : String} {after : Array Edge} {gd : Option (Nat × Bool)} {op' : Op} {dst' : Option Tmp} {ty' : TypeId} {pos' : String} {after' : Array Edge} {gd' : Option (Nat × Bool)} (i j : Nat) (h : AOps P n ops [⟨dst, op, ty, pos, after, none⟩] env H (fun env' H' => AAny P n Hr ops fuel (listed.setIfInBounds i true) env' H' K)) (h' : AOps P n ops [⟨dst', op', ty', pos', after', none⟩] env H (fun env' H' => AAny P n Hr ops fuel (listed.setIfInBounds j true) env' H' K)) (hr : Region.ready .any ops listed = [i, j] := by exact zKr) (ho : ops[i]? = some ⟨dst, op, ty, pos, after, gd⟩ := by exact rfl) (hgd : Gd ops env ⟨dst, op, ty, pos, after, gd⟩ true := by exact zGd) (ho' : ops[j]? = some ⟨dst', op', ty', pos', after', gd'⟩ := by exact rfl) (hgd' : Gd ops env ⟨dst', op', ty', pos', after', gd'⟩ true := by exact zGd) : AAny P n Hr ops (fuel + 1) listed env H K := aany_each2 i j hr ho hgd h ho' hgd' h'
theorem shl1 (k : Nat) (hk : k ≤ 62) : 2 ^ k < 9223372036854775808 := Nat.lt_of_le_of_lt (Nat.pow_le_pow_right (by omega) hk) (by omega)
theorem pow_lt10 {k : Nat} (hk : k < 10) : 2 ^ k < 1024 := by
  have : k = 0 ∨ k = 1 ∨ k = 2 ∨ k = 3 ∨ k = 4 ∨ k = 5 ∨ k = 6 ∨ k = 7 ∨ k = 8 ∨ k = 9 := by omega
  rcases this with h | h | h | h | h | h | h | h | h | h <;> subst h <;> decide
theorem valid_nat {s : Int} (h : valid s = true) : ∃ m : Nat, s = m ∧ m < 1024 := by
  have h5 : 0 ≤ s ∧ s < 1024 := by simpa [valid] using h
  obtain ⟨m, rfl⟩ := Int.eq_ofNat_of_zero_le h5.1
  exact ⟨m, rfl, by omega⟩
theorem has_bit {m q : Nat} (h1 : valid (m : Int) = true) (h3 : q < 10) : (!decide (((m &&& 1 * 2 ^ q : Nat) : Int) = 0)) = has m q := by
  have h2 : (0 : Int) ≤ (q : Int) := by omega
  have h4 : (q : Int) < 10 := by omega
  have e := and_pow_ne m q
  rw [Nat.one_mul]
  unfold has
  rw [h1, decide_eq_true h2, decide_eq_true h4]
  simp only [Bool.true_and, Int.toNat_natCast]
  cases hb : m.testBit q with
  | true =>
    have := e.2 hb
    simp; omega
  | false =>
    have : m &&& 2 ^ q = 0 := by
      rcases Nat.eq_zero_or_pos (m &&& 2 ^ q) with h | h
      · exact h
      · have := e.1 (by omega); rw [hb] at this; cases this
    simp [this]
theorem has_bit' {m q : Nat} (h1 : valid (m : Int) = true) (h3 : q < 10) : decide (((m / 2 ^ q &&& 1 : Nat) : Int) = 1) = has m q := by
  have h2 : (0 : Int) ≤ (q : Int) := by omega
  have h4 : (q : Int) < 10 := by omega
  unfold has
  rw [h1, decide_eq_true h2, decide_eq_true h4]
  simp only [Bool.true_and, Int.toNat_natCast, Nat.testBit, Nat.shiftRight_eq_div_pow, Nat.and_comm 1]
  rcases Nat.mod_two_eq_zero_or_one (m / 2 ^ q) with h | h <;> simp [Nat.and_one_is_mod, h]
theorem below_con (s : Int) (k : Nat) (hk : k ≤ 62) : Con Tryz.prog 76 [.i s, .i k] [] (Is (.b (decide (0 ≤ s) && decide (s < 2 ^ k))) []) := by
  have hcap : capB = 140737488355328 := rfl
  have h2 := shl1 k hk
  refine con_intro Tryz.func76 rfl Tryz.call76 rfl ?_
  iterate 10 refine zW ?_
  iterate 2 all_goals first | refine zW ?_ | (refine zG (fun hg => ?_) fun hg => ?_; case' _ => refine zW ?_)
  all_goals first | (refine zY ?_; refine aops_p (ap_shl (p := 1) rfl rfl rfl (by omega) (by omega)) rfl rfl rfl ?_) | refine zSk ?_ | (refine zG (fun hg => ?_) fun hg => ?_; case' _ => refine aops_p (ap_shl (p := 1) rfl rfl rfl (by omega) (by omega)) rfl rfl rfl ?_)
  iterate 3 all_goals first | refine zW ?_ | (refine zG (fun hg => ?_) fun hg => ?_; case' _ => refine zW ?_)
  all_goals (
    iterate 3 refine zW ?_
    refine post_is (.tmp rfl .nil) .nil ?_
    first | (simp_all [resD]; done) | (simp_all [resD]; omega)
    )
theorem valid_con (s : Int) : Con Tryz.prog 42 [.i s] [] (Is (.b (valid s)) []) := by
  have hcap : capB = 140737488355328 := rfl
  refine con_intro Tryz.func42 rfl Tryz.call42 rfl ?_
  iterate 8 refine zW ?_
  refine aops_call_v zRc (below_con _ 10 (by omega)) rfl rfl ?_
  iterate 4 refine zW ?_
  refine post_is (.tmp rfl .nil) .nil ?_
  simp [resD, valid]
theorem has_con (s k : Int) : Con Tryz.prog 48 [.i s, .i k] [] (Is (.b (has s k)) []) := by
  have hcap : capB = 140737488355328 := rfl
  by_cases h1 : valid s = true
  · by_cases h2 : 0 ≤ k
    · by_cases h3 : k < 10
      · obtain ⟨q, rfl⟩ := Int.eq_ofNat_of_zero_le h2
        obtain ⟨m, rfl, hm⟩ := valid_nat h1
        have hq := pow_lt10 (k := q) (by omega)
        have hdiv : m / 2 ^ q ≤ m := Nat.div_le_self _ _
        refine con_intro Tryz.func48 rfl Tryz.call48 rfl ?_
        iterate 8 refine zW ?_
        refine aops_call_v zRc (valid_con _) rfl rfl ?_
        refine zW ?_
        iterate 10 all_goals first | refine zW ?_ | (refine zG (fun hg => ?_) fun hg => ?_; case' _ => refine zW ?_)
        all_goals first | (refine zY ?_; refine aops_p (ap_shl (p := 1) rfl rfl rfl (by omega) (by omega)) rfl rfl rfl ?_) | refine zSk ?_ | (refine zG (fun hg => ?_) fun hg => ?_; case' _ => refine aops_p (ap_shl (p := 1) rfl rfl rfl (by omega) (by omega)) rfl rfl rfl ?_)
        iterate 4 all_goals first | refine zW ?_ | (refine zG (fun hg => ?_) fun hg => ?_; case' _ => refine zW ?_)
        all_goals (
          iterate 3 refine zW ?_
          refine post_is (.tmp rfl .nil) .nil ?_
          first | (simp [resD, has, h1]; done) | (simp [resD, has, h1, h2]; done) | (simp [resD, has, h1, h2, h3]; done) | exact congrArg D.b (has_bit h1 (by omega))
          )
      · refine con_intro Tryz.func48 rfl Tryz.call48 rfl ?_
        iterate 8 refine zW ?_
        refine aops_call_v zRc (valid_con _) rfl rfl ?_
        refine zW ?_
        iterate 10 all_goals first | refine zW ?_ | (refine zG (fun hg => ?_) fun hg => ?_; case' _ => refine zW ?_)
        all_goals first | (refine zY ?_; refine aops_p (ap_shl (p := 1) rfl rfl rfl (by omega) (by omega)) rfl rfl rfl ?_) | refine zSk ?_ | (refine zG (fun hg => ?_) fun hg => ?_; case' _ => refine aops_p (ap_shl (p := 1) rfl rfl rfl (by omega) (by omega)) rfl rfl rfl ?_)
        iterate 4 all_goals first | refine zW ?_ | (refine zG (fun hg => ?_) fun hg => ?_; case' _ => refine zW ?_)
        all_goals (
          iterate 3 refine zW ?_
          refine post_is (.tmp rfl .nil) .nil ?_
          first | (simp [resD, has, h1]; done) | (simp [resD, has, h1, h2]; done) | (simp [resD, has, h1, h2, h3]; done) | exact congrArg D.b (has_bit h1 (by omega))
          )
    · refine con_intro Tryz.func48 rfl Tryz.call48 rfl ?_
      iterate 8 refine zW ?_
      refine aops_call_v zRc (valid_con _) rfl rfl ?_
      refine zW ?_
      iterate 10 all_goals first | refine zW ?_ | (refine zG (fun hg => ?_) fun hg => ?_; case' _ => refine zW ?_)
      all_goals first | (refine zY ?_; refine aops_p (ap_shl (p := 1) rfl rfl rfl (by omega) (by omega)) rfl rfl rfl ?_) | refine zSk ?_ | (refine zG (fun hg => ?_) fun hg => ?_; case' _ => refine aops_p (ap_shl (p := 1) rfl rfl rfl (by omega) (by omega)) rfl rfl rfl ?_)
      iterate 4 all_goals first | refine zW ?_ | (refine zG (fun hg => ?_) fun hg => ?_; case' _ => refine zW ?_)
      all_goals (
        iterate 3 refine zW ?_
        refine post_is (.tmp rfl .nil) .nil ?_
        first | (simp [resD, has, h1]; done) | (simp [resD, has, h1, h2]; done) | (simp [resD, has, h1, h2, h3]; done) | exact congrArg D.b (has_bit h1 (by omega))
        )
  · have h1 : valid s = false := by simpa using h1
    refine con_intro Tryz.func48 rfl Tryz.call48 rfl ?_
    iterate 8 refine zW ?_
    refine aops_call_v zRc (valid_con _) rfl rfl ?_
    refine zW ?_
    iterate 10 all_goals first | refine zW ?_ | (refine zG (fun hg => ?_) fun hg => ?_; case' _ => refine zW ?_)
    all_goals first | (refine zY ?_; refine aops_p (ap_shl (p := 1) rfl rfl rfl (by omega) (by omega)) rfl rfl rfl ?_) | refine zSk ?_ | (refine zG (fun hg => ?_) fun hg => ?_; case' _ => refine aops_p (ap_shl (p := 1) rfl rfl rfl (by omega) (by omega)) rfl rfl rfl ?_)
    iterate 4 all_goals first | refine zW ?_ | (refine zG (fun hg => ?_) fun hg => ?_; case' _ => refine zW ?_)
    all_goals (
      iterate 3 refine zW ?_
      refine post_is (.tmp rfl .nil) .nil ?_
      first | (simp [resD, has, h1]; done) | (simp [resD, has, h1, h2]; done) | (simp [resD, has, h1, h2, h3]; done) | exact congrArg D.b (has_bit h1 (by omega))
      )
theorem rvalid_con (s : Int) : Con Tryz.prog 21 [.i s] [] (Is (.b (valid s)) []) := by
  have hcap : capB = 140737488355328 := rfl
  refine con_intro Tryz.func21 rfl Tryz.call21 rfl ?_
  iterate 10 refine zW ?_
  iterate 4 all_goals first | refine zW ?_ | (refine zG (fun hg => ?_) fun hg => ?_; case' _ => refine zW ?_)
  all_goals (
    iterate 3 refine zW ?_
    refine post_is (.tmp rfl .nil) .nil ?_
    first | (simp_all [resD, valid]; done) | (simp_all [resD, valid]; omega)
    )
theorem rhas_con (s k : Int) : Con Tryz.prog 9 [.i s, .i k] [] (Is (.b (has s k)) []) := by
  have hcap : capB = 140737488355328 := rfl
  by_cases h1 : valid s = true
  · by_cases h2 : 0 ≤ k
    · by_cases h3 : k < 10
      · obtain ⟨q, rfl⟩ := Int.eq_ofNat_of_zero_le h2
        obtain ⟨m, rfl, hm⟩ := valid_nat h1
        have hq := pow_lt10 (k := q) (by omega)
        have hdiv : m / 2 ^ q ≤ m := Nat.div_le_self _ _
        refine con_intro Tryz.func9 rfl Tryz.call9 rfl ?_
        iterate 8 refine zW ?_
        refine aops_call_v zRc (rvalid_con _) rfl rfl ?_
        refine zW ?_
        iterate 10 all_goals first | refine zW ?_ | (refine zG (fun hg => ?_) fun hg => ?_; case' _ => refine zW ?_)
        all_goals first | (refine zY ?_; refine aops_p (ap_shr rfl rfl (by omega)) rfl rfl rfl ?_) | refine zSk ?_ | (refine zG (fun hg => ?_) fun hg => ?_; case' _ => refine aops_p (ap_shr rfl rfl (by omega)) rfl rfl rfl ?_)
        all_goals first | (refine zY ?_; refine aops_p (ap_bits (q := 1) rfl rfl rfl (by omega) (by omega)) rfl rfl rfl ?_) | refine zSk ?_ | (refine zG (fun hg => ?_) fun hg => ?_; case' _ => refine aops_p (ap_bits (q := 1) rfl rfl rfl (by omega) (by omega)) rfl rfl rfl ?_)
        iterate 3 all_goals first | refine zW ?_ | (refine zG (fun hg => ?_) fun hg => ?_; case' _ => refine zW ?_)
        all_goals (
          iterate 3 refine zW ?_
          refine post_is (.tmp rfl .nil) .nil ?_
          first | (simp [resD, has, h1]; done) | (simp [resD, has, h1, h2]; done) | (simp [resD, has, h1, h2, h3]; done) | exact congrArg D.b (has_bit' h1 (by omega))
          )
      · refine con_intro Tryz.func9 rfl Tryz.call9 rfl ?_
        iterate 8 refine zW ?_
        refine aops_call_v zRc (rvalid_con _) rfl rfl ?_
        refine zW ?_
        iterate 10 all_goals first | refine zW ?_ | (refine zG (fun hg => ?_) fun hg => ?_; case' _ => refine zW ?_)
        all_goals first | (refine zY ?_; refine aops_p (ap_shr rfl rfl (by omega)) rfl rfl rfl ?_) | refine zSk ?_ | (refine zG (fun hg => ?_) fun hg => ?_; case' _ => refine aops_p (ap_shr rfl rfl (by omega)) rfl rfl rfl ?_)
        all_goals first | (refine zY ?_; refine aops_p (ap_bits (q := 1) rfl rfl rfl (by omega) (by omega)) rfl rfl rfl ?_) | refine zSk ?_ | (refine zG (fun hg => ?_) fun hg => ?_; case' _ => refine aops_p (ap_bits (q := 1) rfl rfl rfl (by omega) (by omega)) rfl rfl rfl ?_)
        iterate 3 all_goals first | refine zW ?_ | (refine zG (fun hg => ?_) fun hg => ?_; case' _ => refine zW ?_)
        all_goals (
          iterate 3 refine zW ?_
          refine post_is (.tmp rfl .nil) .nil ?_
          first | (simp [resD, has, h1]; done) | (simp [resD, has, h1, h2]; done) | (simp [resD, has, h1, h2, h3]; done) | exact congrArg D.b (has_bit' h1 (by omega))
          )
    · refine con_intro Tryz.func9 rfl Tryz.call9 rfl ?_
      iterate 8 refine zW ?_
      refine aops_call_v zRc (rvalid_con _) rfl rfl ?_
      refine zW ?_
      iterate 10 all_goals first | refine zW ?_ | (refine zG (fun hg => ?_) fun hg => ?_; case' _ => refine zW ?_)
      all_goals first | (refine zY ?_; refine aops_p (ap_shr rfl rfl (by omega)) rfl rfl rfl ?_) | refine zSk ?_ | (refine zG (fun hg => ?_) fun hg => ?_; case' _ => refine aops_p (ap_shr rfl rfl (by omega)) rfl rfl rfl ?_)
      all_goals first | (refine zY ?_; refine aops_p (ap_bits (q := 1) rfl rfl rfl (by omega) (by omega)) rfl rfl rfl ?_) | refine zSk ?_ | (refine zG (fun hg => ?_) fun hg => ?_; case' _ => refine aops_p (ap_bits (q := 1) rfl rfl rfl (by omega) (by omega)) rfl rfl rfl ?_)
      iterate 3 all_goals first | refine zW ?_ | (refine zG (fun hg => ?_) fun hg => ?_; case' _ => refine zW ?_)
      all_goals (
        iterate 3 refine zW ?_
        refine post_is (.tmp rfl .nil) .nil ?_
        first | (simp [resD, has, h1]; done) | (simp [resD, has, h1, h2]; done) | (simp [resD, has, h1, h2, h3]; done) | exact congrArg D.b (has_bit' h1 (by omega))
        )
  · have h1 : valid s = false := by simpa using h1
    refine con_intro Tryz.func9 rfl Tryz.call9 rfl ?_
    iterate 8 refine zW ?_
    refine aops_call_v zRc (rvalid_con _) rfl rfl ?_
    refine zW ?_
    iterate 10 all_goals first | refine zW ?_ | (refine zG (fun hg => ?_) fun hg => ?_; case' _ => refine zW ?_)
    all_goals first | (refine zY ?_; refine aops_p (ap_shr rfl rfl (by omega)) rfl rfl rfl ?_) | refine zSk ?_ | (refine zG (fun hg => ?_) fun hg => ?_; case' _ => refine aops_p (ap_shr rfl rfl (by omega)) rfl rfl rfl ?_)
    all_goals first | (refine zY ?_; refine aops_p (ap_bits (q := 1) rfl rfl rfl (by omega) (by omega)) rfl rfl rfl ?_) | refine zSk ?_ | (refine zG (fun hg => ?_) fun hg => ?_; case' _ => refine aops_p (ap_bits (q := 1) rfl rfl rfl (by omega) (by omega)) rfl rfl rfl ?_)
    iterate 3 all_goals first | refine zW ?_ | (refine zG (fun hg => ?_) fun hg => ?_; case' _ => refine zW ?_)
    all_goals (
      iterate 3 refine zW ?_
      refine post_is (.tmp rfl .nil) .nil ?_
      first | (simp [resD, has, h1]; done) | (simp [resD, has, h1, h2]; done) | (simp [resD, has, h1, h2, h3]; done) | exact congrArg D.b (has_bit' h1 (by omega))
      )
theorem sat_con (s : Int) : ∀ (t : Trust), Con Tryz.prog 156 [av t, .i s] [] (Is (.b (sat s t)) []) := by
  have hcap : capB = 140737488355328 := rfl
  intro t
  induction t using Trust.ind with
  | _ t ih =>
    have hl1 : (t.nodes.map D.i).length = t.nodes.length := by simp
    have hl2 := avs_len t.inner
    refine con_intro Tryz.func156 rfl Tryz.call156 rfl ?_
    refine zW ?_; refine zW ?_
    refine zBx fun b2 => ?_
    iterate 7 refine zW ?_
    refine aops_call_v zRc (valid_con _) rfl rfl ?_
    iterate 3 refine zW ?_
    refine zC (fun hc => ?_) fun hc => ?_
    · iterate 7 refine zW ?_
      refine post_is (.tmp rfl .nil) .nil ?_
      first | (simp_all [resD, sat]; done)
    · have h1 : valid s = true := by simpa using hc
      iterate 12 refine zW ?_
      first | refine zLn fun _ => ?_ | refine zW ?_
      iterate 4 refine zW ?_
      refine awp_loop2 [1, 2, 14, 15] [.box b2 _ _] (fun (k : Nat) (n : Int) r => (5, .i n) :: (16, .i (k : Int)) :: r) (fun k n r => r) (fun k n => k ≤ t.nodes.length ∧ (0 ≤ n ∧ n ≤ k) ∧ n + cnt (has s) (t.nodes.drop k) = cnt (has s) t.nodes) (fun k n => t.nodes.length - k) (0) (0) zRc ⟨by omega, by omega, by simp⟩ (zWk) ?_
      intro k n ⟨hk, hn, hI⟩
      iterate 6 refine zW ?_
      refine zC (fun hc => ?_) fun hc => ?_
      · have hlt : k < t.nodes.length := by have := of_decide_eq_true hc; omega
        obtain ⟨x, hx, hd⟩ := drop_cons hlt
        have hx' := getMap D.i hx
        iterate 15 refine zW ?_
        refine aops_call_v zRc (has_con _ _) rfl rfl ?_
        refine zW ?_; refine zW ?_
        refine zC (fun hc => ?_) fun hc => ?_
        · iterate 12 refine zW ?_
          refine ⟨k + 1, _, ⟨by omega, ?_, ?_⟩, by omega, zWk⟩
          · omega
          · rw [hd, cnt_cons] at hI; simp [hc] at hI; omega
        · iterate 8 refine zW ?_
          refine ⟨k + 1, _, ⟨by omega, ?_, ?_⟩, by omega, zWk⟩
          · omega
          · rw [hd, cnt_cons] at hI; simp [hc] at hI; omega
      · have hge : t.nodes.length ≤ k := by have := of_decide_eq_false hc; omega
        rw [drop_nil hge] at hI; simp only [cnt] at hI
        iterate 10 refine zW ?_
        first | refine zLn fun _ => ?_ | refine zW ?_
        iterate 4 refine zW ?_
        refine awp_loop2 [1, 2, 27, 28] [.box b2 _ _] (fun (k : Nat) (n : Int) r => (5, .i n) :: (29, .i (k : Int)) :: r) (fun k n r => r) (fun k n => k ≤ t.inner.length ∧ (0 ≤ n ∧ n ≤ t.nodes.length + k) ∧ n + cntI s (t.inner.drop k) = cnt (has s) t.nodes + cntI s t.inner) (fun k n => t.inner.length - k) (0) (n) zRc ⟨by omega, by omega, by simpa using hI⟩ (zWk) ?_
        intro k n ⟨hk, hn, hI⟩
        iterate 6 refine zW ?_
        refine zC (fun hc => ?_) fun hc => ?_
        · have hlt : k < t.inner.length := by have := of_decide_eq_true hc; omega
          obtain ⟨x, hx, hd⟩ := drop_cons hlt
          have hx' := avs_get hx
          iterate 8 refine zW ?_
          refine zAl fun b9 => ?_
          iterate 7 refine zW ?_
          refine aops_call_v zRc (ih _ (List.mem_of_getElem? hx)) rfl rfl ?_
          refine zW ?_; refine zW ?_
          refine zC (fun hc => ?_) fun hc => ?_
          · iterate 12 refine zW ?_
            refine ⟨k + 1, _, ⟨by omega, ?_, ?_⟩, by omega, zWk⟩
            · omega
            · rw [hd, cntI_cons] at hI; simp [hc] at hI; omega
          · iterate 8 refine zW ?_
            refine ⟨k + 1, _, ⟨by omega, ?_, ?_⟩, by omega, zWk⟩
            · omega
            · rw [hd, cntI_cons] at hI; simp [hc] at hI; omega
        · have hge : t.inner.length ≤ k := by have := of_decide_eq_false hc; omega
          rw [drop_nil hge] at hI; simp only [cntI] at hI
          iterate 15 refine zW ?_
          refine post_is (.tmp rfl .nil) .nil ?_
          simp [resD, sat, h1, ← hI]
theorem N_con (b : Nat) (l : List Int) (a : Nat) (n : Int) (hn : 0 < n ∧ n ≤ 4611686018427387904) : Con Tryz.prog 6 [.p b 0, .i n] [.box b 62 [.sl 1 (l.map .i), .i ((a : Nat) : Int)]] (fun d H => ∃ (r : Int) (a' : Nat), d = .i r ∧ (0 ≤ r ∧ r < n) ∧ H = [.box b 62 [.sl 1 (l.map .i), .i ((a' : Nat) : Int)]]) := by
  have hcap : capB = 140737488355328 := rfl
  have hl1 : (l.map D.i).length = l.length := by simp
  refine con_intro Tryz.func6 rfl Tryz.call6 rfl ?_
  iterate 7 refine zW ?_
  refine zDr [] ?_
  refine zT 0 ?_
  refine zT 1 ?_
  refine zT 2 ?_
  refine zT 3 ?_
  refine zT 4 ?_
  refine zT 5 ?_
  refine zT 6 ?_
  refine zT 7 ?_
  refine zT 8 ?_
  refine zT 9 ?_
  refine zW ?_
  all_goals (
    refine zW ?_
    refine zC (fun hc => ?_) fun hc => ?_
    · iterate 7 refine zW ?_
      refine post_ret (.tmp rfl .nil) zKeep ⟨_, _, rfl, ?_, rfl⟩
      omega
    · have hlt : a < l.length := by have := of_decide_eq_false hc; omega
      obtain ⟨x, hx, _⟩ := drop_cons hlt
      have hx' := getMap D.i hx
      have hn0 : n ≠ 0 := by omega
      have hm := tmod_bd x hn.1
      iterate 3 refine zW ?_
      refine zDr [] ?_
      refine zT 0 ?_
      refine zT 1 ?_
      refine zT 2 ?_
      refine zT 3 ?_
      refine zT 4 ?_
      refine zT 5 ?_
      refine zT 6 ?_
      refine zT 7 ?_
      refine zT 8 ?_
      refine zT 9 ?_
      refine zT 10 ?_
      refine zT 11 ?_
      refine zT 12 ?_
      refine zW ?_
      all_goals (
        iterate 3 refine zW ?_
        refine aops_fact (t := 19) rfl rfl (fun hlen => ?_); refine aops_p (ap_move rfl) rfl rfl rfl ?_
        iterate 16 refine zW ?_
        refine zC (fun hc => ?_) fun hc => ?_
        · have hneg := of_decide_eq_true hc
          iterate 14 refine zW ?_
          refine post_ret (.tmp rfl .nil) zKeep ⟨_, a + 1, rfl, ?_, rfl⟩
          omega
        · have hneg := of_decide_eq_false hc
          iterate 9 refine zW ?_
          refine post_ret (.tmp rfl .nil) zKeep ⟨_, a + 1, rfl, ?_, rfl⟩
          omega
        )
    )
theorem Range_con (b : Nat) (l : List Int) (a : Nat) (x y : Int) (h : x ≤ y ∧ -1000000 ≤ x ∧ y ≤ 1000000000) : Con Tryz.prog 29 [.p b 0, .i x, .i y] [.box b 62 [.sl 1 (l.map .i), .i ((a : Nat) : Int)]] (fun d H => ∃ (r : Int) (a' : Nat), d = .i r ∧ (x ≤ r ∧ r ≤ y) ∧ H = [.box b 62 [.sl 1 (l.map .i), .i ((a' : Nat) : Int)]]) := by
  have hcap : capB = 140737488355328 := rfl
  refine con_intro Tryz.func29 rfl Tryz.call29 rfl ?_
  iterate 13 refine zW ?_
  (refine aops_call zRc (N_con _ _ _ _ (by omega)) zSplit rfl rfl ?_; rintro _ _ ⟨r13, a13, rfl, hr13, rfl⟩)
  iterate 5 refine zW ?_
  refine post_ret (.tmp rfl .nil) zKeep ⟨_, _, rfl, ?_, rfl⟩
  omega
theorem Pick_con (b : Nat) (l : List Int) (a : Nat) (q : List Int) (h : q ≠ [] ∧ q.length ≤ 1000) : Con Tryz.prog 66 [.p b 0, .sl 1 (q.map .i)] [.box b 62 [.sl 1 (l.map .i), .i ((a : Nat) : Int)]] (fun d H => ∃ (r : Int) (a' : Nat), d = .i r ∧ r ∈ q ∧ H = [.box b 62 [.sl 1 (l.map .i), .i ((a' : Nat) : Int)]]) := by
  have hcap : capB = 140737488355328 := rfl
  have hl1 : (q.map D.i).length = q.length := by simp
  have hl2 : 0 < q.length := List.length_pos_iff.2 h.1
  refine con_intro Tryz.func66 rfl Tryz.call66 rfl ?_
  iterate 10 refine zW ?_
  first | refine zLn fun _ => ?_ | refine zW ?_
  (refine aops_call zRc (N_con _ _ _ _ (by omega)) zSplit rfl rfl ?_; rintro _ _ ⟨r9, a9, rfl, hr9, rfl⟩)
  obtain ⟨j, rfl⟩ := Int.eq_ofNat_of_zero_le hr9.1; obtain ⟨x, hx, _⟩ := drop_cons (l := q) (k := j) (by omega); have hx' := getMap D.i hx; refine aops_p (ap_index rfl rfl rfl rfl (by decide) rfl hx') rfl rfl rfl ?_
  iterate 5 refine zW ?_
  refine post_ret (.tmp rfl .nil) zKeep ⟨_, _, rfl, List.mem_of_getElem? hx, rfl⟩
theorem New_con (l : List Int) : Con Tryz.prog 4 [.sl 1 (l.map .i)] [] (fun d H => ∃ b, d = .p b 0 ∧ H = [.box b 62 [.sl 1 ((l.take 400).map .i), .i ((0 : Nat) : Int)]]) := by
  have hcap : capB = 140737488355328 := rfl
  have hl1 : (l.map D.i).length = l.length := by simp
  refine con_intro Tryz.func4 rfl Tryz.call4 rfl ?_
  iterate 9 refine zW ?_
  first | refine zLn fun _ => ?_ | refine zW ?_
  refine zW ?_
  refine aops_p (ap_slice_to (k := min l.length 400) rfl rfl rfl rfl (by simp only [List.length_map]; omega) (by simp only [List.length_map]; omega)) rfl rfl rfl ?_; rw [← List.map_take]
  refine zW ?_
  refine zBx fun b9 => ?_
  iterate 4 refine zW ?_
  have e : l.take 400 = l.take (min l.length 400) := by rw [Nat.min_comm]; exact List.take_eq_take_min
  rw [e]
  refine post_ret (.tmp rfl .nil) zKeep ⟨_, rfl, rfl⟩
theorem Order_con (b : Nat) (l : List Int) (a n : Nat) (hn : n ≤ 1000000) : Con Tryz.prog 102 [.p b 0, .i n] [.box b 62 [.sl 1 (l.map .i), .i ((a : Nat) : Int)]] (fun d H => ∃ (q : List Int) (a' : Nat), d = .sl 1 (q.map .i) ∧ q.Perm (upTo n) ∧ H = [.box b 62 [.sl 1 (l.map .i), .i ((a' : Nat) : Int)]]) := by
  have hcap : capB = 140737488355328 := rfl
  refine con_intro Tryz.func102 rfl Tryz.call102 rfl ?_
  iterate 17 refine zW ?_
  refine awp_loop3 [0, 1] [.box b 62 _] (fun (k : Nat) (v : Value) (q : List Int) r => (5, .v v) :: (6, .i (k : Int)) :: r) (fun k v q r => .arr v 3 1 (q.map .i) :: r) (fun k v q => k ≤ n ∧ q = upTo k) (fun k v q => n - k) (0) (.slice none 0 0) ([]) zRc ⟨by omega, rfl⟩ ((wk_own 3 1 rfl).trans (zWk)) ?_
  intro k v q ⟨hk, hq⟩
  have hql : q.length = k := by rw [hq, upTo_len]
  iterate 8 refine zW ?_
  refine zC (fun hc => ?_) fun hc => ?_
  · have hlt := of_decide_eq_true hc
    iterate 7 refine zW ?_
    refine aops_lit (e := 3) (sz := 1) (by_ := 8) rfl rfl zRc rfl rfl rfl rfl ?_
    first | refine aops_append (e := 3) (sz := 1) (by_ := 8) rfl zUpd rfl rfl rfl rfl rfl (by simp only [List.length_cons, List.length_nil, List.length_append, List.length_map, avs_len]; omega) (fun v17 hv17 => ?_) | refine aops_append_nil (e := 3) (sz := 1) (by_ := 8) rfl rfl rfl rfl rfl rfl (by simp only [List.length_cons, List.length_nil, List.length_append, List.length_map, avs_len]; omega) (fun v17 hv17 => ?_)
    iterate 10 refine zW ?_
    rw [mapi_snoc]
    refine ⟨k + 1, _, _, ⟨by omega, ?_⟩, by omega, zWk⟩
    rw [hq, upTo_succ]
  · have hge := of_decide_eq_false hc
    iterate 14 refine zW ?_
    obtain rfl : n = k := by omega
    subst hq
    refine awp_loop3 [0, 5] [] (fun (i : Int) (q : List Int) (a : Nat) r => (7, .i i) :: r) (fun i q a r => .box b 62 [.sl 1 (l.map .i), .i ((a : Nat) : Int)] :: .arr v 3 1 (q.map .i) :: r) (fun i q a => (-1 ≤ i ∧ i < n) ∧ q.Perm (upTo n)) (fun i q a => (i + 1).toNat) ((n : Int) - 1) (upTo n) (a) zRc ⟨by omega, .refl _⟩ (zWk) ?_
    intro i q a ⟨hi, hq⟩
    have hql : q.length = n := by rw [hq.length_eq, upTo_len]
    iterate 7 refine zW ?_
    refine zC (fun hc => ?_) fun hc => ?_
    · have hpos := of_decide_eq_true hc
      obtain ⟨j, rfl⟩ := Int.eq_ofNat_of_zero_le (show 0 ≤ i by omega)
      refine awp_arr_open zUpd (by intro e; have h5 := congrArg List.length e; simp only [List.length_map, List.length_nil] at h5; omega) (fun g cap hv => ?_)
      subst hv
      iterate 9 refine zW ?_
      (refine aops_call zRc (N_con _ _ _ _ (by omega)) zSplit rfl rfl ?_; rintro _ _ ⟨r27, a27, rfl, hr27, rfl⟩)
      iterate 3 refine zW ?_
      obtain ⟨j', rfl⟩ := Int.eq_ofNat_of_zero_le hr27.1
      obtain ⟨x, hx, _⟩ := drop_cons (l := q) (k := j) (by omega)
      obtain ⟨y, hy, _⟩ := drop_cons (l := q) (k := j') (by omega)
      have hx' := getMap D.i hx
      have hy' := getMap D.i hy
      refine zDr [.arr (.slice (some ⟨g, 0, none⟩) _ cap) _ _ _] ?_
      refine zT 0 ?_
      refine zT 1 ?_
      refine zT 2 ?_
      refine zT 3 ?_
      refine zT 4 ?_
      refine zT 5 ?_
      refine zT 6 ?_
      refine zT 8 ?_
      refine zT 9 ?_
      refine zT 10 ?_
      refine zE2 7 11 ?_ ?_
      rotate_left
      case' _ =>
        refine zW ?_; refine zW ?_
        refine zOn 7 ?_
        refine zW ?_; refine zW ?_
        refine zT 12 ?_
        refine zOn 13 ?_
        refine zW ?_; refine zW ?_
        refine zT 14 ?_
        refine zOn 15 ?_
        iterate 3 refine zW ?_
      rotate_right
      case' _ =>
        refine zW ?_; refine zW ?_
        refine zOn 11 ?_
        refine zW ?_; refine zW ?_
        refine zT 12 ?_
        refine zOn 13 ?_
        refine zW ?_; refine zW ?_
        refine zT 14 ?_
        refine zOn 15 ?_
        iterate 3 refine zW ?_
      all_goals (
        iterate 8 refine zW ?_
        rw [← List.map_set, ← List.map_set]
        refine ⟨(j : Int) - 1, _, _, ⟨by omega, ?_⟩, by omega, zWk⟩
        exact (swap_perm q j j' x y hx hy).trans hq
        )
    · refine zFz v [5] ?_
      iterate 12 refine zW ?_
      refine post_ret (.tmp rfl .nil) zKeep ⟨_, _, rfl, hq, rfl⟩
theorem rsize_con (m : Nat) (hm : m ≤ 1000000000) : ∀ (t : Trust), sizeT t ≤ m → Con Tryz.prog 69 [av t] [] (Is (.i (sizeT t)) []) := by
  have hcap : capB = 140737488355328 := rfl
  intro t
  induction t using Trust.ind with
  | _ t ih =>
    intro hsz
    have hl1 : (t.nodes.map D.i).length = t.nodes.length := by simp
    have hl2 := avs_len t.inner
    have hs0 : sizeT t = t.nodes.length + t.inner.length + sizeL t.inner := rfl
    refine con_intro Tryz.func69 rfl Tryz.call69 rfl ?_
    refine zW ?_; refine zW ?_
    refine zBx fun b1 => ?_
    iterate 7 refine zW ?_
    first | refine zLn fun _ => ?_ | refine zW ?_
    refine zW ?_; refine zW ?_
    first | refine zLn fun _ => ?_ | refine zW ?_
    iterate 9 refine zW ?_
    first | refine zLn fun _ => ?_ | refine zW ?_
    iterate 4 refine zW ?_
    refine awp_loop2 [14, 15] [] (fun (k : Nat) (n : Nat) r => (3, .i (n : Int)) :: (16, .i (k : Int)) :: r) (fun k n r => r) (fun k n => k ≤ t.inner.length ∧ n + sizeL (t.inner.drop k) = sizeT t) (fun k n => t.inner.length - k) (0) (t.nodes.length + t.inner.length) zRc ⟨by omega, by simp; omega⟩ (by rw [← hl1, ← hl2]; exact zWk) ?_
    intro k n ⟨hk, hI⟩
    iterate 6 refine zW ?_
    refine zC (fun hc => ?_) fun hc => ?_
    · have hlt : k < t.inner.length := by have := of_decide_eq_true hc; omega
      obtain ⟨x, hx, hd⟩ := drop_cons hlt
      have hx' := avs_get hx
      have hxm := List.mem_of_getElem? hx
      iterate 8 refine zW ?_
      refine zAl fun b5 => ?_
      iterate 6 refine zW ?_
      refine aops_call_v zRc (ih _ hxm (by have := sizeL_mem hxm; omega)) rfl rfl ?_
      (have hq := hI; rw [hd, sizeL_cons] at hq; refine aops_p (ap_arith rfl rfl rfl (by omega)) rfl rfl rfl ?_)
      iterate 9 refine zW ?_
      rw [hd, sizeL_cons] at hI
      refine ⟨k + 1, n + sizeT x, ⟨by omega, by omega⟩, by omega, zWk⟩
    · have hge : t.inner.length ≤ k := by have := of_decide_eq_false hc; omega
      rw [drop_nil hge] at hI; simp only [sizeL] at hI
      iterate 12 refine zW ?_
      refine post_is (.tmp rfl .nil) .nil ?_
      simp only [resD]; rw [← hI]; rfl
theorem size_con (m : Nat) (hm : m ≤ 1000000000) : ∀ (t : Trust), sizeT t ≤ m → Con Tryz.prog 106 [av t] [] (Is (.i (sizeT t)) []) := by
  have hcap : capB = 140737488355328 := rfl
  intro t
  induction t using Trust.ind with
  | _ t ih =>
    intro hsz
    have hl1 : (t.nodes.map D.i).length = t.nodes.length := by simp
    have hl2 := avs_len t.inner
    have hs0 : sizeT t = t.nodes.length + t.inner.length + sizeL t.inner := rfl
    refine con_intro Tryz.func106 rfl Tryz.call106 rfl ?_
    refine zW ?_; refine zW ?_
    refine zBx fun b1 => ?_
    iterate 7 refine zW ?_
    first | refine zLn fun _ => ?_ | refine zW ?_
    refine zW ?_; refine zW ?_
    first | refine zLn fun _ => ?_ | refine zW ?_
    iterate 9 refine zW ?_
    first | refine zLn fun _ => ?_ | refine zW ?_
    iterate 4 refine zW ?_
    refine awp_loop2 [14, 15] [] (fun (k : Nat) (n : Nat) r => (3, .i (n : Int)) :: (16, .i (k : Int)) :: r) (fun k n r => r) (fun k n => k ≤ t.inner.length ∧ n + sizeL (t.inner.drop k) = sizeT t) (fun k n => t.inner.length - k) (0) (t.nodes.length + t.inner.length) zRc ⟨by omega, by simp; omega⟩ (by rw [← hl1, ← hl2]; exact zWk) ?_
    intro k n ⟨hk, hI⟩
    iterate 6 refine zW ?_
    refine zC (fun hc => ?_) fun hc => ?_
    · have hlt : k < t.inner.length := by have := of_decide_eq_true hc; omega
      obtain ⟨x, hx, hd⟩ := drop_cons hlt
      have hx' := avs_get hx
      have hxm := List.mem_of_getElem? hx
      iterate 8 refine zW ?_
      refine zAl fun b5 => ?_
      iterate 6 refine zW ?_
      refine aops_call_v zRc (ih _ hxm (by have := sizeL_mem hxm; omega)) rfl rfl ?_
      (have hq := hI; rw [hd, sizeL_cons] at hq; refine aops_p (ap_arith rfl rfl rfl (by omega)) rfl rfl rfl ?_)
      iterate 9 refine zW ?_
      rw [hd, sizeL_cons] at hI
      refine ⟨k + 1, n + sizeT x, ⟨by omega, by omega⟩, by omega, zWk⟩
    · have hge : t.inner.length ≤ k := by have := of_decide_eq_false hc; omega
      rw [drop_nil hge] at hI; simp only [sizeL] at hI
      iterate 12 refine zW ?_
      refine post_is (.tmp rfl .nil) .nil ?_
      simp only [resD]; rw [← hI]; rfl
theorem rdepth_con (m : Nat) (hm : m ≤ 1000000000) : ∀ (t : Trust), sizeT t ≤ m → Con Tryz.prog 68 [av t] [] (Is (.i (depthT t)) []) := by
  have hcap : capB = 140737488355328 := rfl
  intro t
  induction t using Trust.ind with
  | _ t ih =>
    intro hsz
    have hl2 := avs_len t.inner
    have hs0 : sizeT t = t.nodes.length + t.inner.length + sizeL t.inner := rfl
    have hdd := depth_le_size t
    have hd0 : depthT t = depthL t.inner + 1 := rfl
    refine con_intro Tryz.func68 rfl Tryz.call68 rfl ?_
    refine zW ?_; refine zW ?_
    refine zBx fun b1 => ?_
    iterate 13 refine zW ?_
    first | refine zLn fun _ => ?_ | refine zW ?_
    iterate 4 refine zW ?_
    refine awp_loop2 [7, 8] [] (fun (k : Nat) (n : Nat) r => (3, .i (n : Int)) :: (9, .i (k : Int)) :: r) (fun k n r => r) (fun k n => k ≤ t.inner.length ∧ max n (depthL (t.inner.drop k)) = depthL t.inner) (fun k n => t.inner.length - k) (0) (0) zRc ⟨by omega, by simp⟩ (zWk) ?_
    intro k n ⟨hk, hI⟩
    iterate 6 refine zW ?_
    refine zC (fun hc => ?_) fun hc => ?_
    · have hlt : k < t.inner.length := by have := of_decide_eq_true hc; omega
      obtain ⟨x, hx, hd⟩ := drop_cons hlt
      have hx' := avs_get hx
      have hxm := List.mem_of_getElem? hx
      iterate 8 refine zW ?_
      refine zAl fun b5 => ?_
      iterate 6 refine zW ?_
      refine aops_call_v zRc (ih _ hxm (by have := sizeL_mem hxm; omega)) rfl rfl ?_
      iterate 10 refine zW ?_
      rw [hd, depthL_cons] at hI
      have hmx : max (n : Int) (depthT x) = ((max n (depthT x) : Nat) : Int) := by omega
      rw [hmx]
      refine ⟨k + 1, max n (depthT x), ⟨by omega, by omega⟩, by omega, zWk⟩
    · have hge : t.inner.length ≤ k := by have := of_decide_eq_false hc; omega
      rw [drop_nil hge] at hI; simp only [depthL] at hI
      iterate 13 refine zW ?_
      refine post_is (.tmp rfl .nil) .nil ?_
      simp only [resD]; rw [hd0, ← hI]; simp
theorem depth_con (m : Nat) (hm : m ≤ 1000000000) : ∀ (t : Trust), sizeT t ≤ m → Con Tryz.prog 105 [av t] [] (Is (.i (depthT t)) []) := by
  have hcap : capB = 140737488355328 := rfl
  intro t
  induction t using Trust.ind with
  | _ t ih =>
    intro hsz
    have hl2 := avs_len t.inner
    have hs0 : sizeT t = t.nodes.length + t.inner.length + sizeL t.inner := rfl
    have hdd := depth_le_size t
    have hd0 : depthT t = depthL t.inner + 1 := rfl
    refine con_intro Tryz.func105 rfl Tryz.call105 rfl ?_
    refine zW ?_; refine zW ?_
    refine zBx fun b1 => ?_
    iterate 13 refine zW ?_
    first | refine zLn fun _ => ?_ | refine zW ?_
    iterate 4 refine zW ?_
    refine awp_loop2 [7, 8] [] (fun (k : Nat) (n : Nat) r => (3, .i (n : Int)) :: (9, .i (k : Int)) :: r) (fun k n r => r) (fun k n => k ≤ t.inner.length ∧ max n (depthL (t.inner.drop k)) = depthL t.inner) (fun k n => t.inner.length - k) (0) (0) zRc ⟨by omega, by simp⟩ (zWk) ?_
    intro k n ⟨hk, hI⟩
    iterate 6 refine zW ?_
    refine zC (fun hc => ?_) fun hc => ?_
    · have hlt : k < t.inner.length := by have := of_decide_eq_true hc; omega
      obtain ⟨x, hx, hd⟩ := drop_cons hlt
      have hx' := avs_get hx
      have hxm := List.mem_of_getElem? hx
      iterate 8 refine zW ?_
      refine zAl fun b5 => ?_
      iterate 6 refine zW ?_
      refine aops_call_v zRc (ih _ hxm (by have := sizeL_mem hxm; omega)) rfl rfl ?_
      iterate 10 refine zW ?_
      rw [hd, depthL_cons] at hI
      have hmx : max (n : Int) (depthT x) = ((max n (depthT x) : Nat) : Int) := by omega
      rw [hmx]
      refine ⟨k + 1, max n (depthT x), ⟨by omega, by omega⟩, by omega, zWk⟩
    · have hge : t.inner.length ≤ k := by have := of_decide_eq_false hc; omega
      rw [drop_nil hge] at hI; simp only [depthL] at hI
      iterate 13 refine zW ?_
      refine post_is (.tmp rfl .nil) .nil ?_
      simp only [resD]; rw [hd0, ← hI]; simp
theorem badN_f {x : Int} (h1 : decide (x < 0) = false) (h2 : decide (10 ≤ x) = false) : ∃ q : Nat, x = q ∧ q < 10 := by
  have h3 := of_decide_eq_false h1
  have h4 := of_decide_eq_false h2
  obtain ⟨q, rfl⟩ := Int.eq_ofNat_of_zero_le (show 0 ≤ x by omega)
  exact ⟨q, rfl, by omega⟩
theorem or_lt10 {s q : Nat} (h : s < 1024) (hq : q < 10) : s ||| 1 * 2 ^ q < 1024 := by
  rw [Nat.one_mul]
  exact Nat.or_lt_two_pow (n := 10) h (Nat.pow_lt_pow_right (by omega) hq)
end Go.Proofs.YtmolbagfkdbdnaaGreatDoor
