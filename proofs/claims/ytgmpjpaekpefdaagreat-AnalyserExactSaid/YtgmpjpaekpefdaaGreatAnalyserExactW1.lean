/- The walks of: below_con, valid_con, has_con, rvalid_con, rhas_con, sat_con, rsat_con, rsize_con, size_con, rdepth_con, depth_con, rof_con, rcheck_con, rvalidT_con, node_con, uses_con, ruses_con, Nodes_con, content_con, decl_con, unh_con, elimin_con, great_con, inside_con. Each says what one function of the program answers, for the arguments that its statement names. No condition beyond what each theorem says. -/
import Derived.Test.YtgmpjpaekpefdaaGreatTq
import Derived.Test.YtgmpjpaekpefdaaGreatProg
import Derived.KernelRfl
import Derived.Tactics
import Derived.Tactics2
import Derived.StillTactics
set_option linter.unusedVariables false
set_option linter.unusedSimpArgs false
set_option linter.unnecessarySimpa false
set_option maxRecDepth 4000
namespace Go.Proofs.YtgmpjpaekpefdaaGreat
open Go Go.Av Go.Tq
theorem zDec {p : Prop} (h : p := by first | with_reducible assumption | with_reducible exact rfl | decide | (refine decide_eq_true ?_; omega) | (refine decide_eq_false ?_; omega)) : p := h
theorem zUpd {p : Prop} (h : p := by repeat (first | exact .here | apply UpdF.there)) : p := h
theorem zScal {p : Prop} (h : p := by first | exact .sl | exact .v rfl | exact .v (by assumption)) : p := h
theorem zFlat {p : Prop} (h : p := by first | exact .agg | exact .sl | exact .v rfl | exact .v (by assumption)) : p := h
theorem zRc {p : Prop} (h : p := by repeat constructor) : p := h
theorem zSplit {p : Prop} (h : p := by repeat (first | exact .nil | exact Split.none _ | apply Split.left | apply Split.right)) : p := h
theorem zAss {p : Prop} (h : p := by first | with_reducible assumption | assumption | rfl) : p := h
theorem zSub {p : Prop} (h : p := by repeat (first | exact .nil | refine .cons rfl ?_)) : p := h
theorem zKr {p : Prop} (h : p := by kernel_rfl) : p := h
theorem zKeep {p : Prop} (h : p := by repeat (first | exact .nil | refine .cons (by first | exact .here | exact .there .here | exact .there (.there .here) | exact .there (.there (.there .here)) | exact .there (.there (.there (.there .here)))) ?_)) : p := h
theorem zSelC {p : Prop} (h : p := by repeat (first | exact .nil | apply SelC.cons rfl (by first | exact Cv.fz | (apply Cv.agg; repeat (first | exact CvL.nil | apply CvL.cons (by first | exact Cv.fz | exact Cv.same))) | exact Cv.same))) : p := h
theorem zHeapA {p : Prop} (h : p := by repeat (first | exact .nil | apply HeapA.box (by repeat (first | exact CvL.nil | apply CvL.cons (by first | exact Cv.fz | exact Cv.same))) | apply HeapA.arr)) : p := h
theorem zHeapS {p : Prop} (h : p := by repeat (first | exact .nil | apply HeapA.box (by repeat (first | exact CvL.nil | apply CvL.cons Cv.same)) | apply HeapA.arr)) : p := h
theorem zRem {p : Prop} (h : p := by repeat (first | exact .here | apply Rem.there)) : p := h
theorem zFill {p : Prop} (h : p := by repeat (first | exact .nil | apply FillL.cons rfl zFlat rfl zRc)) : p := h
theorem zLen {p : Prop} (h : p := by simp only [List.length_cons, List.length_nil, List.length_append, List.length_map, avs_len]; omega) : p := h
theorem zSelS {p : Prop} (h : p := by repeat (first | exact SelC.nil | apply SelC.cons rfl Cv.same)) : p := h
theorem zHeapB {p : Prop} (h : p := by repeat (first | exact HeapA.nil | apply HeapA.box (by repeat (first | exact CvL.nil | apply CvL.cons Cv.same)) | apply HeapA.arr)) : p := h
theorem zP {κ : Kind} {P : Program} {n : Nat} {ops : Array Oper} {o : Oper} {rest : List Oper} {env : Env} {H : Heap} {d : D} {t : Tmp} {K : Env → Heap → Prop} (h : AP P n o env H d) (hk : AOps κ P n ops rest ((t, d) :: env) H K) (hg : o.guard = none := by exact rfl) (hd : o.dst = some t := by exact rfl) (ht : Nat.blt t n = true := by exact rfl) : AOps κ P n ops (o :: rest) env H K := aops_p h hg hd ht hk
theorem zMv {κ : Kind} {P : Program} {n : Nat} {ops : Array Oper} {o : Oper} {rest : List Oper} {env : Env} {H : Heap} {d : D} {t : Tmp} {K : Env → Heap → Prop} (hk : AOps κ P n ops rest ((t, d) :: env) H K) (h : AP P n o env H d := by exact ap_move rfl) (hg : o.guard = none := by exact rfl) (hd : o.dst = some t := by exact rfl) (ht : Nat.blt t n = true := by exact rfl) : AOps κ P n ops (o :: rest) env H K := aops_p h hg hd ht hk
theorem zAs {κ : Kind} {P : Program} {n : Nat} {ops : Array Oper} {o : Oper} {rest : List Oper} {env : Env} {H : Heap} {d : D} {t : Tmp} {K : Env → Heap → Prop} (hk : AOps κ P n ops rest ((t, d) :: env) H K) (h : AP P n o env H d := by exact ap_assign rfl) (hg : o.guard = none := by exact rfl) (hd : o.dst = some t := by exact rfl) (ht : Nat.blt t n = true := by exact rfl) : AOps κ P n ops (o :: rest) env H K := aops_p h hg hd ht hk
theorem zCm {κ : Kind} {P : Program} {n : Nat} {ops : Array Oper} {o : Oper} {rest : List Oper} {env : Env} {H : Heap} {d : D} {t : Tmp} {K : Env → Heap → Prop} (hk : AOps κ P n ops rest ((t, d) :: env) H K) (h : AP P n o env H d := by exact ap_cmp rfl rfl rfl) (hg : o.guard = none := by exact rfl) (hd : o.dst = some t := by exact rfl) (ht : Nat.blt t n = true := by exact rfl) : AOps κ P n ops (o :: rest) env H K := aops_p h hg hd ht hk
theorem zNo {κ : Kind} {P : Program} {n : Nat} {ops : Array Oper} {o : Oper} {rest : List Oper} {env : Env} {H : Heap} {d : D} {t : Tmp} {K : Env → Heap → Prop} (hk : AOps κ P n ops rest ((t, d) :: env) H K) (h : AP P n o env H d := by exact ap_not rfl) (hg : o.guard = none := by exact rfl) (hd : o.dst = some t := by exact rfl) (ht : Nat.blt t n = true := by exact rfl) : AOps κ P n ops (o :: rest) env H K := aops_p h hg hd ht hk
theorem zAr {κ : Kind} {P : Program} {n : Nat} {ops : Array Oper} {o : Oper} {rest : List Oper} {env : Env} {H : Heap} {d : D} {t : Tmp} {K : Env → Heap → Prop} (hk : AOps κ P n ops rest ((t, d) :: env) H K) (h : AP P n o env H d := by exact ap_arith rfl rfl rfl (by omega)) (hg : o.guard = none := by exact rfl) (hd : o.dst = some t := by exact rfl) (ht : Nat.blt t n = true := by exact rfl) : AOps κ P n ops (o :: rest) env H K := aops_p h hg hd ht hk
theorem zPk {κ : Kind} {P : Program} {n : Nat} {ops : Array Oper} {o : Oper} {rest : List Oper} {env : Env} {H : Heap} {d : D} {t : Tmp} {K : Env → Heap → Prop} (hk : AOps κ P n ops rest ((t, d) :: env) H K) (h : AP P n o env H d := by first | exact ap_pick_true rfl zDec rfl | exact ap_pick_false rfl zDec rfl) (hg : o.guard = none := by exact rfl) (hd : o.dst = some t := by exact rfl) (ht : Nat.blt t n = true := by exact rfl) : AOps κ P n ops (o :: rest) env H K := aops_p h hg hd ht hk
theorem zLd {κ : Kind} {P : Program} {n : Nat} {ops : Array Oper} {o : Oper} {rest : List Oper} {env : Env} {H : Heap} {d : D} {t : Tmp} {K : Env → Heap → Prop} (hk : AOps κ P n ops rest ((t, d) :: env) H K) (h : AQ P n [] o env H d := by first | exact aq_load rfl zUpd List.not_mem_nil rfl rfl zRc | exact aq_load_el rfl rfl rfl rfl (fun _ h => absurd h List.not_mem_nil)) (hg : o.guard = none := by exact rfl) (hd : o.dst = some t := by exact rfl) (ht : Nat.blt t n = true := by exact rfl) : AOps κ P n ops (o :: rest) env H K := aops_q h hg hd ht hk
theorem zL1 {κ : Kind} {P : Program} {n : Nat} {ops : Array Oper} {o : Oper} {rest : List Oper} {env : Env} {H : Heap} {d : D} {t : Tmp} {K : Env → Heap → Prop} (hk : AOps κ P n ops rest ((t, d) :: env) H K) (h : AQ P n [] o env H d := by first | exact aq_load1 rfl zUpd List.not_mem_nil rfl zRc | exact aq_load_el1 rfl rfl zScal (fun _ h => absurd h List.not_mem_nil) | exact aq_load_el1' rfl rfl zScal (fun _ h => absurd h List.not_mem_nil) | exact aq_load_own1 rfl zUpd List.not_mem_nil rfl zAss zScal) (hg : o.guard = none := by exact rfl) (hd : o.dst = some t := by exact rfl) (ht : Nat.blt t n = true := by exact rfl) : AOps κ P n ops (o :: rest) env H K := aops_q h hg hd ht hk
/-- A field's address, its place and width given. -/
def FAt (off sz : Nat) (g : Bool) (P : Program) (n : Nat) (o : Oper) (env : Env) (H : Heap) (d : D) : Prop := AP P n o env H d
theorem fat1 {P : Program} {n : Nat} {dst : Option Tmp} {ty : TypeId} {pos : String} {after : Array Edge} {gd : Option (Nat × Bool)} {x : Operand} {env : Env} {H : Heap} {s f b o off sz g} (hx : opd env x = some (.p b o)) (hf : tfield P s f = some (off, sz, g)) : FAt off sz g P n ⟨dst, .fieldAddr s x f, ty, pos, after, gd⟩ env H (.p b (o + off)) := ap_fieldAddr hx hf
theorem fat2 {P : Program} {n : Nat} {dst : Option Tmp} {ty : TypeId} {pos : String} {after : Array Edge} {gd : Option (Nat × Bool)} {x : Operand} {env : Env} {H : Heap} {s f l off sz g r} (hx : opd env x = some (.el (.agg l))) (hf : tfield P s f = some (off, sz, g)) (hs : SubL l off sz r) : FAt off sz g P n ⟨dst, .fieldAddr s x f, ty, pos, after, gd⟩ env H (.el (.agg r)) := ap_fieldAddr_el hx hf hs
theorem zF {κ : Kind} {P : Program} {n : Nat} {ops : Array Oper} {o : Oper} {rest : List Oper} {env : Env} {H : Heap} {d : D} {t : Tmp} {K : Env → Heap → Prop} (off sz : Nat) (g : Bool) (hk : AOps κ P n ops rest ((t, d) :: env) H K) (h : FAt off sz g P n o env H d := by first | exact fat1 rfl rfl | exact fat2 rfl rfl zRc) (hg : o.guard = none := by exact rfl) (hd : o.dst = some t := by exact rfl) (ht : Nat.blt t n = true := by exact rfl) : AOps κ P n ops (o :: rest) env H K := aops_p h hg hd ht hk
/-- What a store makes of the heap. -/
def Stored (κ : Kind) (P : Program) (n : Nat) (o : Oper) (env : Env) (H H' : Heap) : Prop := ∀ (ops : Array Oper) (rest : List Oper) (K : Env → Heap → Prop), AOps κ P n ops rest env H' K → AOps κ P n ops (o :: rest) env H K
theorem sto1 {κ : Kind} {P : Program} {n : Nat} {ty : TypeId} {pos : String} {after : Array Edge} {x y : Operand} {env : Env} {H : Heap} {t b off d ds bty cs cs' f} (hx : opd env x = some (.p b off)) (hy : opd env y = some d) (hfl : Flat d ds) (hk : UpdF H (.box b bty cs) f) (hs : tsize P t = some ds.length) (hsp : Spl cs off ds cs') : Stored κ P n ⟨none, .store t x y, ty, pos, after, none⟩ env H (f (.box b bty cs')) := fun _ _ _ h => aops_store hx hy hfl hk hs hsp h
theorem sto2 {κ : Kind} {P : Program} {n : Nat} {ty : TypeId} {pos : String} {after : Array Edge} {x y : Operand} {env : Env} {H : Heap} {t g k len cap ety l d f} (hx : opd env x = some (.p g (k * 1))) (hy : opd env y = some d) (hsc : Scal d) (hk : UpdF H (.arr (.slice (some ⟨g, 0, none⟩) len cap) ety 1 l) f) (hs : tsize P t = some 1) (hkl : k < l.length) : Stored κ P n ⟨none, .store t x y, ty, pos, after, none⟩ env H (f (.arr (.slice (some ⟨g, 0, none⟩) len cap) ety 1 (l.set k d))) := fun _ _ _ h => aops_store_own1 hx hy hsc hk hs hkl h
theorem zSt {κ : Kind} {P : Program} {n : Nat} {ops : Array Oper} {o : Oper} {rest : List Oper} {env : Env} {H H' : Heap} {K : Env → Heap → Prop} (hk : AOps κ P n ops rest env H' K) (h : Stored κ P n o env H H' := by first | exact sto1 rfl rfl zFlat zUpd rfl zRc | exact sto2 rfl rfl zScal zUpd rfl (by simp only [List.length_set, List.length_map]; omega)) : AOps κ P n ops (o :: rest) env H K := h _ _ _ hk
theorem zY {κ : Kind} {P : Program} {n : Nat} {ops : Array Oper} {rest : List Oper} {env : Env} {H : Heap} {K : Env → Heap → Prop} {op : Op} {dst : Option Tmp} {ty : TypeId} {pos : String} {after : Array Edge} {j : Nat} {want b : Bool} {t : Tmp} (h : AOps κ P n ops (⟨dst, op, ty, pos, after, none⟩ :: rest) env H K) (hd : dst = some t := by exact rfl) (hl : Go.Av.look env t = none := by exact rfl) (ht : Nat.blt t n = true := by exact rfl) (hj : ((ops[j]?).bind (·.dst)).bind (Go.Av.look env) = some (D.b b) := by exact rfl) (hb : b = want := by exact zDec) : AOps κ P n ops (⟨dst, op, ty, pos, after, some (j, want)⟩ :: rest) env H K := aops_yes hd hl ht hj hb h
theorem zU {κ : Kind} {P : Program} {n : Nat} {ops : Array Oper} {rest : List Oper} {env : Env} {H : Heap} {K : Env → Heap → Prop} {op : Op} {dst : Option Tmp} {ty : TypeId} {pos : String} {after : Array Edge} {j : Nat} {want : Bool} {t : Tmp} (h : AOps κ P n ops rest ((t, .v undef) :: env) H K) (hd : dst = some t := by exact rfl) (ht : Nat.blt t n = true := by exact rfl) (hj : ((ops[j]?).bind (·.dst)).bind (Go.Av.look env) = some (.v undef) := by exact rfl) : AOps κ P n ops (⟨dst, op, ty, pos, after, some (j, want)⟩ :: rest) env H K := aops_no_u hd ht hj h
theorem zNt {κ : Kind} {P : Program} {n : Nat} {ops : Array Oper} {rest : List Oper} {env : Env} {H : Heap} {K : Env → Heap → Prop} {op : Op} {dst : Option Tmp} {ty : TypeId} {pos : String} {after : Array Edge} {j : Nat} {b : Bool} {t : Tmp} (h : AOps κ P n ops rest ((t, .v undef) :: env) H K) (hd : dst = some t := by exact rfl) (hl : Go.Av.look env t = none := by exact rfl) (ht : Nat.blt t n = true := by exact rfl) (hj : ((ops[j]?).bind (·.dst)).bind (Go.Av.look env) = some (D.b b) := by exact rfl) (hb : b = false := by exact zDec) : AOps κ P n ops (⟨dst, op, ty, pos, after, some (j, true)⟩ :: rest) env H K := aops_no_t hd hl ht hj hb h
theorem zNf {κ : Kind} {P : Program} {n : Nat} {ops : Array Oper} {rest : List Oper} {env : Env} {H : Heap} {K : Env → Heap → Prop} {op : Op} {dst : Option Tmp} {ty : TypeId} {pos : String} {after : Array Edge} {j : Nat} {b : Bool} {t : Tmp} (h : AOps κ P n ops rest ((t, .v undef) :: env) H K) (hd : dst = some t := by exact rfl) (hl : Go.Av.look env t = none := by exact rfl) (ht : Nat.blt t n = true := by exact rfl) (hj : ((ops[j]?).bind (·.dst)).bind (Go.Av.look env) = some (D.b b) := by exact rfl) (hb : b = true := by exact zDec) : AOps κ P n ops (⟨dst, op, ty, pos, after, some (j, false)⟩ :: rest) env H K := aops_no_f hd hl ht hj hb h
theorem zGt {κ : Kind} {P : Program} {n : Nat} {ops : Array Oper} {rest : List Oper} {env : Env} {H : Heap} {K : Env → Heap → Prop} {op : Op} {dst : Option Tmp} {ty : TypeId} {pos : String} {after : Array Edge} {j : Nat} {b : Bool} {t : Tmp} (h : b = true → AOps κ P n ops (⟨dst, op, ty, pos, after, none⟩ :: rest) env H K) (h' : b = false → AOps κ P n ops rest ((t, .v undef) :: env) H K) (hd : dst = some t := by exact rfl) (hl : Go.Av.look env t = none := by exact rfl) (ht : Nat.blt t n = true := by exact rfl) (hj : ((ops[j]?).bind (·.dst)).bind (Go.Av.look env) = some (D.b b) := by exact rfl) : AOps κ P n ops (⟨dst, op, ty, pos, after, some (j, true)⟩ :: rest) env H K := aops_guard_t hd hl ht hj h h'
theorem zGf {κ : Kind} {P : Program} {n : Nat} {ops : Array Oper} {rest : List Oper} {env : Env} {H : Heap} {K : Env → Heap → Prop} {op : Op} {dst : Option Tmp} {ty : TypeId} {pos : String} {after : Array Edge} {j : Nat} {b : Bool} {t : Tmp} (h : b = false → AOps κ P n ops (⟨dst, op, ty, pos, after, none⟩ :: rest) env H K) (h' : b = true → AOps κ P n ops rest ((t, .v undef) :: env) H K) (hd : dst = some t := by exact rfl) (hl : Go.Av.look env t = none := by exact rfl) (ht : Nat.blt t n = true := by exact rfl) (hj : ((ops[j]?).bind (·.dst)).bind (Go.Av.look env) = some (D.b b) := by exact rfl) : AOps κ P n ops (⟨dst, op, ty, pos, after, some (j, false)⟩ :: rest) env H K := aops_guard_f hd hl ht hj h h'
theorem zN {κ : Kind} {P : Program} {n : Nat} {ops : Array Oper} {env : Env} {H : Heap} {N : Env → Heap → Prop} {Q : Exit → Env → Heap → Prop} (h : N env H) : AOps κ P n ops [] env H (fun e h => seqQ N Q .normal e h) := aops_nil (seqQ_n h)
theorem zS {κ : Kind} {P : Program} {n : Nat} {env : Env} {H : Heap} {Q : Exit → Env → Heap → Prop} {id : Nat} {l : List Oper} {c' : Code} (h : AOps κ P n l.toArray l env H (fun e h => seqQ (fun env' H' => AWp κ P n c' env' H' Q) Q .normal e h)) : AWp κ P n (.seq (.region id l.toArray false) c') env H Q := awp_seq (awp_region h)
theorem zC {κ : Kind} {P : Program} {n : Nat} {env : Env} {H : Heap} {Q : Exit → Env → Heap → Prop} {c : Operand} {t : Bool} {c1 c2 : Code} (ht : t = true → AWp κ P n c1 env H Q) (hf : t = false → AWp κ P n c2 env H Q) (hc : opd env c = some (.b t) := by exact rfl) : AWp κ P n (.cond c c1 c2) env H Q := awp_cond hc ht hf
theorem zT {κ : Kind} {P : Program} {n : Nat} {Hr : Heap} {ops : Array Oper} {env : Env} {H : Heap} {K : Env → Heap → Prop} {fuel : Nat} {listed : Array Bool} {d : D} {t : Tmp} {o : Oper} (i : Nat) (ho : ops[i]? = some o) (h : AR P n Hr o env H d) (hk : AAny κ P n Hr ops fuel (listed.setIfInBounds i true) ((t, d) :: env) H K) (hgd : Gd ops env o true := by first | exact .none rfl | exact .yes rfl rfl zDec) (hs : Region.noSelect ops = true := by exact zKr) (hf : Region.free .any ops listed i = true := by exact zKr) (hr : (Region.ready .any ops listed).contains i = true := by exact zKr) (hd : o.dst = some t := by exact rfl) (ht : Nat.blt t n = true := by exact rfl) : AAny κ P n Hr ops (fuel + 1) listed env H K := aany_take i ho hgd hs hf hr h hd ht hk
theorem zTL {κ : Kind} {P : Program} {n : Nat} {Hr : Heap} {ops : Array Oper} {env : Env} {H : Heap} {K : Env → Heap → Prop} {fuel : Nat} {listed : Array Bool} {d : D} {t : Tmp} {o : Oper} (i : Nat) (hk : AAny κ P n Hr ops fuel (listed.setIfInBounds i true) ((t, d) :: env) H K) (ho : ops[i]? = some o := by exact rfl) (hgd : Gd ops env o true := by first | exact .none rfl | exact .yes rfl rfl zDec) (h : AR P n Hr o env H d := by first | exact ar_load1 rfl zUpd rfl zRc | exact AQ.ar (aq_load_el1 rfl rfl zScal (fun _ h => h)) | exact AQ.ar (aq_load_el1' rfl rfl zScal (fun _ h => h)) | exact ar_load_own1 rfl zUpd rfl zAss zScal) (hs : Region.noSelect ops = true := by exact zKr) (hf : Region.free .any ops listed i = true := by exact zKr) (hr : (Region.ready .any ops listed).contains i = true := by exact zKr) (hd : o.dst = some t := by exact rfl) (ht : Nat.blt t n = true := by exact rfl) : AAny κ P n Hr ops (fuel + 1) listed env H K := aany_take i ho hgd hs hf hr h hd ht hk
theorem zTM {κ : Kind} {P : Program} {n : Nat} {Hr : Heap} {ops : Array Oper} {env : Env} {H : Heap} {K : Env → Heap → Prop} {fuel : Nat} {listed : Array Bool} {d : D} {t : Tmp} {o : Oper} (i : Nat) (hk : AAny κ P n Hr ops fuel (listed.setIfInBounds i true) ((t, d) :: env) H K) (ho : ops[i]? = some o := by exact rfl) (hgd : Gd ops env o true := by first | exact .none rfl | exact .yes rfl rfl zDec) (h : AR P n Hr o env H d := by first | exact ar_load rfl zUpd rfl rfl zRc | exact AQ.ar (aq_load_el rfl rfl rfl rfl (fun _ h => h))) (hs : Region.noSelect ops = true := by exact zKr) (hf : Region.free .any ops listed i = true := by exact zKr) (hr : (Region.ready .any ops listed).contains i = true := by exact zKr) (hd : o.dst = some t := by exact rfl) (ht : Nat.blt t n = true := by exact rfl) : AAny κ P n Hr ops (fuel + 1) listed env H K := aany_take i ho hgd hs hf hr h hd ht hk
theorem zTF {κ : Kind} {P : Program} {n : Nat} {Hr : Heap} {ops : Array Oper} {env : Env} {H : Heap} {K : Env → Heap → Prop} {fuel : Nat} {listed : Array Bool} {d : D} {t : Tmp} {o : Oper} (i off sz : Nat) (g : Bool) (hk : AAny κ P n Hr ops fuel (listed.setIfInBounds i true) ((t, d) :: env) H K) (ho : ops[i]? = some o := by exact rfl) (hgd : Gd ops env o true := by first | exact .none rfl | exact .yes rfl rfl zDec) (h : FAt off sz g P n o env H d := by first | exact fat1 rfl rfl | exact fat2 rfl rfl zRc) (hs : Region.noSelect ops = true := by exact zKr) (hf : Region.free .any ops listed i = true := by exact zKr) (hr : (Region.ready .any ops listed).contains i = true := by exact zKr) (hd : o.dst = some t := by exact rfl) (ht : Nat.blt t n = true := by exact rfl) : AAny κ P n Hr ops (fuel + 1) listed env H K := aany_take i ho hgd hs hf hr (AP.ar h) hd ht hk
theorem zTp {κ : Kind} {P : Program} {n : Nat} {Hr : Heap} {ops : Array Oper} {env : Env} {H : Heap} {K : Env → Heap → Prop} {fuel : Nat} {listed : Array Bool} {d : D} {t : Tmp} {o : Oper} (i : Nat) (hk : AAny κ P n Hr ops fuel (listed.setIfInBounds i true) ((t, d) :: env) H K) (ho : ops[i]? = some o := by exact rfl) (hgd : Gd ops env o true := by first | exact .none rfl | exact .yes rfl rfl zDec) (h : AP P n o env H d := by first | exact ap_pick_true rfl zDec rfl | exact ap_pick_false rfl zDec rfl) (hs : Region.noSelect ops = true := by exact zKr) (hf : Region.free .any ops listed i = true := by exact zKr) (hr : (Region.ready .any ops listed).contains i = true := by exact zKr) (hd : o.dst = some t := by exact rfl) (ht : Nat.blt t n = true := by exact rfl) : AAny κ P n Hr ops (fuel + 1) listed env H K := aany_take i ho hgd hs hf hr (AP.ar h) hd ht hk
theorem zK {κ : Kind} {P : Program} {n : Nat} {Hr : Heap} {ops : Array Oper} {env : Env} {H : Heap} {K : Env → Heap → Prop} {fuel : Nat} {listed : Array Bool} {t : Tmp} {o : Oper} (i : Nat) (hk : AAny κ P n Hr ops fuel (listed.setIfInBounds i true) env H K) (ho : ops[i]? = some o := by exact rfl) (hgd : Gd ops env o false := by first | exact .nou rfl rfl | exact .no rfl rfl (by first | (show _ = true; with_reducible assumption) | (show _ = false; with_reducible assumption) | exact zDec)) (hs : Region.noSelect ops = true := by exact zKr) (hf : Region.free .any ops listed i = true := by exact zKr) (hr : (Region.ready .any ops listed).contains i = true := by exact zKr) (hd : o.dst = some t := by exact rfl) (hl : Go.Av.look env t = none := by exact rfl) : AAny κ P n Hr ops (fuel + 1) listed env H K := aany_skip i ho hgd hs hf hr hd hl hk
theorem shl1 (k : Nat) (hk : k ≤ 62) : 2 ^ k < 9223372036854775808 := Nat.lt_of_le_of_lt (Nat.pow_le_pow_right (by omega) hk) (by omega)
theorem pow_lt10 {k : Nat} (hk : k < 10) : 2 ^ k < 1024 := by
  have : k = 0 ∨ k = 1 ∨ k = 2 ∨ k = 3 ∨ k = 4 ∨ k = 5 ∨ k = 6 ∨ k = 7 ∨ k = 8 ∨ k = 9 := by omega
  rcases this with h | h | h | h | h | h | h | h | h | h <;> subst h <;> decide
theorem valid_nat {s : Int} (h : valid s = true) : ∃ m : Nat, s = m ∧ m < 1024 := by
  have h5 : 0 ≤ s ∧ s < 1024 := by simpa [valid] using h
  obtain ⟨m, rfl⟩ := Int.eq_ofNat_of_zero_le h5.1
  exact ⟨m, rfl, by omega⟩
theorem has_bit {m q : Nat} (h1 : valid (m : Int) = true) (h3 : q < 10) : (!decide (((m &&& 1 * 2 ^ q : Nat) : Int) = 0)) = has m q := by
  have h2 : (0 : Int) ≤ (q : Int) := by omega
  have h4 : (q : Int) < 10 := by omega
  have e := and_pow_ne m q
  rw [Nat.one_mul]
  unfold has
  rw [h1, decide_eq_true h2, decide_eq_true h4]
  simp only [Bool.true_and, Int.toNat_natCast]
  cases hb : m.testBit q with
  | true =>
    have := e.2 hb
    simp; omega
  | false =>
    have : m &&& 2 ^ q = 0 := by
      rcases Nat.eq_zero_or_pos (m &&& 2 ^ q) with h | h
      · exact h
      · have := e.1 (by omega); rw [hb] at this; cases this
    simp [this]
theorem has_bit' {m q : Nat} (h1 : valid (m : Int) = true) (h3 : q < 10) : decide (((m / 2 ^ q &&& 1 : Nat) : Int) = 1) = has m q := by
  have h2 : (0 : Int) ≤ (q : Int) := by omega
  have h4 : (q : Int) < 10 := by omega
  unfold has
  rw [h1, decide_eq_true h2, decide_eq_true h4]
  simp only [Bool.true_and, Int.toNat_natCast, Nat.testBit, Nat.shiftRight_eq_div_pow, Nat.and_comm 1]
  rcases Nat.mod_two_eq_zero_or_one (m / 2 ^ q) with h | h <;> simp [Nat.and_one_is_mod, h]
theorem below_con (s : Int) (k : Nat) (hk : k ≤ 62) : Con none Tryz.prog 161 [.i s, .i k] [] (Is (.b (decide (0 ≤ s) && decide (s < 2 ^ k))) []) := by
  have hcap : capB = 140737488355328 := rfl
  have h2 := shl1 k hk
  refine con_intro Tryz.func161 rfl Tryz.call161 rfl ?_
  refine zS ?_; refine zAs ?_; refine zN (zS ?_); refine zMv ?_; refine zCm ?_; refine zMv ?_
  all_goals first | (refine zY ?_; refine zMv ?_) | refine zU ?_ | refine zNt ?_ | (refine zGt (fun hg => ?_) fun hg => ?_; case' _ => refine zMv ?_)
  all_goals first | (refine zY ?_; refine zMv ?_) | refine zU ?_ | refine zNt ?_ | (refine zGt (fun hg => ?_) fun hg => ?_; case' _ => refine zMv ?_)
  all_goals first | (refine zY ?_; refine zP (ap_shl (p := 1) rfl rfl rfl (by omega) (by omega)) ?_) | refine zU ?_ | refine zNt ?_ | (refine zGt (fun hg => ?_) fun hg => ?_; case' _ => refine zP (ap_shl (p := 1) rfl rfl rfl (by omega) (by omega)) ?_)
  all_goals first | (refine zY ?_; refine zCm ?_) | refine zU ?_ | refine zNt ?_ | (refine zGt (fun hg => ?_) fun hg => ?_; case' _ => refine zCm ?_)
  all_goals refine zPk ?_
  all_goals refine zAs ?_
  all_goals (
    refine zN ?_; refine awp_ret ?_
    refine post_is (.tmp rfl .nil) .nil ?_
    first | (simp_all [resD]; done) | (simp_all [resD]; omega)
    )
theorem valid_con (s : Int) : Con none Tryz.prog 128 [.i s] [] (Is (.b (valid s)) []) := by
  have hcap : capB = 140737488355328 := rfl
  refine con_intro Tryz.func128 rfl Tryz.call128 rfl ?_
  refine zS ?_; refine zAs ?_; refine zN (zS ?_); refine zMv ?_
  refine aops_call_v zRc (below_con _ 10 (by omega)) rfl rfl ?_
  refine zAs ?_; refine zN ?_; refine awp_ret ?_
  refine post_is (.tmp rfl .nil) .nil ?_
  simp [resD, valid]
theorem has_con (s k : Int) : Con none Tryz.prog 118 [.i s, .i k] [] (Is (.b (has s k)) []) := by
  have hcap : capB = 140737488355328 := rfl
  by_cases h1 : valid s = true
  · by_cases h2 : 0 ≤ k
    · by_cases h3 : k < 10
      · obtain ⟨q, rfl⟩ := Int.eq_ofNat_of_zero_le h2
        obtain ⟨m, rfl, hm⟩ := valid_nat h1
        have hq := pow_lt10 (k := q) (by omega)
        have hdiv : m / 2 ^ q ≤ m := Nat.div_le_self _ _
        refine con_intro Tryz.func118 rfl Tryz.call118 rfl ?_
        refine zS ?_; refine zAs ?_; refine zN (zS ?_); refine zMv ?_
        refine aops_call_v zRc (valid_con _) rfl rfl ?_
        refine zMv ?_
        all_goals first | (refine zY ?_; refine zMv ?_) | refine zU ?_ | refine zNt ?_ | (refine zGt (fun hg => ?_) fun hg => ?_; case' _ => refine zMv ?_)
        all_goals first | (refine zY ?_; refine zCm ?_) | refine zU ?_ | refine zNt ?_ | (refine zGt (fun hg => ?_) fun hg => ?_; case' _ => refine zCm ?_)
        all_goals refine zPk ?_
        all_goals refine zMv ?_
        all_goals first | (refine zY ?_; refine zMv ?_) | refine zU ?_ | refine zNt ?_ | (refine zGt (fun hg => ?_) fun hg => ?_; case' _ => refine zMv ?_)
        all_goals first | (refine zY ?_; refine zCm ?_) | refine zU ?_ | refine zNt ?_ | (refine zGt (fun hg => ?_) fun hg => ?_; case' _ => refine zCm ?_)
        all_goals refine zPk ?_
        all_goals refine zMv ?_
        all_goals first | (refine zY ?_; refine zMv ?_) | refine zU ?_ | refine zNt ?_ | (refine zGt (fun hg => ?_) fun hg => ?_; case' _ => refine zMv ?_)
        all_goals first | (refine zY ?_; refine zMv ?_) | refine zU ?_ | refine zNt ?_ | (refine zGt (fun hg => ?_) fun hg => ?_; case' _ => refine zMv ?_)
        all_goals first | (refine zY ?_; refine zP (ap_shl (p := 1) rfl rfl rfl (by omega) (by omega)) ?_) | refine zU ?_ | refine zNt ?_ | (refine zGt (fun hg => ?_) fun hg => ?_; case' _ => refine zP (ap_shl (p := 1) rfl rfl rfl (by omega) (by omega)) ?_)
        all_goals first | (refine zY ?_; refine zP (ap_bits rfl rfl rfl (by omega) (by omega)) ?_) | refine zU ?_ | refine zNt ?_ | (refine zGt (fun hg => ?_) fun hg => ?_; case' _ => refine zP (ap_bits rfl rfl rfl (by omega) (by omega)) ?_)
        all_goals first | (refine zY ?_; refine zCm ?_) | refine zU ?_ | refine zNt ?_ | (refine zGt (fun hg => ?_) fun hg => ?_; case' _ => refine zCm ?_)
        all_goals refine zPk ?_
        all_goals refine zAs ?_
        all_goals (
          refine zN ?_; refine awp_ret ?_
          refine post_is (.tmp rfl .nil) .nil ?_
          first | (simp [resD, has, h1]; done) | (simp [resD, has, h1, h2]; done) | (simp [resD, has, h1, h2, h3]; done) | exact congrArg D.b (has_bit h1 (by omega))
          )
      · refine con_intro Tryz.func118 rfl Tryz.call118 rfl ?_
        refine zS ?_; refine zAs ?_; refine zN (zS ?_); refine zMv ?_
        refine aops_call_v zRc (valid_con _) rfl rfl ?_
        refine zMv ?_
        all_goals first | (refine zY ?_; refine zMv ?_) | refine zU ?_ | refine zNt ?_ | (refine zGt (fun hg => ?_) fun hg => ?_; case' _ => refine zMv ?_)
        all_goals first | (refine zY ?_; refine zCm ?_) | refine zU ?_ | refine zNt ?_ | (refine zGt (fun hg => ?_) fun hg => ?_; case' _ => refine zCm ?_)
        all_goals refine zPk ?_
        all_goals refine zMv ?_
        all_goals first | (refine zY ?_; refine zMv ?_) | refine zU ?_ | refine zNt ?_ | (refine zGt (fun hg => ?_) fun hg => ?_; case' _ => refine zMv ?_)
        all_goals first | (refine zY ?_; refine zCm ?_) | refine zU ?_ | refine zNt ?_ | (refine zGt (fun hg => ?_) fun hg => ?_; case' _ => refine zCm ?_)
        all_goals refine zPk ?_
        all_goals refine zMv ?_
        all_goals first | (refine zY ?_; refine zMv ?_) | refine zU ?_ | refine zNt ?_ | (refine zGt (fun hg => ?_) fun hg => ?_; case' _ => refine zMv ?_)
        all_goals first | (refine zY ?_; refine zMv ?_) | refine zU ?_ | refine zNt ?_ | (refine zGt (fun hg => ?_) fun hg => ?_; case' _ => refine zMv ?_)
        all_goals first | (refine zY ?_; refine zP (ap_shl (p := 1) rfl rfl rfl (by omega) (by omega)) ?_) | refine zU ?_ | refine zNt ?_ | (refine zGt (fun hg => ?_) fun hg => ?_; case' _ => refine zP (ap_shl (p := 1) rfl rfl rfl (by omega) (by omega)) ?_)
        all_goals first | (refine zY ?_; refine zP (ap_bits rfl rfl rfl (by omega) (by omega)) ?_) | refine zU ?_ | refine zNt ?_ | (refine zGt (fun hg => ?_) fun hg => ?_; case' _ => refine zP (ap_bits rfl rfl rfl (by omega) (by omega)) ?_)
        all_goals first | (refine zY ?_; refine zCm ?_) | refine zU ?_ | refine zNt ?_ | (refine zGt (fun hg => ?_) fun hg => ?_; case' _ => refine zCm ?_)
        all_goals refine zPk ?_
        all_goals refine zAs ?_
        all_goals (
          refine zN ?_; refine awp_ret ?_
          refine post_is (.tmp rfl .nil) .nil ?_
          first | (simp [resD, has, h1]; done) | (simp [resD, has, h1, h2]; done) | (simp [resD, has, h1, h2, h3]; done) | exact congrArg D.b (has_bit h1 (by omega))
          )
    · refine con_intro Tryz.func118 rfl Tryz.call118 rfl ?_
      refine zS ?_; refine zAs ?_; refine zN (zS ?_); refine zMv ?_
      refine aops_call_v zRc (valid_con _) rfl rfl ?_
      refine zMv ?_
      all_goals first | (refine zY ?_; refine zMv ?_) | refine zU ?_ | refine zNt ?_ | (refine zGt (fun hg => ?_) fun hg => ?_; case' _ => refine zMv ?_)
      all_goals first | (refine zY ?_; refine zCm ?_) | refine zU ?_ | refine zNt ?_ | (refine zGt (fun hg => ?_) fun hg => ?_; case' _ => refine zCm ?_)
      all_goals refine zPk ?_
      all_goals refine zMv ?_
      all_goals first | (refine zY ?_; refine zMv ?_) | refine zU ?_ | refine zNt ?_ | (refine zGt (fun hg => ?_) fun hg => ?_; case' _ => refine zMv ?_)
      all_goals first | (refine zY ?_; refine zCm ?_) | refine zU ?_ | refine zNt ?_ | (refine zGt (fun hg => ?_) fun hg => ?_; case' _ => refine zCm ?_)
      all_goals refine zPk ?_
      all_goals refine zMv ?_
      all_goals first | (refine zY ?_; refine zMv ?_) | refine zU ?_ | refine zNt ?_ | (refine zGt (fun hg => ?_) fun hg => ?_; case' _ => refine zMv ?_)
      all_goals first | (refine zY ?_; refine zMv ?_) | refine zU ?_ | refine zNt ?_ | (refine zGt (fun hg => ?_) fun hg => ?_; case' _ => refine zMv ?_)
      all_goals first | (refine zY ?_; refine zP (ap_shl (p := 1) rfl rfl rfl (by omega) (by omega)) ?_) | refine zU ?_ | refine zNt ?_ | (refine zGt (fun hg => ?_) fun hg => ?_; case' _ => refine zP (ap_shl (p := 1) rfl rfl rfl (by omega) (by omega)) ?_)
      all_goals first | (refine zY ?_; refine zP (ap_bits rfl rfl rfl (by omega) (by omega)) ?_) | refine zU ?_ | refine zNt ?_ | (refine zGt (fun hg => ?_) fun hg => ?_; case' _ => refine zP (ap_bits rfl rfl rfl (by omega) (by omega)) ?_)
      all_goals first | (refine zY ?_; refine zCm ?_) | refine zU ?_ | refine zNt ?_ | (refine zGt (fun hg => ?_) fun hg => ?_; case' _ => refine zCm ?_)
      all_goals refine zPk ?_
      all_goals refine zAs ?_
      all_goals (
        refine zN ?_; refine awp_ret ?_
        refine post_is (.tmp rfl .nil) .nil ?_
        first | (simp [resD, has, h1]; done) | (simp [resD, has, h1, h2]; done) | (simp [resD, has, h1, h2, h3]; done) | exact congrArg D.b (has_bit h1 (by omega))
        )
  · have h1 : valid s = false := by simpa using h1
    refine con_intro Tryz.func118 rfl Tryz.call118 rfl ?_
    refine zS ?_; refine zAs ?_; refine zN (zS ?_); refine zMv ?_
    refine aops_call_v zRc (valid_con _) rfl rfl ?_
    refine zMv ?_
    all_goals first | (refine zY ?_; refine zMv ?_) | refine zU ?_ | refine zNt ?_ | (refine zGt (fun hg => ?_) fun hg => ?_; case' _ => refine zMv ?_)
    all_goals first | (refine zY ?_; refine zCm ?_) | refine zU ?_ | refine zNt ?_ | (refine zGt (fun hg => ?_) fun hg => ?_; case' _ => refine zCm ?_)
    all_goals refine zPk ?_
    all_goals refine zMv ?_
    all_goals first | (refine zY ?_; refine zMv ?_) | refine zU ?_ | refine zNt ?_ | (refine zGt (fun hg => ?_) fun hg => ?_; case' _ => refine zMv ?_)
    all_goals first | (refine zY ?_; refine zCm ?_) | refine zU ?_ | refine zNt ?_ | (refine zGt (fun hg => ?_) fun hg => ?_; case' _ => refine zCm ?_)
    all_goals refine zPk ?_
    all_goals refine zMv ?_
    all_goals first | (refine zY ?_; refine zMv ?_) | refine zU ?_ | refine zNt ?_ | (refine zGt (fun hg => ?_) fun hg => ?_; case' _ => refine zMv ?_)
    all_goals first | (refine zY ?_; refine zMv ?_) | refine zU ?_ | refine zNt ?_ | (refine zGt (fun hg => ?_) fun hg => ?_; case' _ => refine zMv ?_)
    all_goals first | (refine zY ?_; refine zP (ap_shl (p := 1) rfl rfl rfl (by omega) (by omega)) ?_) | refine zU ?_ | refine zNt ?_ | (refine zGt (fun hg => ?_) fun hg => ?_; case' _ => refine zP (ap_shl (p := 1) rfl rfl rfl (by omega) (by omega)) ?_)
    all_goals first | (refine zY ?_; refine zP (ap_bits rfl rfl rfl (by omega) (by omega)) ?_) | refine zU ?_ | refine zNt ?_ | (refine zGt (fun hg => ?_) fun hg => ?_; case' _ => refine zP (ap_bits rfl rfl rfl (by omega) (by omega)) ?_)
    all_goals first | (refine zY ?_; refine zCm ?_) | refine zU ?_ | refine zNt ?_ | (refine zGt (fun hg => ?_) fun hg => ?_; case' _ => refine zCm ?_)
    all_goals refine zPk ?_
    all_goals refine zAs ?_
    all_goals (
      refine zN ?_; refine awp_ret ?_
      refine post_is (.tmp rfl .nil) .nil ?_
      first | (simp [resD, has, h1]; done) | (simp [resD, has, h1, h2]; done) | (simp [resD, has, h1, h2, h3]; done) | exact congrArg D.b (has_bit h1 (by omega))
      )
theorem rvalid_con (s : Int) : Con none Tryz.prog 66 [.i s] [] (Is (.b (valid s)) []) := by
  have hcap : capB = 140737488355328 := rfl
  refine con_intro Tryz.func66 rfl Tryz.call66 rfl ?_
  refine zS ?_; refine zAs ?_; refine zN (zS ?_); refine zMv ?_; refine zCm ?_; refine zMv ?_
  all_goals first | (refine zY ?_; refine zMv ?_) | refine zU ?_ | refine zNt ?_ | (refine zGt (fun hg => ?_) fun hg => ?_; case' _ => refine zMv ?_)
  all_goals first | (refine zY ?_; refine zCm ?_) | refine zU ?_ | refine zNt ?_ | (refine zGt (fun hg => ?_) fun hg => ?_; case' _ => refine zCm ?_)
  all_goals refine zPk ?_
  all_goals refine zAs ?_
  all_goals (
    refine zN ?_; refine awp_ret ?_
    refine post_is (.tmp rfl .nil) .nil ?_
    first | (simp_all [resD, valid]; done) | (simp_all [resD, valid]; omega)
    )
theorem rhas_con (s k : Int) : Con none Tryz.prog 115 [.i s, .i k] [] (Is (.b (has s k)) []) := by
  have hcap : capB = 140737488355328 := rfl
  by_cases h1 : valid s = true
  · by_cases h2 : 0 ≤ k
    · by_cases h3 : k < 10
      · obtain ⟨q, rfl⟩ := Int.eq_ofNat_of_zero_le h2
        obtain ⟨m, rfl, hm⟩ := valid_nat h1
        have hq := pow_lt10 (k := q) (by omega)
        have hdiv : m / 2 ^ q ≤ m := Nat.div_le_self _ _
        refine con_intro Tryz.func115 rfl Tryz.call115 rfl ?_
        refine zS ?_; refine zAs ?_; refine zN (zS ?_); refine zMv ?_
        refine aops_call_v zRc (rvalid_con _) rfl rfl ?_
        refine zMv ?_
        all_goals first | (refine zY ?_; refine zMv ?_) | refine zU ?_ | refine zNt ?_ | (refine zGt (fun hg => ?_) fun hg => ?_; case' _ => refine zMv ?_)
        all_goals first | (refine zY ?_; refine zCm ?_) | refine zU ?_ | refine zNt ?_ | (refine zGt (fun hg => ?_) fun hg => ?_; case' _ => refine zCm ?_)
        all_goals refine zPk ?_
        all_goals refine zMv ?_
        all_goals first | (refine zY ?_; refine zMv ?_) | refine zU ?_ | refine zNt ?_ | (refine zGt (fun hg => ?_) fun hg => ?_; case' _ => refine zMv ?_)
        all_goals first | (refine zY ?_; refine zCm ?_) | refine zU ?_ | refine zNt ?_ | (refine zGt (fun hg => ?_) fun hg => ?_; case' _ => refine zCm ?_)
        all_goals refine zPk ?_
        all_goals refine zMv ?_
        all_goals first | (refine zY ?_; refine zMv ?_) | refine zU ?_ | refine zNt ?_ | (refine zGt (fun hg => ?_) fun hg => ?_; case' _ => refine zMv ?_)
        all_goals first | (refine zY ?_; refine zMv ?_) | refine zU ?_ | refine zNt ?_ | (refine zGt (fun hg => ?_) fun hg => ?_; case' _ => refine zMv ?_)
        all_goals first | (refine zY ?_; refine zP (ap_shr rfl rfl (by omega)) ?_) | refine zU ?_ | refine zNt ?_ | (refine zGt (fun hg => ?_) fun hg => ?_; case' _ => refine zP (ap_shr rfl rfl (by omega)) ?_)
        all_goals first | (refine zY ?_; refine zP (ap_bits (q := 1) rfl rfl rfl (by omega) (by omega)) ?_) | refine zU ?_ | refine zNt ?_ | (refine zGt (fun hg => ?_) fun hg => ?_; case' _ => refine zP (ap_bits (q := 1) rfl rfl rfl (by omega) (by omega)) ?_)
        all_goals first | (refine zY ?_; refine zCm ?_) | refine zU ?_ | refine zNt ?_ | (refine zGt (fun hg => ?_) fun hg => ?_; case' _ => refine zCm ?_)
        all_goals refine zPk ?_
        all_goals refine zAs ?_
        all_goals (
          refine zN ?_; refine awp_ret ?_
          refine post_is (.tmp rfl .nil) .nil ?_
          first | (simp [resD, has, h1]; done) | (simp [resD, has, h1, h2]; done) | (simp [resD, has, h1, h2, h3]; done) | exact congrArg D.b (has_bit' h1 (by omega))
          )
      · refine con_intro Tryz.func115 rfl Tryz.call115 rfl ?_
        refine zS ?_; refine zAs ?_; refine zN (zS ?_); refine zMv ?_
        refine aops_call_v zRc (rvalid_con _) rfl rfl ?_
        refine zMv ?_
        all_goals first | (refine zY ?_; refine zMv ?_) | refine zU ?_ | refine zNt ?_ | (refine zGt (fun hg => ?_) fun hg => ?_; case' _ => refine zMv ?_)
        all_goals first | (refine zY ?_; refine zCm ?_) | refine zU ?_ | refine zNt ?_ | (refine zGt (fun hg => ?_) fun hg => ?_; case' _ => refine zCm ?_)
        all_goals refine zPk ?_
        all_goals refine zMv ?_
        all_goals first | (refine zY ?_; refine zMv ?_) | refine zU ?_ | refine zNt ?_ | (refine zGt (fun hg => ?_) fun hg => ?_; case' _ => refine zMv ?_)
        all_goals first | (refine zY ?_; refine zCm ?_) | refine zU ?_ | refine zNt ?_ | (refine zGt (fun hg => ?_) fun hg => ?_; case' _ => refine zCm ?_)
        all_goals refine zPk ?_
        all_goals refine zMv ?_
        all_goals first | (refine zY ?_; refine zMv ?_) | refine zU ?_ | refine zNt ?_ | (refine zGt (fun hg => ?_) fun hg => ?_; case' _ => refine zMv ?_)
        all_goals first | (refine zY ?_; refine zMv ?_) | refine zU ?_ | refine zNt ?_ | (refine zGt (fun hg => ?_) fun hg => ?_; case' _ => refine zMv ?_)
        all_goals first | (refine zY ?_; refine zP (ap_shr rfl rfl (by omega)) ?_) | refine zU ?_ | refine zNt ?_ | (refine zGt (fun hg => ?_) fun hg => ?_; case' _ => refine zP (ap_shr rfl rfl (by omega)) ?_)
        all_goals first | (refine zY ?_; refine zP (ap_bits (q := 1) rfl rfl rfl (by omega) (by omega)) ?_) | refine zU ?_ | refine zNt ?_ | (refine zGt (fun hg => ?_) fun hg => ?_; case' _ => refine zP (ap_bits (q := 1) rfl rfl rfl (by omega) (by omega)) ?_)
        all_goals first | (refine zY ?_; refine zCm ?_) | refine zU ?_ | refine zNt ?_ | (refine zGt (fun hg => ?_) fun hg => ?_; case' _ => refine zCm ?_)
        all_goals refine zPk ?_
        all_goals refine zAs ?_
        all_goals (
          refine zN ?_; refine awp_ret ?_
          refine post_is (.tmp rfl .nil) .nil ?_
          first | (simp [resD, has, h1]; done) | (simp [resD, has, h1, h2]; done) | (simp [resD, has, h1, h2, h3]; done) | exact congrArg D.b (has_bit' h1 (by omega))
          )
    · refine con_intro Tryz.func115 rfl Tryz.call115 rfl ?_
      refine zS ?_; refine zAs ?_; refine zN (zS ?_); refine zMv ?_
      refine aops_call_v zRc (rvalid_con _) rfl rfl ?_
      refine zMv ?_
      all_goals first | (refine zY ?_; refine zMv ?_) | refine zU ?_ | refine zNt ?_ | (refine zGt (fun hg => ?_) fun hg => ?_; case' _ => refine zMv ?_)
      all_goals first | (refine zY ?_; refine zCm ?_) | refine zU ?_ | refine zNt ?_ | (refine zGt (fun hg => ?_) fun hg => ?_; case' _ => refine zCm ?_)
      all_goals refine zPk ?_
      all_goals refine zMv ?_
      all_goals first | (refine zY ?_; refine zMv ?_) | refine zU ?_ | refine zNt ?_ | (refine zGt (fun hg => ?_) fun hg => ?_; case' _ => refine zMv ?_)
      all_goals first | (refine zY ?_; refine zCm ?_) | refine zU ?_ | refine zNt ?_ | (refine zGt (fun hg => ?_) fun hg => ?_; case' _ => refine zCm ?_)
      all_goals refine zPk ?_
      all_goals refine zMv ?_
      all_goals first | (refine zY ?_; refine zMv ?_) | refine zU ?_ | refine zNt ?_ | (refine zGt (fun hg => ?_) fun hg => ?_; case' _ => refine zMv ?_)
      all_goals first | (refine zY ?_; refine zMv ?_) | refine zU ?_ | refine zNt ?_ | (refine zGt (fun hg => ?_) fun hg => ?_; case' _ => refine zMv ?_)
      all_goals first | (refine zY ?_; refine zP (ap_shr rfl rfl (by omega)) ?_) | refine zU ?_ | refine zNt ?_ | (refine zGt (fun hg => ?_) fun hg => ?_; case' _ => refine zP (ap_shr rfl rfl (by omega)) ?_)
      all_goals first | (refine zY ?_; refine zP (ap_bits (q := 1) rfl rfl rfl (by omega) (by omega)) ?_) | refine zU ?_ | refine zNt ?_ | (refine zGt (fun hg => ?_) fun hg => ?_; case' _ => refine zP (ap_bits (q := 1) rfl rfl rfl (by omega) (by omega)) ?_)
      all_goals first | (refine zY ?_; refine zCm ?_) | refine zU ?_ | refine zNt ?_ | (refine zGt (fun hg => ?_) fun hg => ?_; case' _ => refine zCm ?_)
      all_goals refine zPk ?_
      all_goals refine zAs ?_
      all_goals (
        refine zN ?_; refine awp_ret ?_
        refine post_is (.tmp rfl .nil) .nil ?_
        first | (simp [resD, has, h1]; done) | (simp [resD, has, h1, h2]; done) | (simp [resD, has, h1, h2, h3]; done) | exact congrArg D.b (has_bit' h1 (by omega))
        )
  · have h1 : valid s = false := by simpa using h1
    refine con_intro Tryz.func115 rfl Tryz.call115 rfl ?_
    refine zS ?_; refine zAs ?_; refine zN (zS ?_); refine zMv ?_
    refine aops_call_v zRc (rvalid_con _) rfl rfl ?_
    refine zMv ?_
    all_goals first | (refine zY ?_; refine zMv ?_) | refine zU ?_ | refine zNt ?_ | (refine zGt (fun hg => ?_) fun hg => ?_; case' _ => refine zMv ?_)
    all_goals first | (refine zY ?_; refine zCm ?_) | refine zU ?_ | refine zNt ?_ | (refine zGt (fun hg => ?_) fun hg => ?_; case' _ => refine zCm ?_)
    all_goals refine zPk ?_
    all_goals refine zMv ?_
    all_goals first | (refine zY ?_; refine zMv ?_) | refine zU ?_ | refine zNt ?_ | (refine zGt (fun hg => ?_) fun hg => ?_; case' _ => refine zMv ?_)
    all_goals first | (refine zY ?_; refine zCm ?_) | refine zU ?_ | refine zNt ?_ | (refine zGt (fun hg => ?_) fun hg => ?_; case' _ => refine zCm ?_)
    all_goals refine zPk ?_
    all_goals refine zMv ?_
    all_goals first | (refine zY ?_; refine zMv ?_) | refine zU ?_ | refine zNt ?_ | (refine zGt (fun hg => ?_) fun hg => ?_; case' _ => refine zMv ?_)
    all_goals first | (refine zY ?_; refine zMv ?_) | refine zU ?_ | refine zNt ?_ | (refine zGt (fun hg => ?_) fun hg => ?_; case' _ => refine zMv ?_)
    all_goals first | (refine zY ?_; refine zP (ap_shr rfl rfl (by omega)) ?_) | refine zU ?_ | refine zNt ?_ | (refine zGt (fun hg => ?_) fun hg => ?_; case' _ => refine zP (ap_shr rfl rfl (by omega)) ?_)
    all_goals first | (refine zY ?_; refine zP (ap_bits (q := 1) rfl rfl rfl (by omega) (by omega)) ?_) | refine zU ?_ | refine zNt ?_ | (refine zGt (fun hg => ?_) fun hg => ?_; case' _ => refine zP (ap_bits (q := 1) rfl rfl rfl (by omega) (by omega)) ?_)
    all_goals first | (refine zY ?_; refine zCm ?_) | refine zU ?_ | refine zNt ?_ | (refine zGt (fun hg => ?_) fun hg => ?_; case' _ => refine zCm ?_)
    all_goals refine zPk ?_
    all_goals refine zAs ?_
    all_goals (
      refine zN ?_; refine awp_ret ?_
      refine post_is (.tmp rfl .nil) .nil ?_
      first | (simp [resD, has, h1]; done) | (simp [resD, has, h1, h2]; done) | (simp [resD, has, h1, h2, h3]; done) | exact congrArg D.b (has_bit' h1 (by omega))
      )
theorem sat_con (s : Int) : ∀ (t : Trust), Con none Tryz.prog 201 [av t, .i s] [] (Is (.b (sat s t)) []) := by
  have hcap : capB = 140737488355328 := rfl
  intro t
  induction t using Trust.ind with
  | _ t ih =>
    have hl1 : (t.nodes.map D.i).length = t.nodes.length := by simp
    have hl2 := avs_len t.inner
    refine con_intro Tryz.func201 rfl Tryz.call201 rfl ?_
    refine zS ?_
    refine aops_box rfl zFlat rfl rfl (fun b2 => ?_)
    refine zAs ?_; refine zN ?_; refine awp_seq ?_; refine zS ?_; refine zMv ?_
    refine aops_call_v zRc (valid_con _) rfl rfl ?_
    refine zNo ?_; refine zN ?_
    refine zC (fun hc => ?_) fun hc => ?_
    · refine awp_seq ?_
      refine awp_region ?_; refine zAs ?_; refine zN ?_; refine awp_ret ?_; refine seqQ_r ?_
      refine post_is (.tmp rfl .nil) .nil ?_
      first | (simp_all [resD, sat]; done)
    · have h1 : valid s = true := by simpa using hc
      refine awp_skip ?_; refine seqQ_n ?_; refine zS ?_; refine zAs ?_; refine zN ?_; refine awp_seq ?_; refine zS ?_; refine zF 1 1 false ?_; refine zL1 ?_
      first | refine aops_len rfl rfl rfl rfl (fun _ => ?_) | refine zP (ap_len_arr rfl zUpd rfl) ?_ | refine zP (ap_len_nil rfl rfl) ?_
      refine zMv ?_; refine zN ?_; refine awp_block ?_
      refine awp_loop2 [1, 2, 14, 15] [.box b2 _ _] (fun (k : Nat) (n : Int) r => (5, .i n) :: (16, .i (k : Int)) :: r) (fun (k : Nat) (n : Int) r => r) (fun (k : Nat) (n : Int) => k ≤ t.nodes.length ∧ (0 ≤ n ∧ n ≤ k) ∧ n + cnt (has s) (t.nodes.drop k) = cnt (has s) t.nodes) (fun (k : Nat) (n : Int) => t.nodes.length - k) (0) (0) zRc ⟨by omega, by omega, by simp⟩ (wk zSub zKeep) ?_
      intro k n ⟨hk, hn, hI⟩
      refine zS ?_; refine zCm ?_; refine zN ?_; refine awp_seq ?_
      refine zC (fun hc => ?_) fun hc => ?_
      · have hlt : k < t.nodes.length := by have := of_decide_eq_true hc; omega
        obtain ⟨x, hx, hd⟩ := drop_cons hlt
        have hx' := getMap D.i hx
        refine awp_skip ?_; refine seqQ_n ?_; refine awp_seq ?_; refine awp_block ?_; refine zS ?_
        first | refine zP (ap_index rfl rfl rfl rfl (by decide) rfl zAss) ?_ | refine zP (ap_index rfl rfl rfl rfl (by decide) (by omega) zAss) ?_ | refine zP (ap_index_own rfl rfl rfl rfl rfl (by first | omega | (simp only [List.length_map, List.length_set, avs_len]; omega))) ?_
        refine zL1 ?_; refine zAs ?_; refine zN (zS ?_); refine zMv ?_; refine zMv ?_
        refine aops_call_v zRc (has_con _ _) rfl rfl ?_
        refine zN ?_
        refine zC (fun hc => ?_) fun hc => ?_
        · refine awp_region ?_
          refine zMv ?_; refine zAr ?_; refine zAs ?_; refine aops_nil ?_; refine blockQ_n ?_; refine seqQ_n ?_; refine awp_region ?_; refine zAr ?_; refine zMv ?_; refine zN ?_
          refine ⟨k + 1, _, ⟨by omega, ?_, ?_⟩, by omega, wk zSub zKeep⟩
          · omega
          · rw [hd, cnt_cons] at hI; simp [hc] at hI; omega
        · refine awp_skip ?_
          refine blockQ_n ?_; refine seqQ_n ?_; refine awp_region ?_; refine zAr ?_; refine zMv ?_; refine zN ?_
          refine ⟨k + 1, _, ⟨by omega, ?_, ?_⟩, by omega, wk zSub zKeep⟩
          · omega
          · rw [hd, cnt_cons] at hI; simp [hc] at hI; omega
      · have hge : t.nodes.length ≤ k := by have := of_decide_eq_false hc; omega
        rw [drop_nil hge] at hI; simp only [cnt] at hI
        refine awp_exit ?_; refine seqQ_x ?_; refine seqQ_x ?_; refine blockQ_x rfl ?_; refine seqQ_n ?_; refine awp_seq ?_; refine zS ?_; refine zF 2 1 false ?_; refine zL1 ?_
        first | refine aops_len rfl rfl rfl rfl (fun _ => ?_) | refine zP (ap_len_arr rfl zUpd rfl) ?_ | refine zP (ap_len_nil rfl rfl) ?_
        refine zMv ?_; refine zN ?_; refine awp_block ?_
        refine awp_loop2 [1, 2, 27, 28] [.box b2 _ _] (fun (k : Nat) (n : Int) r => (5, .i n) :: (29, .i (k : Int)) :: r) (fun (k : Nat) (n : Int) r => r) (fun (k : Nat) (n : Int) => k ≤ t.inner.length ∧ (0 ≤ n ∧ n ≤ t.nodes.length + k) ∧ n + cntI s (t.inner.drop k) = cnt (has s) t.nodes + cntI s t.inner) (fun (k : Nat) (n : Int) => t.inner.length - k) (0) (n) zRc ⟨by omega, by omega, by simpa using hI⟩ (wk zSub zKeep) ?_
        intro k n ⟨hk, hn, hI⟩
        refine zS ?_; refine zCm ?_; refine zN ?_; refine awp_seq ?_
        refine zC (fun hc => ?_) fun hc => ?_
        · have hlt : k < t.inner.length := by have := of_decide_eq_true hc; omega
          obtain ⟨x, hx, hd⟩ := drop_cons hlt
          have hx' := avs_get hx
          refine awp_skip ?_; refine seqQ_n ?_; refine awp_seq ?_; refine awp_block ?_; refine zS ?_
          first | refine zP (ap_index rfl rfl rfl rfl (by decide) rfl zAss) ?_ | refine zP (ap_index rfl rfl rfl rfl (by decide) (by omega) zAss) ?_ | refine zP (ap_index_own rfl rfl rfl rfl rfl (by first | omega | (simp only [List.length_map, List.length_set, avs_len]; omega))) ?_
          refine zLd ?_
          refine aops_alloc rfl zRc rfl rfl (fun b9 => ?_)
          refine zSt ?_; refine zN (zS ?_); refine zLd ?_; refine zMv ?_
          refine aops_call_v zRc (ih _ (List.mem_of_getElem? hx)) rfl rfl ?_
          refine zN ?_
          refine zC (fun hc => ?_) fun hc => ?_
          · refine awp_region ?_
            refine zMv ?_; refine zAr ?_; refine zAs ?_; refine aops_nil ?_; refine blockQ_n ?_; refine seqQ_n ?_; refine awp_region ?_; refine zAr ?_; refine zMv ?_; refine zN ?_
            refine ⟨k + 1, _, ⟨by omega, ?_, ?_⟩, by omega, wk zSub zKeep⟩
            · omega
            · rw [hd, cntI_cons] at hI; simp [hc] at hI; omega
          · refine awp_skip ?_
            refine blockQ_n ?_; refine seqQ_n ?_; refine awp_region ?_; refine zAr ?_; refine zMv ?_; refine zN ?_
            refine ⟨k + 1, _, ⟨by omega, ?_, ?_⟩, by omega, wk zSub zKeep⟩
            · omega
            · rw [hd, cntI_cons] at hI; simp [hc] at hI; omega
        · have hge : t.inner.length ≤ k := by have := of_decide_eq_false hc; omega
          rw [drop_nil hge] at hI; simp only [cntI] at hI
          refine awp_exit ?_; refine seqQ_x ?_; refine seqQ_x ?_; refine blockQ_x rfl ?_; refine seqQ_n ?_; refine zS ?_; refine zMv ?_; refine zF 0 1 false ?_; refine zL1 ?_; refine zCm ?_; refine zAs ?_; refine zN ?_; refine awp_ret ?_
          refine post_is (.tmp rfl .nil) .nil ?_
          simp [resD, sat, h1, ← hI]
theorem rsat_con (s : Int) : ∀ (t : Trust), Con none Tryz.prog 69 [av t, .i s] [] (Is (.b (sat s t)) []) := by
  have hcap : capB = 140737488355328 := rfl
  intro t
  induction t using Trust.ind with
  | _ t ih =>
    have hl1 : (t.nodes.map D.i).length = t.nodes.length := by simp
    have hl2 := avs_len t.inner
    refine con_intro Tryz.func69 rfl Tryz.call69 rfl ?_
    refine zS ?_
    refine aops_box rfl zFlat rfl rfl (fun b2 => ?_)
    refine zAs ?_; refine zN ?_; refine awp_seq ?_; refine zS ?_; refine zMv ?_
    refine aops_call_v zRc (rvalid_con _) rfl rfl ?_
    refine zNo ?_; refine zN ?_
    refine zC (fun hc => ?_) fun hc => ?_
    · refine awp_seq ?_
      refine awp_region ?_; refine zAs ?_; refine zN ?_; refine awp_ret ?_; refine seqQ_r ?_
      refine post_is (.tmp rfl .nil) .nil ?_
      first | (simp_all [resD, sat]; done)
    · have h1 : valid s = true := by simpa using hc
      refine awp_skip ?_; refine seqQ_n ?_; refine zS ?_; refine zAs ?_; refine zN ?_; refine awp_seq ?_; refine zS ?_; refine zF 1 1 false ?_; refine zL1 ?_
      first | refine aops_len rfl rfl rfl rfl (fun _ => ?_) | refine zP (ap_len_arr rfl zUpd rfl) ?_ | refine zP (ap_len_nil rfl rfl) ?_
      refine zMv ?_; refine zN ?_; refine awp_block ?_
      refine awp_loop2 [1, 2, 14, 15] [.box b2 _ _] (fun (k : Nat) (n : Int) r => (5, .i n) :: (16, .i (k : Int)) :: r) (fun (k : Nat) (n : Int) r => r) (fun (k : Nat) (n : Int) => k ≤ t.nodes.length ∧ (0 ≤ n ∧ n ≤ k) ∧ n + cnt (has s) (t.nodes.drop k) = cnt (has s) t.nodes) (fun (k : Nat) (n : Int) => t.nodes.length - k) (0) (0) zRc ⟨by omega, by omega, by simp⟩ (wk zSub zKeep) ?_
      intro k n ⟨hk, hn, hI⟩
      refine zS ?_; refine zCm ?_; refine zN ?_; refine awp_seq ?_
      refine zC (fun hc => ?_) fun hc => ?_
      · have hlt : k < t.nodes.length := by have := of_decide_eq_true hc; omega
        obtain ⟨x, hx, hd⟩ := drop_cons hlt
        have hx' := getMap D.i hx
        refine awp_skip ?_; refine seqQ_n ?_; refine awp_seq ?_; refine awp_block ?_; refine zS ?_
        first | refine zP (ap_index rfl rfl rfl rfl (by decide) rfl zAss) ?_ | refine zP (ap_index rfl rfl rfl rfl (by decide) (by omega) zAss) ?_ | refine zP (ap_index_own rfl rfl rfl rfl rfl (by first | omega | (simp only [List.length_map, List.length_set, avs_len]; omega))) ?_
        refine zL1 ?_; refine zAs ?_; refine zN (zS ?_); refine zMv ?_; refine zMv ?_
        refine aops_call_v zRc (rhas_con _ _) rfl rfl ?_
        refine zN ?_
        refine zC (fun hc => ?_) fun hc => ?_
        · refine awp_region ?_
          refine zMv ?_; refine zAr ?_; refine zAs ?_; refine aops_nil ?_; refine blockQ_n ?_; refine seqQ_n ?_; refine awp_region ?_; refine zAr ?_; refine zMv ?_; refine zN ?_
          refine ⟨k + 1, _, ⟨by omega, ?_, ?_⟩, by omega, wk zSub zKeep⟩
          · omega
          · rw [hd, cnt_cons] at hI; simp [hc] at hI; omega
        · refine awp_skip ?_
          refine blockQ_n ?_; refine seqQ_n ?_; refine awp_region ?_; refine zAr ?_; refine zMv ?_; refine zN ?_
          refine ⟨k + 1, _, ⟨by omega, ?_, ?_⟩, by omega, wk zSub zKeep⟩
          · omega
          · rw [hd, cnt_cons] at hI; simp [hc] at hI; omega
      · have hge : t.nodes.length ≤ k := by have := of_decide_eq_false hc; omega
        rw [drop_nil hge] at hI; simp only [cnt] at hI
        refine awp_exit ?_; refine seqQ_x ?_; refine seqQ_x ?_; refine blockQ_x rfl ?_; refine seqQ_n ?_; refine awp_seq ?_; refine zS ?_; refine zF 2 1 false ?_; refine zL1 ?_
        first | refine aops_len rfl rfl rfl rfl (fun _ => ?_) | refine zP (ap_len_arr rfl zUpd rfl) ?_ | refine zP (ap_len_nil rfl rfl) ?_
        refine zMv ?_; refine zN ?_; refine awp_block ?_
        refine awp_loop2 [1, 2, 27, 28] [.box b2 _ _] (fun (k : Nat) (n : Int) r => (5, .i n) :: (29, .i (k : Int)) :: r) (fun (k : Nat) (n : Int) r => r) (fun (k : Nat) (n : Int) => k ≤ t.inner.length ∧ (0 ≤ n ∧ n ≤ t.nodes.length + k) ∧ n + cntI s (t.inner.drop k) = cnt (has s) t.nodes + cntI s t.inner) (fun (k : Nat) (n : Int) => t.inner.length - k) (0) (n) zRc ⟨by omega, by omega, by simpa using hI⟩ (wk zSub zKeep) ?_
        intro k n ⟨hk, hn, hI⟩
        refine zS ?_; refine zCm ?_; refine zN ?_; refine awp_seq ?_
        refine zC (fun hc => ?_) fun hc => ?_
        · have hlt : k < t.inner.length := by have := of_decide_eq_true hc; omega
          obtain ⟨x, hx, hd⟩ := drop_cons hlt
          have hx' := avs_get hx
          refine awp_skip ?_; refine seqQ_n ?_; refine awp_seq ?_; refine awp_block ?_; refine zS ?_
          first | refine zP (ap_index rfl rfl rfl rfl (by decide) rfl zAss) ?_ | refine zP (ap_index rfl rfl rfl rfl (by decide) (by omega) zAss) ?_ | refine zP (ap_index_own rfl rfl rfl rfl rfl (by first | omega | (simp only [List.length_map, List.length_set, avs_len]; omega))) ?_
          refine zLd ?_
          refine aops_alloc rfl zRc rfl rfl (fun b9 => ?_)
          refine zSt ?_; refine zN (zS ?_); refine zLd ?_; refine zMv ?_
          refine aops_call_v zRc (ih _ (List.mem_of_getElem? hx)) rfl rfl ?_
          refine zN ?_
          refine zC (fun hc => ?_) fun hc => ?_
          · refine awp_region ?_
            refine zMv ?_; refine zAr ?_; refine zAs ?_; refine aops_nil ?_; refine blockQ_n ?_; refine seqQ_n ?_; refine awp_region ?_; refine zAr ?_; refine zMv ?_; refine zN ?_
            refine ⟨k + 1, _, ⟨by omega, ?_, ?_⟩, by omega, wk zSub zKeep⟩
            · omega
            · rw [hd, cntI_cons] at hI; simp [hc] at hI; omega
          · refine awp_skip ?_
            refine blockQ_n ?_; refine seqQ_n ?_; refine awp_region ?_; refine zAr ?_; refine zMv ?_; refine zN ?_
            refine ⟨k + 1, _, ⟨by omega, ?_, ?_⟩, by omega, wk zSub zKeep⟩
            · omega
            · rw [hd, cntI_cons] at hI; simp [hc] at hI; omega
        · have hge : t.inner.length ≤ k := by have := of_decide_eq_false hc; omega
          rw [drop_nil hge] at hI; simp only [cntI] at hI
          refine awp_exit ?_; refine seqQ_x ?_; refine seqQ_x ?_; refine blockQ_x rfl ?_; refine seqQ_n ?_; refine zS ?_; refine zMv ?_; refine zF 0 1 false ?_; refine zL1 ?_; refine zCm ?_; refine zAs ?_; refine zN ?_; refine awp_ret ?_
          refine post_is (.tmp rfl .nil) .nil ?_
          simp [resD, sat, h1, ← hI]
theorem rsize_con (m : Nat) (hm : m ≤ 1000000000) : ∀ (t : Trust), sizeT t ≤ m → Con none Tryz.prog 135 [av t] [] (Is (.i (sizeT t)) []) := by
  have hcap : capB = 140737488355328 := rfl
  intro t
  induction t using Trust.ind with
  | _ t ih =>
    intro hsz
    have hl1 : (t.nodes.map D.i).length = t.nodes.length := by simp
    have hl2 := avs_len t.inner
    have hs0 : sizeT t = t.nodes.length + t.inner.length + sizeL t.inner := rfl
    refine con_intro Tryz.func135 rfl Tryz.call135 rfl ?_
    refine zS ?_
    refine aops_box rfl zFlat rfl rfl (fun b1 => ?_)
    refine zAs ?_; refine zN (zS ?_); refine zF 1 1 false ?_; refine zL1 ?_
    first | refine aops_len rfl rfl rfl rfl (fun _ => ?_) | refine zP (ap_len_arr rfl zUpd rfl) ?_ | refine zP (ap_len_nil rfl rfl) ?_
    refine zF 2 1 false ?_; refine zL1 ?_
    first | refine aops_len rfl rfl rfl rfl (fun _ => ?_) | refine zP (ap_len_arr rfl zUpd rfl) ?_ | refine zP (ap_len_nil rfl rfl) ?_
    refine zAr ?_; refine zAs ?_; refine zN ?_; refine awp_seq ?_; refine zS ?_; refine zF 2 1 false ?_; refine zL1 ?_
    first | refine aops_len rfl rfl rfl rfl (fun _ => ?_) | refine zP (ap_len_arr rfl zUpd rfl) ?_ | refine zP (ap_len_nil rfl rfl) ?_
    refine zMv ?_; refine zN ?_; refine awp_block ?_
    refine awp_loop2 [14, 15] [] (fun (k : Nat) (n : Nat) r => (3, .i (n : Int)) :: (16, .i (k : Int)) :: r) (fun (k : Nat) (n : Nat) r => r) (fun (k : Nat) (n : Nat) => k ≤ t.inner.length ∧ n + sizeL (t.inner.drop k) = sizeT t) (fun (k : Nat) (n : Nat) => t.inner.length - k) (0) (t.nodes.length + t.inner.length) zRc ⟨by omega, by simp; omega⟩ (by rw [← hl1, ← hl2]; exact wk zSub zKeep) ?_
    intro k n ⟨hk, hI⟩
    refine zS ?_; refine zCm ?_; refine zN ?_; refine awp_seq ?_
    refine zC (fun hc => ?_) fun hc => ?_
    · have hlt : k < t.inner.length := by have := of_decide_eq_true hc; omega
      obtain ⟨x, hx, hd⟩ := drop_cons hlt
      have hx' := avs_get hx
      have hxm := List.mem_of_getElem? hx
      refine awp_skip ?_; refine seqQ_n ?_; refine awp_seq ?_; refine awp_block ?_; refine zS ?_
      first | refine zP (ap_index rfl rfl rfl rfl (by decide) rfl zAss) ?_ | refine zP (ap_index rfl rfl rfl rfl (by decide) (by omega) zAss) ?_ | refine zP (ap_index_own rfl rfl rfl rfl rfl (by first | omega | (simp only [List.length_map, List.length_set, avs_len]; omega))) ?_
      refine zLd ?_
      refine aops_alloc rfl zRc rfl rfl (fun b5 => ?_)
      refine zSt ?_; refine zN ?_; refine awp_region ?_; refine zMv ?_; refine zLd ?_
      refine aops_call_v zRc (ih _ hxm (by have := sizeL_mem hxm; omega)) rfl rfl ?_
      (have hq := hI; rw [hd, sizeL_cons] at hq; refine zAr ?_)
      refine zAs ?_; refine aops_nil ?_; refine blockQ_n ?_; refine seqQ_n ?_; refine awp_region ?_; refine zAr ?_; refine zMv ?_; refine zN ?_
      rw [hd, sizeL_cons] at hI
      refine ⟨k + 1, n + sizeT x, ⟨by omega, by omega⟩, by omega, wk zSub zKeep⟩
    · have hge : t.inner.length ≤ k := by have := of_decide_eq_false hc; omega
      rw [drop_nil hge] at hI; simp only [sizeL] at hI
      refine awp_exit ?_; refine seqQ_x ?_; refine seqQ_x ?_; refine blockQ_x rfl ?_; refine seqQ_n ?_; refine zS ?_; refine zMv ?_; refine zAs ?_; refine zN ?_; refine awp_ret ?_
      refine post_is (.tmp rfl .nil) .nil ?_
      simp only [resD]; rw [← hI]; rfl
theorem size_con (m : Nat) (hm : m ≤ 1000000000) : ∀ (t : Trust), sizeT t ≤ m → Con none Tryz.prog 190 [av t] [] (Is (.i (sizeT t)) []) := by
  have hcap : capB = 140737488355328 := rfl
  intro t
  induction t using Trust.ind with
  | _ t ih =>
    intro hsz
    have hl1 : (t.nodes.map D.i).length = t.nodes.length := by simp
    have hl2 := avs_len t.inner
    have hs0 : sizeT t = t.nodes.length + t.inner.length + sizeL t.inner := rfl
    refine con_intro Tryz.func190 rfl Tryz.call190 rfl ?_
    refine zS ?_
    refine aops_box rfl zFlat rfl rfl (fun b1 => ?_)
    refine zAs ?_; refine zN (zS ?_); refine zF 1 1 false ?_; refine zL1 ?_
    first | refine aops_len rfl rfl rfl rfl (fun _ => ?_) | refine zP (ap_len_arr rfl zUpd rfl) ?_ | refine zP (ap_len_nil rfl rfl) ?_
    refine zF 2 1 false ?_; refine zL1 ?_
    first | refine aops_len rfl rfl rfl rfl (fun _ => ?_) | refine zP (ap_len_arr rfl zUpd rfl) ?_ | refine zP (ap_len_nil rfl rfl) ?_
    refine zAr ?_; refine zAs ?_; refine zN ?_; refine awp_seq ?_; refine zS ?_; refine zF 2 1 false ?_; refine zL1 ?_
    first | refine aops_len rfl rfl rfl rfl (fun _ => ?_) | refine zP (ap_len_arr rfl zUpd rfl) ?_ | refine zP (ap_len_nil rfl rfl) ?_
    refine zMv ?_; refine zN ?_; refine awp_block ?_
    refine awp_loop2 [14, 15] [] (fun (k : Nat) (n : Nat) r => (3, .i (n : Int)) :: (16, .i (k : Int)) :: r) (fun (k : Nat) (n : Nat) r => r) (fun (k : Nat) (n : Nat) => k ≤ t.inner.length ∧ n + sizeL (t.inner.drop k) = sizeT t) (fun (k : Nat) (n : Nat) => t.inner.length - k) (0) (t.nodes.length + t.inner.length) zRc ⟨by omega, by simp; omega⟩ (by rw [← hl1, ← hl2]; exact wk zSub zKeep) ?_
    intro k n ⟨hk, hI⟩
    refine zS ?_; refine zCm ?_; refine zN ?_; refine awp_seq ?_
    refine zC (fun hc => ?_) fun hc => ?_
    · have hlt : k < t.inner.length := by have := of_decide_eq_true hc; omega
      obtain ⟨x, hx, hd⟩ := drop_cons hlt
      have hx' := avs_get hx
      have hxm := List.mem_of_getElem? hx
      refine awp_skip ?_; refine seqQ_n ?_; refine awp_seq ?_; refine awp_block ?_; refine zS ?_
      first | refine zP (ap_index rfl rfl rfl rfl (by decide) rfl zAss) ?_ | refine zP (ap_index rfl rfl rfl rfl (by decide) (by omega) zAss) ?_ | refine zP (ap_index_own rfl rfl rfl rfl rfl (by first | omega | (simp only [List.length_map, List.length_set, avs_len]; omega))) ?_
      refine zLd ?_
      refine aops_alloc rfl zRc rfl rfl (fun b5 => ?_)
      refine zSt ?_; refine zN ?_; refine awp_region ?_; refine zMv ?_; refine zLd ?_
      refine aops_call_v zRc (ih _ hxm (by have := sizeL_mem hxm; omega)) rfl rfl ?_
      (have hq := hI; rw [hd, sizeL_cons] at hq; refine zAr ?_)
      refine zAs ?_; refine aops_nil ?_; refine blockQ_n ?_; refine seqQ_n ?_; refine awp_region ?_; refine zAr ?_; refine zMv ?_; refine zN ?_
      rw [hd, sizeL_cons] at hI
      refine ⟨k + 1, n + sizeT x, ⟨by omega, by omega⟩, by omega, wk zSub zKeep⟩
    · have hge : t.inner.length ≤ k := by have := of_decide_eq_false hc; omega
      rw [drop_nil hge] at hI; simp only [sizeL] at hI
      refine awp_exit ?_; refine seqQ_x ?_; refine seqQ_x ?_; refine blockQ_x rfl ?_; refine seqQ_n ?_; refine zS ?_; refine zMv ?_; refine zAs ?_; refine zN ?_; refine awp_ret ?_
      refine post_is (.tmp rfl .nil) .nil ?_
      simp only [resD]; rw [← hI]; rfl
theorem rdepth_con (m : Nat) (hm : m ≤ 1000000000) : ∀ (t : Trust), sizeT t ≤ m → Con none Tryz.prog 134 [av t] [] (Is (.i (depthT t)) []) := by
  have hcap : capB = 140737488355328 := rfl
  intro t
  induction t using Trust.ind with
  | _ t ih =>
    intro hsz
    have hl2 := avs_len t.inner
    have hs0 : sizeT t = t.nodes.length + t.inner.length + sizeL t.inner := rfl
    have hdd := depth_le_size t
    have hd0 : depthT t = depthL t.inner + 1 := rfl
    refine con_intro Tryz.func134 rfl Tryz.call134 rfl ?_
    refine zS ?_
    refine aops_box rfl zFlat rfl rfl (fun b1 => ?_)
    refine zAs ?_; refine zN (zS ?_); refine zAs ?_; refine zN ?_; refine awp_seq ?_; refine zS ?_; refine zF 2 1 false ?_; refine zL1 ?_
    first | refine aops_len rfl rfl rfl rfl (fun _ => ?_) | refine zP (ap_len_arr rfl zUpd rfl) ?_ | refine zP (ap_len_nil rfl rfl) ?_
    refine zMv ?_; refine zN ?_; refine awp_block ?_
    refine awp_loop2 [7, 8] [] (fun (k : Nat) (n : Nat) r => (3, .i (n : Int)) :: (9, .i (k : Int)) :: r) (fun (k : Nat) (n : Nat) r => r) (fun (k : Nat) (n : Nat) => k ≤ t.inner.length ∧ max n (depthL (t.inner.drop k)) = depthL t.inner) (fun (k : Nat) (n : Nat) => t.inner.length - k) (0) (0) zRc ⟨by omega, by simp⟩ (wk zSub zKeep) ?_
    intro k n ⟨hk, hI⟩
    refine zS ?_; refine zCm ?_; refine zN ?_; refine awp_seq ?_
    refine zC (fun hc => ?_) fun hc => ?_
    · have hlt : k < t.inner.length := by have := of_decide_eq_true hc; omega
      obtain ⟨x, hx, hd⟩ := drop_cons hlt
      have hx' := avs_get hx
      have hxm := List.mem_of_getElem? hx
      refine awp_skip ?_; refine seqQ_n ?_; refine awp_seq ?_; refine awp_block ?_; refine zS ?_
      first | refine zP (ap_index rfl rfl rfl rfl (by decide) rfl zAss) ?_ | refine zP (ap_index rfl rfl rfl rfl (by decide) (by omega) zAss) ?_ | refine zP (ap_index_own rfl rfl rfl rfl rfl (by first | omega | (simp only [List.length_map, List.length_set, avs_len]; omega))) ?_
      refine zLd ?_
      refine aops_alloc rfl zRc rfl rfl (fun b5 => ?_)
      refine zSt ?_; refine zN ?_; refine awp_region ?_; refine zMv ?_; refine zLd ?_
      refine aops_call_v zRc (ih _ hxm (by have := sizeL_mem hxm; omega)) rfl rfl ?_
      refine zP (ap_max rfl rfl) ?_
      refine zAs ?_; refine aops_nil ?_; refine blockQ_n ?_; refine seqQ_n ?_; refine awp_region ?_; refine zAr ?_; refine zMv ?_; refine zN ?_
      rw [hd, depthL_cons] at hI
      have hmx : max (n : Int) (depthT x) = ((max n (depthT x) : Nat) : Int) := by omega
      rw [hmx]
      refine ⟨k + 1, max n (depthT x), ⟨by omega, by omega⟩, by omega, wk zSub zKeep⟩
    · have hge : t.inner.length ≤ k := by have := of_decide_eq_false hc; omega
      rw [drop_nil hge] at hI; simp only [depthL] at hI
      refine awp_exit ?_; refine seqQ_x ?_; refine seqQ_x ?_; refine blockQ_x rfl ?_; refine seqQ_n ?_; refine zS ?_; refine zMv ?_; refine zAr ?_; refine zAs ?_; refine zN ?_; refine awp_ret ?_
      refine post_is (.tmp rfl .nil) .nil ?_
      simp only [resD]; rw [hd0, ← hI]; simp
theorem depth_con (m : Nat) (hm : m ≤ 1000000000) : ∀ (t : Trust), sizeT t ≤ m → Con none Tryz.prog 189 [av t] [] (Is (.i (depthT t)) []) := by
  have hcap : capB = 140737488355328 := rfl
  intro t
  induction t using Trust.ind with
  | _ t ih =>
    intro hsz
    have hl2 := avs_len t.inner
    have hs0 : sizeT t = t.nodes.length + t.inner.length + sizeL t.inner := rfl
    have hdd := depth_le_size t
    have hd0 : depthT t = depthL t.inner + 1 := rfl
    refine con_intro Tryz.func189 rfl Tryz.call189 rfl ?_
    refine zS ?_
    refine aops_box rfl zFlat rfl rfl (fun b1 => ?_)
    refine zAs ?_; refine zN (zS ?_); refine zAs ?_; refine zN ?_; refine awp_seq ?_; refine zS ?_; refine zF 2 1 false ?_; refine zL1 ?_
    first | refine aops_len rfl rfl rfl rfl (fun _ => ?_) | refine zP (ap_len_arr rfl zUpd rfl) ?_ | refine zP (ap_len_nil rfl rfl) ?_
    refine zMv ?_; refine zN ?_; refine awp_block ?_
    refine awp_loop2 [7, 8] [] (fun (k : Nat) (n : Nat) r => (3, .i (n : Int)) :: (9, .i (k : Int)) :: r) (fun (k : Nat) (n : Nat) r => r) (fun (k : Nat) (n : Nat) => k ≤ t.inner.length ∧ max n (depthL (t.inner.drop k)) = depthL t.inner) (fun (k : Nat) (n : Nat) => t.inner.length - k) (0) (0) zRc ⟨by omega, by simp⟩ (wk zSub zKeep) ?_
    intro k n ⟨hk, hI⟩
    refine zS ?_; refine zCm ?_; refine zN ?_; refine awp_seq ?_
    refine zC (fun hc => ?_) fun hc => ?_
    · have hlt : k < t.inner.length := by have := of_decide_eq_true hc; omega
      obtain ⟨x, hx, hd⟩ := drop_cons hlt
      have hx' := avs_get hx
      have hxm := List.mem_of_getElem? hx
      refine awp_skip ?_; refine seqQ_n ?_; refine awp_seq ?_; refine awp_block ?_; refine zS ?_
      first | refine zP (ap_index rfl rfl rfl rfl (by decide) rfl zAss) ?_ | refine zP (ap_index rfl rfl rfl rfl (by decide) (by omega) zAss) ?_ | refine zP (ap_index_own rfl rfl rfl rfl rfl (by first | omega | (simp only [List.length_map, List.length_set, avs_len]; omega))) ?_
      refine zLd ?_
      refine aops_alloc rfl zRc rfl rfl (fun b5 => ?_)
      refine zSt ?_; refine zN ?_; refine awp_region ?_; refine zMv ?_; refine zLd ?_
      refine aops_call_v zRc (ih _ hxm (by have := sizeL_mem hxm; omega)) rfl rfl ?_
      refine zP (ap_max rfl rfl) ?_
      refine zAs ?_; refine aops_nil ?_; refine blockQ_n ?_; refine seqQ_n ?_; refine awp_region ?_; refine zAr ?_; refine zMv ?_; refine zN ?_
      rw [hd, depthL_cons] at hI
      have hmx : max (n : Int) (depthT x) = ((max n (depthT x) : Nat) : Int) := by omega
      rw [hmx]
      refine ⟨k + 1, max n (depthT x), ⟨by omega, by omega⟩, by omega, wk zSub zKeep⟩
    · have hge : t.inner.length ≤ k := by have := of_decide_eq_false hc; omega
      rw [drop_nil hge] at hI; simp only [depthL] at hI
      refine awp_exit ?_; refine seqQ_x ?_; refine seqQ_x ?_; refine blockQ_x rfl ?_; refine seqQ_n ?_; refine zS ?_; refine zMv ?_; refine zAr ?_; refine zAs ?_; refine zN ?_; refine awp_ret ?_
      refine post_is (.tmp rfl .nil) .nil ?_
      simp only [resD]; rw [hd0, ← hI]; simp
theorem badN_f {x : Int} (h1 : decide (x < 0) = false) (h2 : decide (10 ≤ x) = false) : ∃ q : Nat, x = q ∧ q < 10 := by
  have h3 := of_decide_eq_false h1
  have h4 := of_decide_eq_false h2
  obtain ⟨q, rfl⟩ := Int.eq_ofNat_of_zero_le (show 0 ≤ x by omega)
  exact ⟨q, rfl, by omega⟩
theorem or_lt10 {s q : Nat} (h : s < 1024) (hq : q < 10) : s ||| 1 * 2 ^ q < 1024 := by
  rw [Nat.one_mul]
  exact Nat.or_lt_two_pow (n := 10) h (Nat.pow_lt_pow_right (by omega) hq)
theorem rof_con (l : List Int) : Con none Tryz.prog 164 [.sl 1 (l.map .i)] [] (Is (.tup [.i (ofGo 0 l).1, .i (ofGo 0 l).2]) []) := by
  have hcap : capB = 140737488355328 := rfl
  have hl1 : (l.map D.i).length = l.length := by simp
  refine con_intro Tryz.func164 rfl Tryz.call164 rfl ?_
  refine zS ?_; refine zAs ?_; refine zAs ?_; refine zN (zS ?_); refine zAs ?_; refine zN ?_; refine awp_seq ?_; refine zS ?_; refine zMv ?_
  first | refine aops_len rfl rfl rfl rfl (fun _ => ?_) | refine zP (ap_len_arr rfl zUpd rfl) ?_ | refine zP (ap_len_nil rfl rfl) ?_
  refine zMv ?_; refine zN ?_; refine awp_block ?_
  refine awp_loop2 [7, 8] [] (fun (k : Nat) (s : Nat) r => (4, .i (s : Int)) :: (9, .i (k : Int)) :: r) (fun (k : Nat) (s : Nat) r => r) (fun (k : Nat) (s : Nat) => k ≤ l.length ∧ s < 1024 ∧ ofGo s (l.drop k) = ofGo 0 l) (fun (k : Nat) (s : Nat) => l.length - k) (0) (0) zRc ⟨by omega, by omega, by simp⟩ (wk zSub zKeep) ?_
  intro k s ⟨hk, hs, hI⟩
  refine zS ?_; refine zCm ?_; refine zN ?_; refine awp_seq ?_
  refine zC (fun hc => ?_) fun hc => ?_
  · have hlt : k < l.length := by have := of_decide_eq_true hc; omega
    obtain ⟨x, hx, hd⟩ := drop_cons hlt
    have hx' := getMap D.i hx
    refine awp_skip ?_; refine seqQ_n ?_; refine awp_seq ?_; refine awp_block ?_; refine zS ?_
    first | refine zP (ap_index rfl rfl rfl rfl (by decide) rfl zAss) ?_ | refine zP (ap_index rfl rfl rfl rfl (by decide) (by omega) zAss) ?_ | refine zP (ap_index_own rfl rfl rfl rfl rfl (by first | omega | (simp only [List.length_map, List.length_set, avs_len]; omega))) ?_
    refine zL1 ?_; refine zAs ?_; refine zN ?_; refine awp_seq ?_; refine zS ?_; refine zMv ?_; refine zCm ?_; refine zMv ?_
    all_goals first | (refine zY ?_; refine zMv ?_) | refine zU ?_ | refine zNf ?_ | (refine zGf (fun hg => ?_) fun hg => ?_; case' _ => refine zMv ?_)
    all_goals first | (refine zY ?_; refine zCm ?_) | refine zU ?_ | refine zNf ?_ | (refine zGf (fun hg => ?_) fun hg => ?_; case' _ => refine zCm ?_)
    all_goals refine zPk ?_
    all_goals (
      refine zN ?_
      refine zC (fun hc => ?_) fun hc => ?_
      · first
        | (exact absurd hc (by decide))
        | (refine awp_seq ?_
           refine awp_region ?_; refine zAs ?_; refine zAs ?_; refine zN ?_; refine awp_ret ?_; refine seqQ_r ?_; refine blockQ_r ?_; refine seqQ_r ?_; refine seqQ_r ?_; refine blockQ_r ?_; refine seqQ_r ?_
           refine post_is (.tmp rfl (.tmp rfl .nil)) .nil ?_
           rw [hd, ofGo, if_pos (by first | (have := of_decide_eq_true hg; omega) | (have := of_decide_eq_true hc; omega))] at hI
           rw [← hI]; rfl
          )
      · first
        | (exact absurd hc (by decide))
        | (have hc2 := hc
           refine awp_skip ?_; refine seqQ_n ?_; refine awp_seq ?_; refine zS ?_; refine zMv ?_; refine zMv ?_
           refine aops_call_v zRc (rhas_con _ _) rfl rfl ?_
           refine zN ?_
           refine zC (fun hc => ?_) fun hc => ?_
           · refine awp_seq ?_
             refine awp_region ?_; refine zAs ?_; refine zAs ?_; refine zN ?_; refine awp_ret ?_; refine seqQ_r ?_; refine blockQ_r ?_; refine seqQ_r ?_; refine seqQ_r ?_; refine blockQ_r ?_; refine seqQ_r ?_
             refine post_is (.tmp rfl (.tmp rfl .nil)) .nil ?_
             have h3 := of_decide_eq_false hg
             have h4 := of_decide_eq_false hc2
             rw [hd, ofGo, if_neg (by omega), if_pos hc] at hI
             rw [← hI]; rfl
           · refine awp_skip ?_
             refine seqQ_n ?_
             obtain ⟨q, rfl, hq⟩ := badN_f hg hc2
             have hp2 := pow_lt10 hq
             refine awp_region ?_; refine zMv ?_; refine zMv ?_
             refine zP (ap_shl (p := 1) rfl rfl rfl (by omega) (by omega)) ?_
             refine zP (ap_bits rfl rfl rfl (by omega) (by omega)) ?_
             refine zAs ?_; refine aops_nil ?_; refine blockQ_n ?_; refine seqQ_n ?_; refine awp_region ?_; refine zAr ?_; refine zMv ?_; refine zN ?_
             rw [hd, ofGo, if_neg (by omega), if_neg (by simp [hc])] at hI
             refine ⟨k + 1, s ||| 1 * 2 ^ q, ⟨by omega, or_lt10 hs hq, ?_⟩, by omega, wk zSub zKeep⟩
             simpa using hI
          )
      )
  · have hge : l.length ≤ k := by have := of_decide_eq_false hc; omega
    rw [drop_nil hge] at hI; simp only [ofGo] at hI
    refine awp_exit ?_; refine seqQ_x ?_; refine seqQ_x ?_; refine blockQ_x rfl ?_; refine seqQ_n ?_; refine zS ?_; refine zMv ?_; refine zAs ?_; refine zAs ?_; refine zN ?_; refine awp_ret ?_
    refine post_is (.tmp rfl (.tmp rfl .nil)) .nil ?_
    rw [← hI]; rfl
theorem any_of_get {l : List Int} {k : Nat} {x : Int} (h : l[k]? = some x) (hx : badN x = true) : l.any badN = true :=
  List.any_eq_true.2 ⟨x, List.mem_of_getElem? h, hx⟩
theorem any_drop_f {x : Int} {r : List Int} (h1 : decide (x < 0) = false) (h2 : decide (10 ≤ x) = false) : (x :: r).any badN = r.any badN := by
  simp [badN, h1, h2]
theorem rcheck_con : ∀ (t : Trust), Con none Tryz.prog 136 [av t] [] (Is (.i (checkT t)) []) := by
  have hcap : capB = 140737488355328 := rfl
  intro t
  induction t using Trust.ind with
  | _ t ih =>
    have hl1 : (t.nodes.map D.i).length = t.nodes.length := by simp
    have hl2 := avs_len t.inner
    refine con_intro Tryz.func136 rfl Tryz.call136 rfl ?_
    refine zS ?_
    refine aops_box rfl zFlat rfl rfl (fun b1 => ?_)
    refine zAs ?_; refine zN ?_; refine awp_seq ?_; refine zS ?_; refine zF 0 1 false ?_; refine zL1 ?_; refine zCm ?_; refine zMv ?_
    all_goals first | (refine zY ?_; refine zF 0 1 false ?_) | refine zU ?_ | refine zNf ?_ | (refine zGf (fun hg => ?_) fun hg => ?_; case' _ => refine zF 0 1 false ?_)
    all_goals first | (refine zY ?_; refine zL1 ?_) | refine zU ?_ | refine zNf ?_ | (refine zGf (fun hg => ?_) fun hg => ?_; case' _ => refine zL1 ?_)
    all_goals first | (refine zY ?_; refine zF 1 1 false ?_) | refine zU ?_ | refine zNf ?_ | (refine zGf (fun hg => ?_) fun hg => ?_; case' _ => refine zF 1 1 false ?_)
    all_goals first | (refine zY ?_; refine zL1 ?_) | refine zU ?_ | refine zNf ?_ | (refine zGf (fun hg => ?_) fun hg => ?_; case' _ => refine zL1 ?_)
    all_goals first | (refine zY ?_; (first | refine aops_len rfl rfl rfl rfl (fun _ => ?_) | refine zP (ap_len_arr rfl zUpd rfl) ?_ | refine zP (ap_len_nil rfl rfl) ?_)) | refine zU ?_ | refine zNf ?_ | (refine zGf (fun hg => ?_) fun hg => ?_; case' _ => (first | refine aops_len rfl rfl rfl rfl (fun _ => ?_) | refine zP (ap_len_arr rfl zUpd rfl) ?_ | refine zP (ap_len_nil rfl rfl) ?_))
    all_goals first | (refine zY ?_; refine zF 2 1 false ?_) | refine zU ?_ | refine zNf ?_ | (refine zGf (fun hg => ?_) fun hg => ?_; case' _ => refine zF 2 1 false ?_)
    all_goals first | (refine zY ?_; refine zL1 ?_) | refine zU ?_ | refine zNf ?_ | (refine zGf (fun hg => ?_) fun hg => ?_; case' _ => refine zL1 ?_)
    all_goals first | (refine zY ?_; (first | refine aops_len rfl rfl rfl rfl (fun _ => ?_) | refine zP (ap_len_arr rfl zUpd rfl) ?_ | refine zP (ap_len_nil rfl rfl) ?_)) | refine zU ?_ | refine zNf ?_ | (refine zGf (fun hg => ?_) fun hg => ?_; case' _ => (first | refine aops_len rfl rfl rfl rfl (fun _ => ?_) | refine zP (ap_len_arr rfl zUpd rfl) ?_ | refine zP (ap_len_nil rfl rfl) ?_))
    all_goals first | (refine zY ?_; refine zAr ?_) | refine zU ?_ | refine zNf ?_ | (refine zGf (fun hg => ?_) fun hg => ?_; case' _ => refine zAr ?_)
    all_goals first | (refine zY ?_; refine zCm ?_) | refine zU ?_ | refine zNf ?_ | (refine zGf (fun hg => ?_) fun hg => ?_; case' _ => refine zCm ?_)
    all_goals refine zPk ?_
    all_goals (
      refine zN ?_
      refine zC (fun hc => ?_) fun hc => ?_
      · first
        | (exact absurd hc (by decide))
        | (refine awp_seq ?_
           refine awp_region ?_; refine zAs ?_; refine zN ?_; refine awp_ret ?_; refine seqQ_r ?_
           refine post_is (.tmp rfl .nil) .nil ?_
           simp only [resD, checkT]; rw [if_pos (by first | (have := of_decide_eq_true hg; omega) | (have := of_decide_eq_true hc; omega))]
          )
      · first
        | (exact absurd hc (by decide))
        | (have hth : ¬ (t.th < 1 ∨ (t.nodes.length + t.inner.length : Int) < t.th) := by have h1 := of_decide_eq_false hg; have h2 := of_decide_eq_false hc; omega
           refine awp_skip ?_; refine seqQ_n ?_; refine awp_seq ?_; refine zS ?_; refine zF 1 1 false ?_; refine zL1 ?_
           first | refine aops_len rfl rfl rfl rfl (fun _ => ?_) | refine zP (ap_len_arr rfl zUpd rfl) ?_ | refine zP (ap_len_nil rfl rfl) ?_
           refine zMv ?_; refine zN ?_; refine awp_block ?_
           refine awp_loop1 [1, 26, 27] [.box b1 _ _] (fun (k : Nat) r => (28, .i (k : Int)) :: r) (fun (k : Nat) r => r) (fun (k : Nat) => k ≤ t.nodes.length ∧ (t.nodes.drop k).any badN = t.nodes.any badN) (fun (k : Nat) => t.nodes.length - k) (0) zRc ⟨by omega, by simp⟩ (wk zSub zKeep) ?_
           intro k ⟨hk, hI⟩
           refine zS ?_; refine zCm ?_; refine zN ?_; refine awp_seq ?_
           refine zC (fun hc => ?_) fun hc => ?_
           · have hlt : k < t.nodes.length := by have := of_decide_eq_true hc; omega
             obtain ⟨x, hx, hd⟩ := drop_cons hlt
             have hx' := getMap D.i hx
             refine awp_skip ?_; refine seqQ_n ?_; refine awp_seq ?_; refine awp_block ?_; refine zS ?_
             first | refine zP (ap_index rfl rfl rfl rfl (by decide) rfl zAss) ?_ | refine zP (ap_index rfl rfl rfl rfl (by decide) (by omega) zAss) ?_ | refine zP (ap_index_own rfl rfl rfl rfl rfl (by first | omega | (simp only [List.length_map, List.length_set, avs_len]; omega))) ?_
             refine zL1 ?_; refine zAs ?_; refine zN (zS ?_); refine zMv ?_; refine zCm ?_; refine zMv ?_
             all_goals first | (refine zY ?_; refine zMv ?_) | refine zU ?_ | refine zNf ?_ | (refine zGf (fun hg => ?_) fun hg => ?_; case' _ => refine zMv ?_)
             all_goals first | (refine zY ?_; refine zCm ?_) | refine zU ?_ | refine zNf ?_ | (refine zGf (fun hg => ?_) fun hg => ?_; case' _ => refine zCm ?_)
             all_goals refine zPk ?_
             all_goals (
               refine zN ?_
               refine zC (fun hc => ?_) fun hc => ?_
               · first
                 | (exact absurd hc (by decide))
                 | (refine awp_seq ?_
                    refine awp_region ?_; refine zAs ?_; refine zN ?_; refine awp_ret ?_; refine blockQ_r ?_; refine seqQ_r ?_; refine seqQ_r ?_; refine blockQ_r ?_; refine seqQ_r ?_
                    refine post_is (.tmp rfl .nil) .nil ?_
                    simp only [resD, checkT]; rw [if_neg hth, if_pos (any_of_get hx (by first | (simp only [badN, hg]; rfl) | (simp only [badN, hc, Bool.or_true])))]
                   )
               · first
                 | (exact absurd hc (by decide))
                 | (have hc2 := hc
                    refine awp_skip ?_; refine blockQ_n ?_; refine seqQ_n ?_; refine awp_region ?_; refine zAr ?_; refine zMv ?_; refine zN ?_
                    rw [hd, any_drop_f hg hc2] at hI
                    refine ⟨k + 1, ⟨by omega, hI⟩, by omega, wk zSub zKeep⟩
                   )
               )
           · have hge : t.nodes.length ≤ k := by have := of_decide_eq_false hc; omega
             rw [drop_nil hge] at hI; simp only [List.any_nil] at hI
             have hany : t.nodes.any badN = false := hI.symm
             refine awp_exit ?_; refine seqQ_x ?_; refine seqQ_x ?_; refine blockQ_x rfl ?_; refine seqQ_n ?_; refine awp_seq ?_; refine zS ?_; refine zF 1 1 false ?_; refine zL1 ?_
             refine aops_call_v zRc (rof_con _) rfl rfl ?_
             refine zMv ?_
             refine zP (ap_extract rfl rfl) ?_
             refine zP (ap_extract rfl rfl) ?_
             refine zAs ?_; refine zAs ?_; refine zN (zS ?_); refine zMv ?_; refine zCm ?_; refine zN ?_
             refine zC (fun hc => ?_) fun hc => ?_
             · have he := hc
               refine zS ?_; refine zMv ?_; refine zAs ?_; refine zN ?_; refine awp_ret ?_; refine seqQ_r ?_
               refine post_is (.tmp rfl .nil) .nil ?_
               simp only [resD, checkT]; rw [if_neg hth, if_neg (by rw [hany]; simp), if_pos (by simpa using he)]
             · have he := hc
               refine awp_skip ?_; refine seqQ_n ?_; refine awp_seq ?_; refine zS ?_; refine zF 2 1 false ?_; refine zL1 ?_
               first | refine aops_len rfl rfl rfl rfl (fun _ => ?_) | refine zP (ap_len_arr rfl zUpd rfl) ?_ | refine zP (ap_len_nil rfl rfl) ?_
               refine zMv ?_; refine zN ?_; refine awp_block ?_
               refine awp_loop1 [49, 50] [] (fun (k : Nat) r => (51, .i (k : Int)) :: r) (fun (k : Nat) r => r) (fun (k : Nat) => k ≤ t.inner.length ∧ checkL (t.inner.drop k) = checkL t.inner) (fun (k : Nat) => t.inner.length - k) (0) zRc ⟨by omega, by simp⟩ (wk zSub zKeep) ?_
               intro k ⟨hk, hI⟩
               refine zS ?_; refine zCm ?_; refine zN ?_; refine awp_seq ?_
               refine zC (fun hc => ?_) fun hc => ?_
               · have hlt : k < t.inner.length := by have := of_decide_eq_true hc; omega
                 obtain ⟨x, hx, hd⟩ := drop_cons hlt
                 have hx' := avs_get hx
                 have hxm := List.mem_of_getElem? hx
                 refine awp_skip ?_; refine seqQ_n ?_; refine awp_seq ?_; refine awp_block ?_; refine zS ?_
                 first | refine zP (ap_index rfl rfl rfl rfl (by decide) rfl zAss) ?_ | refine zP (ap_index rfl rfl rfl rfl (by decide) (by omega) zAss) ?_ | refine zP (ap_index_own rfl rfl rfl rfl rfl (by first | omega | (simp only [List.length_map, List.length_set, avs_len]; omega))) ?_
                 refine zLd ?_
                 refine aops_alloc rfl zRc rfl rfl (fun b8 => ?_)
                 refine zSt ?_; refine zN (zS ?_); refine zLd ?_
                 refine aops_call_v zRc (ih _ hxm) rfl rfl ?_
                 refine zAs ?_; refine zN (zS ?_); refine zMv ?_; refine zCm ?_; refine zN ?_
                 refine zC (fun hc => ?_) fun hc => ?_
                 · refine awp_seq ?_
                   refine awp_region ?_; refine zMv ?_; refine zAs ?_; refine zN ?_; refine awp_ret ?_; refine blockQ_r ?_; refine seqQ_r ?_; refine seqQ_r ?_; refine blockQ_r ?_; refine seqQ_r ?_
                   refine post_is (.tmp rfl .nil) .nil ?_
                   rw [hd, checkL_cons, if_pos (by simpa using hc)] at hI
                   have e : checkT t = checkL t.inner := by unfold checkT; rw [if_neg hth, if_neg (by rw [hany]; simp), if_neg (by simpa using he)]
                   simp only [resD]; rw [e, ← hI]
                 · refine awp_skip ?_
                   refine blockQ_n ?_; refine seqQ_n ?_; refine awp_region ?_; refine zAr ?_; refine zMv ?_; refine zN ?_
                   have hz := of_decide_eq_true (Bool.not_eq_false' .. ▸ hc)
                   rw [hd, checkL_cons, if_neg (by simpa using hz)] at hI
                   refine ⟨k + 1, ⟨by omega, hI⟩, by omega, wk zSub zKeep⟩
               · have hge : t.inner.length ≤ k := by have := of_decide_eq_false hc; omega
                 rw [drop_nil hge] at hI; simp only [checkL] at hI
                 refine awp_exit ?_; refine seqQ_x ?_; refine seqQ_x ?_; refine blockQ_x rfl ?_; refine seqQ_n ?_; refine zS ?_; refine zAs ?_; refine zN ?_; refine awp_ret ?_
                 refine post_is (.tmp rfl .nil) .nil ?_
                 have e : checkT t = checkL t.inner := by unfold checkT; rw [if_neg hth, if_neg (by rw [hany]; simp), if_neg (by simpa using he)]
                 simp only [resD]; rw [e, ← hI]
          )
      )
theorem rvalidT_con (t : Trust) (ht : sizeT t ≤ 1000000000) : Con none Tryz.prog 97 [av t] [] (Is (.i (validT t)) []) := by
  have hcap : capB = 140737488355328 := rfl
  refine con_intro Tryz.func97 rfl Tryz.call97 rfl ?_
  refine zS ?_
  refine aops_box rfl zFlat rfl rfl (fun b1 => ?_)
  refine zAs ?_; refine zN ?_; refine awp_seq ?_; refine zS ?_; refine zLd ?_
  refine aops_call_v zRc (rdepth_con 1000000000 (by omega) t ht) rfl rfl ?_
  refine zCm ?_; refine zMv ?_
  all_goals first | (refine zY ?_; refine zLd ?_) | refine zU ?_ | refine zNf ?_ | (refine zGf (fun hg => ?_) fun hg => ?_; case' _ => refine zLd ?_)
  all_goals first | (refine zY ?_; refine aops_call_v zRc (rsize_con 1000000000 (by omega) t ht) rfl rfl ?_) | refine zU ?_ | refine zNf ?_ | (refine zGf (fun hg => ?_) fun hg => ?_; case' _ => refine aops_call_v zRc (rsize_con 1000000000 (by omega) t ht) rfl rfl ?_)
  all_goals first | (refine zY ?_; refine zCm ?_) | refine zU ?_ | refine zNf ?_ | (refine zGf (fun hg => ?_) fun hg => ?_; case' _ => refine zCm ?_)
  all_goals refine zPk ?_
  all_goals (
    refine zN ?_
    refine zC (fun hc => ?_) fun hc => ?_
    · first
      | (exact absurd hc (by decide))
      | (refine awp_seq ?_
         refine awp_region ?_; refine zAs ?_; refine zN ?_; refine awp_ret ?_; refine seqQ_r ?_
         refine post_is (.tmp rfl .nil) .nil ?_
         simp only [resD, validT]; rw [if_pos (by first | (have := of_decide_eq_true hg; omega) | (have := of_decide_eq_true hc; omega))]
        )
    · first
      | (exact absurd hc (by decide))
      | (refine awp_skip ?_
         refine seqQ_n ?_; refine zS ?_; refine zLd ?_
         refine aops_call_v zRc (rcheck_con t) rfl rfl ?_
         refine zAs ?_; refine zN ?_; refine awp_ret ?_
         refine post_is (.tmp rfl .nil) .nil ?_
         simp only [resD, validT]; rw [if_neg (by have h1 := of_decide_eq_false hg; have h2 := of_decide_eq_false hc; omega)]
        )
    )
theorem node_con (k : Int) : Con none Tryz.prog 192 [.i k] [] (Is (.b (nd k)) []) := by
  have hcap : capB = 140737488355328 := rfl
  refine con_intro Tryz.func192 rfl Tryz.call192 rfl ?_
  refine zS ?_; refine zAs ?_; refine zN (zS ?_); refine zMv ?_; refine zCm ?_; refine zMv ?_
  all_goals first | (refine zY ?_; refine zMv ?_) | refine zU ?_ | refine zNt ?_ | (refine zGt (fun hg => ?_) fun hg => ?_; case' _ => refine zMv ?_)
  all_goals first | (refine zY ?_; refine zCm ?_) | refine zU ?_ | refine zNt ?_ | (refine zGt (fun hg => ?_) fun hg => ?_; case' _ => refine zCm ?_)
  all_goals refine zPk ?_
  all_goals refine zAs ?_
  all_goals (
    refine zN ?_; refine awp_ret ?_
    refine post_is (.tmp rfl .nil) .nil ?_
    first | (simp_all [resD, nd]; done) | (simp_all [resD, nd]; omega)
    )
theorem uses_con : ∀ (t : Trust), Con none Tryz.prog 152 [av t] [] (Is (.i (uses t : Int)) []) := by
  have hcap : capB = 140737488355328 := rfl
  intro t
  induction t using Trust.ind with
  | _ t ih =>
    have hl1 : (t.nodes.map D.i).length = t.nodes.length := by simp
    have hl2 := avs_len t.inner
    refine con_intro Tryz.func152 rfl Tryz.call152 rfl ?_
    refine zS ?_
    refine aops_box rfl zFlat rfl rfl (fun b1 => ?_)
    refine zAs ?_; refine zN (zS ?_); refine zAs ?_; refine zN ?_; refine awp_seq ?_; refine zS ?_; refine zF 1 1 false ?_; refine zL1 ?_
    first | refine aops_len rfl rfl rfl rfl (fun _ => ?_) | refine zP (ap_len_arr rfl zUpd rfl) ?_ | refine zP (ap_len_nil rfl rfl) ?_
    refine zMv ?_; refine zN ?_; refine awp_block ?_
    refine awp_loop2 [1, 9, 10] [.box b1 _ _] (fun (k : Nat) (s : Nat) r => (3, .i (s : Int)) :: (11, .i (k : Int)) :: r) (fun (k : Nat) (s : Nat) r => r) (fun (k : Nat) (s : Nat) => k ≤ t.nodes.length ∧ s < 1024 ∧ usesN s (t.nodes.drop k) = usesN 0 t.nodes) (fun (k : Nat) (s : Nat) => t.nodes.length - k) (0) (0) zRc ⟨by omega, by omega, by simp⟩ (wk zSub zKeep) ?_
    intro k s ⟨hk, hs, hI⟩
    refine zS ?_; refine zCm ?_; refine zN ?_; refine awp_seq ?_
    refine zC (fun hc => ?_) fun hc => ?_
    · have hlt : k < t.nodes.length := by have := of_decide_eq_true hc; omega
      obtain ⟨x, hx, hd⟩ := drop_cons hlt
      have hx' := getMap D.i hx
      refine awp_skip ?_; refine seqQ_n ?_; refine awp_seq ?_; refine awp_block ?_; refine zS ?_
      first | refine zP (ap_index rfl rfl rfl rfl (by decide) rfl zAss) ?_ | refine zP (ap_index rfl rfl rfl rfl (by decide) (by omega) zAss) ?_ | refine zP (ap_index_own rfl rfl rfl rfl rfl (by first | omega | (simp only [List.length_map, List.length_set, avs_len]; omega))) ?_
      refine zL1 ?_; refine zAs ?_; refine zN (zS ?_); refine zMv ?_
      refine aops_call_v zRc (node_con _) rfl rfl ?_
      refine zN ?_
      refine zC (fun hc => ?_) fun hc => ?_
      · have hx01 : 0 ≤ x ∧ x < 10 := by simpa [nd] using hc
        have hnd : nd x = true := by simp [nd]; omega
        obtain ⟨q, rfl⟩ := Int.eq_ofNat_of_zero_le hx01.1
        have hq : q < 10 := by omega
        have hp2 := pow_lt10 hq
        have hIt := hI
        rw [hd, usesN, if_pos hnd] at hIt
        refine awp_region ?_; refine zMv ?_; refine zMv ?_
        refine zP (ap_shl (p := 1) rfl rfl rfl (by omega) (by omega)) ?_
        refine zP (ap_bits rfl rfl rfl (by omega) (by omega)) ?_
        refine zAs ?_; refine aops_nil ?_; refine blockQ_n ?_; refine seqQ_n ?_; refine awp_region ?_; refine zAr ?_; refine zMv ?_; refine zN ?_
        first
        | (refine ⟨k + 1, s, ⟨by omega, hs, hIf⟩, by omega, wk zSub zKeep⟩)
        | (refine ⟨k + 1, s ||| 1 * 2 ^ q, ⟨by omega, or_lt10 hs hq, by simpa using hIt⟩, by omega, wk zSub zKeep⟩)
      · have hIf := hI
        rw [hd, usesN, if_neg (by first | (unfold nd; simp only [hg, Bool.false_and]; decide) | (unfold nd; simp only [hc, Bool.and_false]; decide) | (simp only [hc]; decide))] at hIf
        refine awp_skip ?_; refine blockQ_n ?_; refine seqQ_n ?_; refine awp_region ?_; refine zAr ?_; refine zMv ?_; refine zN ?_
        first
        | (refine ⟨k + 1, s, ⟨by omega, hs, hIf⟩, by omega, wk zSub zKeep⟩)
        | (refine ⟨k + 1, s ||| 1 * 2 ^ q, ⟨by omega, or_lt10 hs hq, by simpa using hIt⟩, by omega, wk zSub zKeep⟩)
    · have hge : t.nodes.length ≤ k := by have := of_decide_eq_false hc; omega
      rw [drop_nil hge] at hI; simp only [usesN] at hI
      refine awp_exit ?_; refine seqQ_x ?_; refine seqQ_x ?_; refine blockQ_x rfl ?_; refine seqQ_n ?_; refine awp_seq ?_; refine zS ?_; refine zF 2 1 false ?_; refine zL1 ?_
      first | refine aops_len rfl rfl rfl rfl (fun _ => ?_) | refine zP (ap_len_arr rfl zUpd rfl) ?_ | refine zP (ap_len_nil rfl rfl) ?_
      refine zMv ?_; refine zN ?_; refine awp_block ?_
      refine awp_loop2 [23, 24] [] (fun (k : Nat) (s : Nat) r => (3, .i (s : Int)) :: (25, .i (k : Int)) :: r) (fun (k : Nat) (s : Nat) r => r) (fun (k : Nat) (s : Nat) => k ≤ t.inner.length ∧ s < 1024 ∧ usesL s (t.inner.drop k) = uses t) (fun (k : Nat) (s : Nat) => t.inner.length - k) (0) (s) zRc ⟨by omega, hs, by simp [uses, ← hI]⟩ (wk zSub zKeep) ?_
      intro k s ⟨hk, hs, hI⟩
      refine zS ?_; refine zCm ?_; refine zN ?_; refine awp_seq ?_
      refine zC (fun hc => ?_) fun hc => ?_
      · have hlt : k < t.inner.length := by have := of_decide_eq_true hc; omega
        obtain ⟨x, hx, hd⟩ := drop_cons hlt
        have hx' := avs_get hx
        have hxm := List.mem_of_getElem? hx
        have hux := uses_lt x
        refine awp_skip ?_; refine seqQ_n ?_; refine awp_seq ?_; refine awp_block ?_; refine zS ?_
        first | refine zP (ap_index rfl rfl rfl rfl (by decide) rfl zAss) ?_ | refine zP (ap_index rfl rfl rfl rfl (by decide) (by omega) zAss) ?_ | refine zP (ap_index_own rfl rfl rfl rfl rfl (by first | omega | (simp only [List.length_map, List.length_set, avs_len]; omega))) ?_
        refine zLd ?_
        refine aops_alloc rfl zRc rfl rfl (fun b7 => ?_)
        refine zSt ?_; refine zN ?_; refine awp_region ?_; refine zMv ?_; refine zLd ?_
        refine aops_call_v zRc (ih _ hxm) rfl rfl ?_
        refine zP (ap_bits rfl rfl rfl (by omega) (by omega)) ?_
        refine zAs ?_; refine aops_nil ?_; refine blockQ_n ?_; refine seqQ_n ?_; refine awp_region ?_; refine zAr ?_; refine zMv ?_; refine zN ?_
        rw [hd, usesL_cons] at hI
        refine ⟨k + 1, s ||| uses x, ⟨by omega, Nat.or_lt_two_pow (n := 10) hs (uses_lt x), hI⟩, by omega, wk zSub zKeep⟩
      · have hge : t.inner.length ≤ k := by have := of_decide_eq_false hc; omega
        rw [drop_nil hge] at hI; simp only [usesL] at hI
        refine awp_exit ?_; refine seqQ_x ?_; refine seqQ_x ?_; refine blockQ_x rfl ?_; refine seqQ_n ?_; refine zS ?_; refine zMv ?_; refine zAs ?_; refine zN ?_; refine awp_ret ?_
        refine post_is (.tmp rfl .nil) .nil ?_
        rw [hI]; rfl
theorem ruses_con : ∀ (t : Trust), Con none Tryz.prog 98 [av t] [] (Is (.i (uses t : Int)) []) := by
  have hcap : capB = 140737488355328 := rfl
  intro t
  induction t using Trust.ind with
  | _ t ih =>
    have hl1 : (t.nodes.map D.i).length = t.nodes.length := by simp
    have hl2 := avs_len t.inner
    refine con_intro Tryz.func98 rfl Tryz.call98 rfl ?_
    refine zS ?_
    refine aops_box rfl zFlat rfl rfl (fun b1 => ?_)
    refine zAs ?_; refine zN (zS ?_); refine zAs ?_; refine zN ?_; refine awp_seq ?_; refine zS ?_; refine zF 1 1 false ?_; refine zL1 ?_
    first | refine aops_len rfl rfl rfl rfl (fun _ => ?_) | refine zP (ap_len_arr rfl zUpd rfl) ?_ | refine zP (ap_len_nil rfl rfl) ?_
    refine zMv ?_; refine zN ?_; refine awp_block ?_
    refine awp_loop2 [1, 9, 10] [.box b1 _ _] (fun (k : Nat) (s : Nat) r => (3, .i (s : Int)) :: (11, .i (k : Int)) :: r) (fun (k : Nat) (s : Nat) r => r) (fun (k : Nat) (s : Nat) => k ≤ t.nodes.length ∧ s < 1024 ∧ usesN s (t.nodes.drop k) = usesN 0 t.nodes) (fun (k : Nat) (s : Nat) => t.nodes.length - k) (0) (0) zRc ⟨by omega, by omega, by simp⟩ (wk zSub zKeep) ?_
    intro k s ⟨hk, hs, hI⟩
    refine zS ?_; refine zCm ?_; refine zN ?_; refine awp_seq ?_
    refine zC (fun hc => ?_) fun hc => ?_
    · have hlt : k < t.nodes.length := by have := of_decide_eq_true hc; omega
      obtain ⟨x, hx, hd⟩ := drop_cons hlt
      have hx' := getMap D.i hx
      refine awp_skip ?_; refine seqQ_n ?_; refine awp_seq ?_; refine awp_block ?_; refine zS ?_
      first | refine zP (ap_index rfl rfl rfl rfl (by decide) rfl zAss) ?_ | refine zP (ap_index rfl rfl rfl rfl (by decide) (by omega) zAss) ?_ | refine zP (ap_index_own rfl rfl rfl rfl rfl (by first | omega | (simp only [List.length_map, List.length_set, avs_len]; omega))) ?_
      refine zL1 ?_; refine zAs ?_; refine zN (zS ?_); refine zMv ?_; refine zCm ?_; refine zMv ?_
      all_goals first | (refine zY ?_; refine zMv ?_) | refine zU ?_ | refine zNt ?_ | (refine zGt (fun hg => ?_) fun hg => ?_; case' _ => refine zMv ?_)
      all_goals first | (refine zY ?_; refine zCm ?_) | refine zU ?_ | refine zNt ?_ | (refine zGt (fun hg => ?_) fun hg => ?_; case' _ => refine zCm ?_)
      all_goals refine zPk ?_
      all_goals (
        refine zN ?_
        refine zC (fun hc => ?_) fun hc => ?_
        · first
          | (exact absurd hc (by decide))
          | (have hx01 : 0 ≤ x ∧ x < 10 := by have h1 := of_decide_eq_true hc; have h2 := of_decide_eq_true hg; omega
             have hnd : nd x = true := by simp [nd]; omega
             obtain ⟨q, rfl⟩ := Int.eq_ofNat_of_zero_le hx01.1
             have hq : q < 10 := by omega
             have hp2 := pow_lt10 hq
             have hIt := hI
             rw [hd, usesN, if_pos hnd] at hIt
             refine awp_region ?_; refine zMv ?_; refine zMv ?_
             refine zP (ap_shl (p := 1) rfl rfl rfl (by omega) (by omega)) ?_
             refine zP (ap_bits rfl rfl rfl (by omega) (by omega)) ?_
             refine zAs ?_; refine aops_nil ?_; refine blockQ_n ?_; refine seqQ_n ?_; refine awp_region ?_; refine zAr ?_; refine zMv ?_; refine zN ?_
             first
             | (refine ⟨k + 1, s, ⟨by omega, hs, hIf⟩, by omega, wk zSub zKeep⟩)
             | (refine ⟨k + 1, s ||| 1 * 2 ^ q, ⟨by omega, or_lt10 hs hq, by simpa using hIt⟩, by omega, wk zSub zKeep⟩)
            )
        · first
          | (exact absurd hc (by decide))
          | (have hIf := hI
             rw [hd, usesN, if_neg (by first | (unfold nd; simp only [hg, Bool.false_and]; decide) | (unfold nd; simp only [hc, Bool.and_false]; decide) | (simp only [hc]; decide))] at hIf
             refine awp_skip ?_; refine blockQ_n ?_; refine seqQ_n ?_; refine awp_region ?_; refine zAr ?_; refine zMv ?_; refine zN ?_
             first
             | (refine ⟨k + 1, s, ⟨by omega, hs, hIf⟩, by omega, wk zSub zKeep⟩)
             | (refine ⟨k + 1, s ||| 1 * 2 ^ q, ⟨by omega, or_lt10 hs hq, by simpa using hIt⟩, by omega, wk zSub zKeep⟩)
            )
        )
    · have hge : t.nodes.length ≤ k := by have := of_decide_eq_false hc; omega
      rw [drop_nil hge] at hI; simp only [usesN] at hI
      refine awp_exit ?_; refine seqQ_x ?_; refine seqQ_x ?_; refine blockQ_x rfl ?_; refine seqQ_n ?_; refine awp_seq ?_; refine zS ?_; refine zF 2 1 false ?_; refine zL1 ?_
      first | refine aops_len rfl rfl rfl rfl (fun _ => ?_) | refine zP (ap_len_arr rfl zUpd rfl) ?_ | refine zP (ap_len_nil rfl rfl) ?_
      refine zMv ?_; refine zN ?_; refine awp_block ?_
      refine awp_loop2 [27, 28] [] (fun (k : Nat) (s : Nat) r => (3, .i (s : Int)) :: (29, .i (k : Int)) :: r) (fun (k : Nat) (s : Nat) r => r) (fun (k : Nat) (s : Nat) => k ≤ t.inner.length ∧ s < 1024 ∧ usesL s (t.inner.drop k) = uses t) (fun (k : Nat) (s : Nat) => t.inner.length - k) (0) (s) zRc ⟨by omega, hs, by simp [uses, ← hI]⟩ (wk zSub zKeep) ?_
      intro k s ⟨hk, hs, hI⟩
      refine zS ?_; refine zCm ?_; refine zN ?_; refine awp_seq ?_
      refine zC (fun hc => ?_) fun hc => ?_
      · have hlt : k < t.inner.length := by have := of_decide_eq_true hc; omega
        obtain ⟨x, hx, hd⟩ := drop_cons hlt
        have hx' := avs_get hx
        have hxm := List.mem_of_getElem? hx
        have hux := uses_lt x
        refine awp_skip ?_; refine seqQ_n ?_; refine awp_seq ?_; refine awp_block ?_; refine zS ?_
        first | refine zP (ap_index rfl rfl rfl rfl (by decide) rfl zAss) ?_ | refine zP (ap_index rfl rfl rfl rfl (by decide) (by omega) zAss) ?_ | refine zP (ap_index_own rfl rfl rfl rfl rfl (by first | omega | (simp only [List.length_map, List.length_set, avs_len]; omega))) ?_
        refine zLd ?_
        refine aops_alloc rfl zRc rfl rfl (fun b7 => ?_)
        refine zSt ?_; refine zN ?_; refine awp_region ?_; refine zMv ?_; refine zLd ?_
        refine aops_call_v zRc (ih _ hxm) rfl rfl ?_
        refine zP (ap_bits rfl rfl rfl (by omega) (by omega)) ?_
        refine zAs ?_; refine aops_nil ?_; refine blockQ_n ?_; refine seqQ_n ?_; refine awp_region ?_; refine zAr ?_; refine zMv ?_; refine zN ?_
        rw [hd, usesL_cons] at hI
        refine ⟨k + 1, s ||| uses x, ⟨by omega, Nat.or_lt_two_pow (n := 10) hs (uses_lt x), hI⟩, by omega, wk zSub zKeep⟩
      · have hge : t.inner.length ≤ k := by have := of_decide_eq_false hc; omega
        rw [drop_nil hge] at hI; simp only [usesL] at hI
        refine awp_exit ?_; refine seqQ_x ?_; refine seqQ_x ?_; refine blockQ_x rfl ?_; refine seqQ_n ?_; refine zS ?_; refine zMv ?_; refine zAs ?_; refine zN ?_; refine awp_ret ?_
        refine post_is (.tmp rfl .nil) .nil ?_
        rw [hI]; rfl
theorem snoc_mem {α : Type} {p : α → Prop} {q : List α} {x : α} (h : ∀ y ∈ q, p y) (hx : p x) : ∀ y ∈ q ++ [x], p y := fun y hy => by
  rcases List.mem_append.1 hy with hy | hy
  · exact h y hy
  · obtain rfl : y = x := by simpa using hy
    exact hx
def tx : Trust := .mk 2 [0, 1] [.mk 1 [2, 3] []]
def ty : Trust := .mk 2 [0, 1] [.mk 2 [2, 3] []]
theorem k0 : Con none Tryz.prog 201 [av tx, .i 5] [] (Is (.b true) []) := by
  have h := sat_con 5 tx
  rwa [show sat 5 tx = true from by decide] at h
theorem not_t {c : Bool} (h : (!c) = true) : c = false := by simpa using h
theorem not_f {c : Bool} (h : (!c) = false) : c = true := by simpa using h
theorem nodesTo_succ (s : Int) (k : Nat) : (upTo (k + 1)).filter (fun x => has s x) = (upTo k).filter (fun x => has s x) ++ (if has s k = true then [(k : Int)] else []) := by
  rw [upTo_succ, List.filter_append]
  cases h : has s k <;> simp [h]
theorem Nodes_con (s : Int) : Con none Tryz.prog 75 [.i s] [] (Is (.sl 1 ((nodesOf s).map .i)) []) := by
  have hcap : capB = 140737488355328 := rfl
  refine con_intro Tryz.func75 rfl Tryz.call75 rfl ?_
  refine zS ?_; refine zAs ?_; refine zN (zS ?_); refine zAs ?_; refine zN ?_; refine awp_seq ?_; refine zS ?_; refine zMv ?_; refine zN ?_; refine awp_block ?_
  refine awp_loop3 [0] [] (fun (k : Nat) (v : Value) (q : List Int) r => (3, .v v) :: (5, .i (k : Int)) :: r) (fun (k : Nat) (v : Value) (q : List Int) r => .arr v 3 1 (q.map .i) :: r) (fun (k : Nat) (v : Value) (q : List Int) => k ≤ 10 ∧ q.length ≤ k ∧ q = (upTo k).filter fun x => has s x) (fun (k : Nat) (v : Value) (q : List Int) => 10 - k) (0) (.slice none 0 0) ([]) zRc ⟨by omega, by simp, rfl⟩ ((wk_own 3 1 rfl).trans (wk zSub zKeep)) ?_
  intro k v q ⟨hk, hql, hI⟩
  refine zS ?_; refine zCm ?_; refine zN ?_; refine awp_seq ?_
  refine zC (fun hc => ?_) fun hc => ?_
  · have hlt := of_decide_eq_true hc
    refine awp_skip ?_; refine seqQ_n ?_; refine awp_seq ?_; refine awp_block ?_; refine zS ?_; refine zMv ?_; refine zAs ?_; refine zN (zS ?_); refine zMv ?_; refine zMv ?_
    refine aops_call_b zRc (has_con _ _) rfl rfl (fun c10 hc10 => ?_)
    refine zN ?_
    refine zC (fun hc => ?_) fun hc => ?_
    · refine awp_region ?_
      refine zMv ?_; refine zMv ?_
      refine aops_lit (e := 3) (sz := 1) (by_ := 8) rfl rfl zRc rfl rfl rfl rfl ?_
      first | refine aops_append (e := 3) (sz := 1) (by_ := 8) rfl zUpd rfl rfl rfl rfl rfl zLen (fun v14 hv14 => ?_) | refine aops_append_nil (e := 3) (sz := 1) (by_ := 8) rfl rfl rfl rfl rfl rfl zLen (fun v14 hv14 => ?_)
      refine zAs ?_; refine aops_nil ?_; refine blockQ_n ?_; refine seqQ_n ?_; refine awp_region ?_; refine zAr ?_; refine zMv ?_; refine zN ?_
      first | (rw [mapi_snoc]; refine ⟨k + 1, _, q ++ [(k : Int)], ⟨by omega, by simp only [List.length_append, List.length_cons, List.length_nil]; omega, by rw [nodesTo_succ, if_pos (hc10.trans (by with_reducible assumption)), ← hI]⟩, by omega, wk zSub zKeep⟩) | refine ⟨k + 1, _, q, ⟨by omega, by omega, by rw [nodesTo_succ, if_neg (by rw [hc10.trans (by with_reducible assumption)]; decide), ← hI, List.append_nil]⟩, by omega, wk zSub zKeep⟩
    · refine awp_skip ?_
      refine blockQ_n ?_; refine seqQ_n ?_; refine awp_region ?_; refine zAr ?_; refine zMv ?_; refine zN ?_
      first | (rw [mapi_snoc]; refine ⟨k + 1, _, q ++ [(k : Int)], ⟨by omega, by simp only [List.length_append, List.length_cons, List.length_nil]; omega, by rw [nodesTo_succ, if_pos (hc10.trans (by with_reducible assumption)), ← hI]⟩, by omega, wk zSub zKeep⟩) | refine ⟨k + 1, _, q, ⟨by omega, by omega, by rw [nodesTo_succ, if_neg (by rw [hc10.trans (by with_reducible assumption)]; decide), ← hI, List.append_nil]⟩, by omega, wk zSub zKeep⟩
  · have hge := of_decide_eq_false hc
    obtain rfl : k = 10 := by omega
    refine awp_exit ?_; refine seqQ_x ?_; refine seqQ_x ?_; refine blockQ_x rfl ?_; refine seqQ_n ?_; refine awp_seq ?_
    refine awp_freeze v [3] zRem zSelC zHeapA ?_
    refine awp_region ?_; refine zMv ?_; refine zAs ?_; refine zN ?_; refine awp_ret ?_
    refine post_is (.tmp rfl .nil) zKeep ?_
    rw [hI]; rfl
theorem content_con (c : List Mem) (k : Nat) (m : Mem) (hm : c[k]? = some m) (s : Int) : Con none Tryz.prog 163 [cv c, .i k, .i s] [] (Is (.b (sat s m.t)) []) := by
  have hcap : capB = 140737488355328 := rfl
  have hx' := getMap mv hm
  refine con_intro Tryz.func163 rfl Tryz.call163 rfl ?_
  refine zS ?_
  refine aops_box rfl zFlat rfl rfl (fun b3 => ?_)
  refine zAs ?_; refine zN (zS ?_); refine zF 0 1 false ?_; refine zL1 ?_; refine zMv ?_
  first | refine zP (ap_index rfl rfl rfl rfl (by decide) rfl zAss) ?_ | refine zP (ap_index rfl rfl rfl rfl (by decide) (by omega) zAss) ?_ | refine zP (ap_index_own rfl rfl rfl rfl rfl (by first | omega | (simp only [List.length_map, List.length_set, avs_len]; omega))) ?_
  refine zF 1 3 true ?_; refine zLd ?_; refine zMv ?_
  refine aops_call_v zRc (sat_con _ m.t) rfl rfl ?_
  refine zAs ?_; refine zN ?_; refine awp_ret ?_
  refine post_is (.tmp rfl .nil) zKeep rfl
theorem decl_con (c : List Mem) : Con none Tryz.prog 162 [cv c] [] (Is (.i (declC c : Int)) []) := by
  have hcap : capB = 140737488355328 := rfl
  have hl1 : (c.map mv).length = c.length := by simp
  refine con_intro Tryz.func162 rfl Tryz.call162 rfl ?_
  refine zS ?_
  refine aops_box rfl zFlat rfl rfl (fun b1 => ?_)
  refine zAs ?_; refine zN (zS ?_); refine zAs ?_; refine zN ?_; refine awp_seq ?_; refine zS ?_; refine zF 0 1 false ?_; refine zL1 ?_
  first | refine aops_len rfl rfl rfl rfl (fun _ => ?_) | refine zP (ap_len_arr rfl zUpd rfl) ?_ | refine zP (ap_len_nil rfl rfl) ?_
  refine zMv ?_; refine zN ?_; refine awp_block ?_
  refine awp_loop2 [7, 8] [] (fun (k : Nat) (s : Nat) r => (3, .i (s : Int)) :: (9, .i (k : Int)) :: r) (fun (k : Nat) (s : Nat) r => r) (fun (k : Nat) (s : Nat) => k ≤ c.length ∧ s < 1024 ∧ declGo s k (c.drop k) = declC c) (fun (k : Nat) (s : Nat) => c.length - k) (0) (0) zRc ⟨by omega, by omega, by simp [declC]⟩ (wk zSub zKeep) ?_
  intro k s ⟨hk, hs, hI⟩
  refine zS ?_; refine zCm ?_; refine zN ?_; refine awp_seq ?_
  refine zC (fun hc => ?_) fun hc => ?_
  · have hlt := of_decide_eq_true hc
    obtain ⟨x, hx, hd⟩ := drop_cons (l := c) (k := k) (by omega)
    have hx' := getMap mv hx
    refine awp_skip ?_; refine seqQ_n ?_; refine awp_seq ?_; refine awp_block ?_; refine zS ?_; refine zMv ?_
    first | refine zP (ap_index rfl rfl rfl rfl (by decide) rfl zAss) ?_ | refine zP (ap_index rfl rfl rfl rfl (by decide) (by omega) zAss) ?_ | refine zP (ap_index_own rfl rfl rfl rfl rfl (by first | omega | (simp only [List.length_map, List.length_set, avs_len]; omega))) ?_
    refine zLd ?_
    refine aops_alloc rfl zRc rfl rfl (fun b5 => ?_)
    refine zAs ?_; refine zSt ?_; refine zN (zS ?_); refine zF 0 1 false ?_; refine zL1 ?_; refine zMv ?_
    all_goals first | (refine zY ?_; refine zMv ?_) | refine zU ?_ | refine zNt ?_ | (refine zGt (fun hg => ?_) fun hg => ?_; case' _ => refine zMv ?_)
    all_goals first | (refine zY ?_; refine zCm ?_) | refine zU ?_ | refine zNt ?_ | (refine zGt (fun hg => ?_) fun hg => ?_; case' _ => refine zCm ?_)
    all_goals refine zPk ?_
    all_goals (
      refine zN ?_
      refine zC (fun hc => ?_) fun hc => ?_
      · first
        | (exact absurd hc (by decide))
        | (have h19 := of_decide_eq_true hc
           have hp := pow_lt10 (k := k) (by omega)
           refine awp_region ?_; refine zMv ?_; refine zMv ?_
           refine zP (ap_shl (p := 1) rfl rfl rfl (by omega) (by omega)) ?_
           refine zP (ap_bits rfl rfl rfl (by omega) (by omega)) ?_
           refine zAs ?_; refine aops_nil ?_; refine blockQ_n ?_; refine seqQ_n ?_; refine awp_region ?_; refine zAr ?_; refine zMv ?_; refine zN ?_
           rw [hd] at hI; simp only [declGo] at hI
           first | (rw [if_pos (by rw [show x.decl = true by with_reducible assumption, show decide ((k : Int) < 10) = true by with_reducible assumption]; rfl)] at hI; refine ⟨k + 1, s ||| 2 ^ k, ⟨by omega, Nat.or_lt_two_pow (n := 10) hs (pow_lt10 (by omega)), hI⟩, by omega, ?_⟩; rw [Nat.one_mul]; exact (wk zSub zKeep)) | (rw [if_neg (by first | (rw [show x.decl = false by with_reducible assumption]; simp; done) | (rw [show decide ((k : Int) < 10) = false by with_reducible assumption]; simp; done))] at hI; refine ⟨k + 1, s, ⟨by omega, hs, hI⟩, by omega, wk zSub zKeep⟩)
          )
      · first
        | (exact absurd hc (by decide))
        | (refine awp_skip ?_
           refine blockQ_n ?_; refine seqQ_n ?_; refine awp_region ?_; refine zAr ?_; refine zMv ?_; refine zN ?_
           rw [hd] at hI; simp only [declGo] at hI
           first | (rw [if_pos (by rw [show x.decl = true by with_reducible assumption, show decide ((k : Int) < 10) = true by with_reducible assumption]; rfl)] at hI; refine ⟨k + 1, s ||| 2 ^ k, ⟨by omega, Nat.or_lt_two_pow (n := 10) hs (pow_lt10 (by omega)), hI⟩, by omega, ?_⟩; rw [Nat.one_mul]; exact (wk zSub zKeep)) | (rw [if_neg (by first | (rw [show x.decl = false by with_reducible assumption]; simp; done) | (rw [show decide ((k : Int) < 10) = false by with_reducible assumption]; simp; done))] at hI; refine ⟨k + 1, s, ⟨by omega, hs, hI⟩, by omega, wk zSub zKeep⟩)
          )
      )
  · have hge := of_decide_eq_false hc
    rw [drop_nil (by omega)] at hI; simp only [declGo] at hI
    refine awp_exit ?_; refine seqQ_x ?_; refine seqQ_x ?_; refine blockQ_x rfl ?_; refine seqQ_n ?_; refine zS ?_; refine zMv ?_; refine zAs ?_; refine zN ?_; refine awp_ret ?_
    refine post_is (.tmp rfl .nil) zKeep ?_
    rw [← hI]; rfl
theorem unh_con (c : List Mem) (s : Nat) (hs : s < 1024) (hin : In c s) : Con none Tryz.prog 130 [cv c, .i s] [] (fun d H => ∃ (k : Int) (b : Bool), d = .tup [.i k, .b b] ∧ (b = true → unh c s = some k) ∧ (b = false → unh c s = none) ∧ H = []) := by
  have hcap : capB = 140737488355328 := rfl
  have hl1 : ((nodesOf s).map D.i).length = (nodesOf s).length := by simp
  refine con_intro Tryz.func130 rfl Tryz.call130 rfl ?_
  refine zS ?_
  refine aops_box rfl zFlat rfl rfl (fun b2 => ?_)
  refine zAs ?_; refine zAs ?_; refine zN ?_; refine awp_seq ?_; refine zS ?_; refine zMv ?_
  refine aops_call_v zRc (Nodes_con _) rfl rfl ?_
  first | refine aops_len rfl rfl rfl rfl (fun _ => ?_) | refine zP (ap_len_arr rfl zUpd rfl) ?_ | refine zP (ap_len_nil rfl rfl) ?_
  refine zMv ?_; refine zN ?_; refine awp_block ?_
  refine awp_loop1 [1, 2, 9, 10] [.box b2 _ _] (fun (k : Nat) r => (11, .i (k : Int)) :: r) (fun (k : Nat) r => r) (fun (k : Nat) => k ≤ (nodesOf s).length ∧ unh c s = ((nodesOf s).drop k).find? (bad c s)) (fun (k : Nat) => (nodesOf s).length - k) (0) zRc ⟨by omega, by unfold unh; simp⟩ (wk zSub zKeep) ?_
  intro k ⟨hk, hI⟩
  refine zS ?_; refine zCm ?_; refine zN ?_; refine awp_seq ?_
  refine zC (fun hc => ?_) fun hc => ?_
  · have hlt := of_decide_eq_true hc
    obtain ⟨x, hx, hd⟩ := drop_cons (l := nodesOf s) (k := k) (by omega)
    obtain ⟨j, m, rfl, hj, hm, hmd⟩ := hin.get hs (mem_nodesOf.1 (List.mem_of_getElem? hx))
    have hx' := getMap D.i hx
    refine awp_skip ?_; refine seqQ_n ?_; refine awp_seq ?_; refine awp_block ?_; refine zS ?_
    first | refine zP (ap_index rfl rfl rfl rfl (by decide) rfl zAss) ?_ | refine zP (ap_index rfl rfl rfl rfl (by decide) (by omega) zAss) ?_ | refine zP (ap_index_own rfl rfl rfl rfl rfl (by first | omega | (simp only [List.length_map, List.length_set, avs_len]; omega))) ?_
    refine zL1 ?_; refine zAs ?_; refine zN (zS ?_); refine zLd ?_; refine zMv ?_; refine zMv ?_
    refine aops_call_b zRc (content_con c j m hm _) rfl rfl (fun c18 hc18 => ?_)
    refine zNo ?_; refine zN ?_
    refine zC (fun hc => ?_) fun hc => ?_
    · refine awp_seq ?_
      refine awp_region ?_; refine zMv ?_; refine zAs ?_; refine zAs ?_; refine zN ?_; refine awp_ret ?_; refine blockQ_r ?_; refine seqQ_r ?_; refine seqQ_r ?_; refine blockQ_r ?_; refine seqQ_r ?_
      refine post_ret (.tmp rfl (.tmp rfl .nil)) zKeep ⟨_, _, rfl, fun _ => ?_, fun h => (by cases h), rfl⟩
      rw [hI, hd, List.find?_cons_of_pos (by unfold bad; rw [tOf_get hm, hc18]; exact hc)]
    · refine awp_skip ?_
      refine blockQ_n ?_; refine seqQ_n ?_; refine awp_region ?_; refine zAr ?_; refine zMv ?_; refine zN ?_
      rw [hd, List.find?_cons_of_neg (by unfold bad; rw [tOf_get hm, hc18, not_f hc]; decide)] at hI
      refine ⟨k + 1, ⟨by omega, hI⟩, by omega, wk zSub zKeep⟩
  · have hge := of_decide_eq_false hc
    rw [drop_nil (by omega)] at hI; simp only [List.find?_nil] at hI
    refine awp_exit ?_; refine seqQ_x ?_; refine seqQ_x ?_; refine blockQ_x rfl ?_; refine seqQ_n ?_; refine zS ?_; refine zAs ?_; refine zAs ?_; refine zN ?_; refine awp_ret ?_
    refine post_ret (.tmp rfl (.tmp rfl .nil)) zKeep ⟨_, _, rfl, fun h => (by cases h), fun _ => hI, rfl⟩
theorem elimin_con (c : List Mem) (s0 : Int) : Con none Tryz.prog 132 [cv c, .i s0] [] (Is (.tup [.i (great c s0 : Int), .sl 1 ((gOrder c s0).map .i)]) []) := by
  have hcap : capB = 140737488355328 := rfl
  have hdl := declC_lt c
  refine con_intro Tryz.func132 rfl Tryz.call132 rfl ?_
  refine zS ?_
  refine aops_box rfl zFlat rfl rfl (fun b2 => ?_)
  refine zAs ?_; refine zAs ?_; refine zN ?_; refine awp_seq ?_; refine zS ?_; refine zMv ?_
  refine aops_call_b zRc (valid_con s0) rfl rfl (fun c10 hc10 => ?_)
  refine zNo ?_; refine zN ?_
  refine zC (fun hc => ?_) fun hc => ?_
  · have hv0 := hc10.trans (not_t hc)
    refine zS ?_; refine zAs ?_; refine zAs ?_; refine zN ?_
    refine awp_unnil [4,5] 1 rfl zSelC zHeapA ?_
    refine awp_ret ?_; refine seqQ_r ?_
    refine post_is (.tmp rfl (.tmp rfl .nil)) zKeep ?_
    unfold great gOrder; rw [hv0]; rfl
  · have hv0 := hc10.trans (not_f hc)
    obtain ⟨m, rfl, hm⟩ := valid_nat hv0
    refine awp_skip ?_; refine seqQ_n ?_; refine zS ?_; refine zAs ?_; refine zN (zS ?_); refine zMv ?_; refine zLd ?_
    refine aops_call_v zRc (decl_con c) rfl rfl ?_
    refine zP (ap_bits rfl rfl rfl (by omega) (by omega)) ?_
    refine zAs ?_; refine zN ?_; refine awp_block ?_
    refine awp_loop3 [2] [.box b2 _ _] (fun (s : Nat) (v : Value) (q : List Int) r => (1, .i (s : Int)) :: (6, .v v) :: r) (fun (s : Nat) (v : Value) (q : List Int) r => .arr v 3 1 (q.map .i) :: r) (fun (s : Nat) (v : Value) (q : List Int) => q.length + s ≤ 1023 ∧ In c s ∧ elim c s q = elim c (m &&& declC c) []) (fun (s : Nat) (v : Value) (q : List Int) => s) (m &&& declC c) (.slice none 0 0) ([]) zRc ⟨by have := and_lt (a := m) (declC_lt c); simp; omega, In.and c m, rfl⟩ ((wk_own 3 1 rfl).trans (wk zSub zKeep)) ?_
    intro s v q ⟨hql, hin, hI⟩
    have hs : s < 1024 := by omega
    refine awp_block ?_; refine zS ?_; refine zLd ?_; refine zMv ?_
    (refine aops_call zRc (unh_con c s hs hin) zSplit rfl rfl ?_; rintro _ _ ⟨k, b, rfl, hb1, hb0, rfl⟩)
    refine zMv ?_
    refine zP (ap_extract rfl rfl) ?_
    refine zP (ap_extract rfl rfl) ?_
    refine zAs ?_; refine zAs ?_; refine zN ?_; refine awp_seq ?_; refine zS ?_; refine zMv ?_; refine zNo ?_; refine zN ?_
    refine zC (fun hc => ?_) fun hc => ?_
    · have hu := hb0 (not_t hc)
      rw [elim_none hu] at hI
      refine zS ?_; refine zMv ?_; refine zMv ?_; refine zAs ?_; refine zAs ?_; refine zN ?_
      refine awp_freeze v [4,5] zRem zSelC zHeapA ?_
      refine awp_ret ?_; refine seqQ_r ?_; refine blockQ_r ?_; refine seqQ_r ?_; refine blockQ_r ?_
      refine post_is (.tmp rfl (.tmp rfl .nil)) zKeep ?_
      rw [great_eq c hm, gOrder_eq c hm, ← hI]; rfl
    · have hu := hb1 (not_f hc)
      obtain ⟨j, x, rfl, hj, _, _⟩ := hin.get hs (unh_has hu).1
      have hcl : clr s j < s := by have := unh_drop hu; rwa [Int.toNat_natCast] at this
      have hp := pow_lt10 hj
      refine awp_skip ?_; refine seqQ_n ?_; refine zS ?_; refine zMv ?_; refine zMv ?_
      refine aops_lit (e := 3) (sz := 1) (by_ := 8) rfl rfl zRc rfl rfl rfl rfl ?_
      first | refine aops_append (e := 3) (sz := 1) (by_ := 8) rfl zUpd rfl rfl rfl rfl rfl zLen (fun v29 hv29 => ?_) | refine aops_append_nil (e := 3) (sz := 1) (by_ := 8) rfl rfl rfl rfl rfl rfl zLen (fun v29 hv29 => ?_)
      refine zAs ?_; refine zN ?_; refine awp_region ?_; refine zMv ?_; refine zMv ?_
      refine zP (ap_shl (p := 1) rfl rfl rfl (by omega) (by omega)) ?_
      refine zP (ap_bits rfl rfl rfl (by omega) (by omega)) ?_
      refine zAs ?_; refine aops_nil ?_; refine blockQ_n ?_; refine seqQ_n ?_
      rw [mapi_snoc]
      refine ⟨clr s j, v29, q ++ [(j : Int)], ⟨by simp only [List.length_append, List.length_cons, List.length_nil]; omega, hin.clr, by rw [← hI, elim_some hu, Int.toNat_natCast]⟩, hcl, ?_⟩
      unfold clr; rw [Nat.one_mul]
      exact (wk zSub zKeep)
theorem great_con (c : List Mem) (s : Int) : Con none Tryz.prog 95 [cv c, .i s] [] (Is (.i (great c s : Int)) []) := by
  have hcap : capB = 140737488355328 := rfl
  refine con_intro Tryz.func95 rfl Tryz.call95 rfl ?_
  refine zS ?_
  refine aops_box rfl zFlat rfl rfl (fun b2 => ?_)
  refine zAs ?_; refine zN (zS ?_); refine zLd ?_; refine zMv ?_
  refine aops_call_v zRc (elimin_con c _) rfl rfl ?_
  refine zMv ?_
  refine zP (ap_extract rfl rfl) ?_
  refine zP (ap_extract rfl rfl) ?_
  refine zAs ?_; refine zAs ?_; refine zN (zS ?_); refine zMv ?_; refine zAs ?_; refine zN ?_; refine awp_ret ?_
  refine post_is (.tmp rfl .nil) zKeep rfl
theorem of_neq_true {a b : Int} (h : (!decide (a = b)) = true) : ¬ a = b := by simpa using h
theorem of_neq_false {a b : Int} (h : (!decide (a = b)) = false) : a = b := by simpa using h
theorem validn {s : Nat} (h : s < 1024) : Con none Tryz.prog 128 [.i s] [] (Is (.b true) []) := by rw [← valid_n h]; exact valid_con s
theorem inside_con (c : List Mem) (s : Nat) (hs : s < 1024) : Con none Tryz.prog 129 [cv c, .i s] [] (Is (.b (insideC c s)) []) := by
  have hcap : capB = 140737488355328 := rfl
  have hdl := declC_lt c
  refine con_intro Tryz.func129 rfl Tryz.call129 rfl ?_
  refine zS ?_
  refine aops_box rfl zFlat rfl rfl (fun b2 => ?_)
  refine zAs ?_; refine zN (zS ?_); refine zMv ?_; refine zLd ?_
  refine aops_call_v zRc (decl_con c) rfl rfl ?_
  refine zP (ap_bits rfl rfl rfl (by omega) (by omega)) ?_
  refine zCm ?_; refine zAs ?_; refine zN ?_; refine awp_ret ?_
  refine post_is (.tmp rfl .nil) zKeep rfl
end Go.Proofs.YtgmpjpaekpefdaaGreat
