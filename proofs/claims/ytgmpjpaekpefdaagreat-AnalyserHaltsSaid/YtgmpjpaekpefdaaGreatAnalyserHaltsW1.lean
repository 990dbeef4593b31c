/- Walks: each says what one function of the program answers, for the arguments that its statement names. No condition beyond what each theorem says. -/
import Derived.Test.YtgmpjpaekpefdaaGreatTq
import Derived.Test.YtgmpjpaekpefdaaGreatProg
import Derived.KernelRfl
import Derived.Tactics
import Derived.Tactics2
import Derived.StillTactics
set_option linter.unusedVariables false
set_option linter.unusedSimpArgs false
set_option maxRecDepth 4000
namespace Go.Proofs.YtgmpjpaekpefdaaGreat
open Go Go.Av Go.Tq
variable {p q r : Prop} {H Hr H' : Heap} {env : Env} {κ : Kind} {P : Program} {n fuel s : Nat} {ops : Array Oper} {K : Env → Heap → Prop} {pos : String} {after : Array Edge} {rest : List Oper} {dst : Option Tmp} {t : Tmp} {op : Op} {gd : Option (Nat × Bool)} {o : Oper} {listed : Array Bool} {x a : Int} {y : Operand} {u : Trust} {Q : Exit → Env → Heap → Prop} {f : FuncId}
theorem jgr (h : p := by first | with_reducible assumption | with_reducible exact rfl | decide | (refine decide_eq_true ?_; omega) | (refine decide_eq_false ?_; omega)) : p := h
theorem jcm (h : p := by repeat (first | exact .here | apply UpdF.there)) : p := h
theorem jhW (h : p := by first | exact .sl | exact .v rfl | exact .v (by assumption)) : p := h
theorem jdG (h : p := by first | exact .agg | exact .sl | exact .v rfl | exact .v (by assumption)) : p := h
theorem zRc (h : p := by repeat constructor) : p := h
theorem jaw (h : p := by repeat (first | exact .nil | exact Split.none _ | apply Split.left | apply Split.right)) : p := h
theorem jv8 (h : p := by first | with_reducible assumption | assumption | rfl) : p := h
theorem zSub (h : p := by repeat (first | exact .nil | refine .cons rfl ?_)) : p := h
theorem zKr (h : p := by kernel_rfl) : p := h
theorem jcw (h : p := by repeat (first | exact .nil | refine .cons (by first | exact .here | exact .there .here | exact .there (.there .here) | exact .there (.there (.there .here)) | exact .there (.there (.there (.there .here)))) ?_)) : p := h
theorem jbR (h : p := by repeat (first | exact .nil | apply SelC.cons rfl (by first | exact Cv.fz | (apply Cv.agg; repeat (first | exact CvL.nil | apply CvL.cons (by first | exact Cv.fz | exact Cv.same))) | exact Cv.same))) : p := h
theorem jbp (h : p := by repeat (first | exact .nil | apply HeapA.box (by repeat (first | exact CvL.nil | apply CvL.cons (by first | exact Cv.fz | exact Cv.same))) | apply HeapA.arr)) : p := h
theorem jbF (h : p := by repeat (first | exact .nil | apply HeapA.box (by repeat (first | exact CvL.nil | apply CvL.cons Cv.same)) | apply HeapA.arr)) : p := h
theorem jmv (h : p := by repeat (first | exact .here | apply Rem.there)) : p := h
theorem jav (h : p := by repeat (first | exact .nil | apply FillL.cons rfl jdG rfl zRc)) : p := h
theorem zRs (h : p := by repeat (first | exact .nil | (apply ResL.tmp; exact rfl) | (apply ResL.cell; exact rfl; exact jcm; exact rfl; exact rfl))) : p := h
inductive Tf where
 | leaf (s : Nat) (l : List (Nat × Nat × Bool))
 | node (p : Nat) (a b : Tf)
def Tf.nth : List (Nat × Nat × Bool) → Nat → Option (Nat × Nat × Bool)
 | [], _ => none
 | x :: _, 0 => some x
 | _ :: r, k + 1 => Tf.nth r k
def Tf.look : Tf → Nat → Nat → Option (Nat × Nat × Bool)
 | .leaf k l, s, f => bif Nat.beq s k then Tf.nth l f else none
 | .node p a b, s, f => bif Nat.blt s p then a.look s f else b.look s f
def Tf.ok (P : Program) : Tf → Bool
 | .leaf k l => (List.range l.length).all fun f => decide (tfield P k f = Tf.nth l f)
 | .node _ a b => a.ok P && b.ok P
theorem Tf.nth_lt : ∀ {l : List (Nat × Nat × Bool)} {f : Nat} {v}, Tf.nth l f = some v → f < l.length
 | [], _, _, h => by cases h
 | _ :: _, 0, _, _ => by simp
 | _ :: r, k + 1, _, h => by have := Tf.nth_lt (l := r) h; simp only [List.length_cons]; omega
theorem Tf.sound {P : Program} : ∀ {T : Tf}, T.ok P = true → ∀ {s f : Nat} {v}, T.look s f = some v → tfield P s f = some v
 | .leaf k l, h, s, f, v, e => by
  simp only [Tf.look] at e
  cases hb : Nat.beq s k with
  | false => rw [hb] at e; cases e
  | true =>
   rw [hb] at e
   have e' : Tf.nth l f = some v := e
   have hs := Nat.eq_of_beq_eq_true hb
   subst hs
   have := List.all_eq_true.1 h f (List.mem_range.2 (Tf.nth_lt e'))
   rw [of_decide_eq_true this]; exact e'
 | .node p a b, h, s, f, v, e => by
  simp only [Tf.ok, Bool.and_eq_true] at h
  simp only [Tf.look] at e
  cases hb : Nat.blt s p with
  | true => rw [hb] at e; exact Tf.sound h.1 e
  | false => rw [hb] at e; exact Tf.sound h.2 e
def tfs : Tf := .node 97 (.node 53 (.node 40 (.node 37 (.leaf 28 [(0, 1, false)]) (.leaf 37 [(0, 1, false), (1, 1, false), (2, 1, false), (3, 1, false)])) (.node 48 (.leaf 40 [(0, 1, false), (1, 1, false), (2, 1, false), (3, 4, true), (7, 1, false)]) (.node 51 (.leaf 48 [(0, 1, false), (1, 1, false), (2, 1, false)]) (.leaf 51 [(0, 1, false), (1, 1, false), (2, 3, true), (5, 1, false), (6, 1, false)])))) (.node 59 (.node 55 (.leaf 53 [(0, 1, false), (1, 1, false)]) (.node 57 (.leaf 55 [(0, 1, false), (1, 1, false), (2, 1, false), (3, 3, true), (6, 1, false), (7, 2, true), (9, 2, true), (11, 2, true), (13, 1, false), (14, 1, false)]) (.leaf 57 [(0, 1, false), (1, 1, false), (2, 7, true), (9, 15, true)]))) (.node 71 (.leaf 59 [(0, 1, false), (1, 1, false), (2, 1, false), (3, 1, false), (4, 1, false), (5, 1, false), (6, 3, true), (9, 24, true), (33, 1, false)]) (.node 78 (.leaf 71 [(0, 1, false), (1, 1, false), (2, 1, false)]) (.leaf 78 [(0, 1, false), (1, 1, false), (2, 1, false), (3, 1, false), (4, 1, false)]))))) (.node 131 (.node 107 (.node 101 (.leaf 97 [(0, 1, false), (1, 1, false)]) (.leaf 101 [(0, 1, false), (1, 3, true)])) (.node 126 (.leaf 107 [(0, 1, false), (1, 1, false), (2, 3, true), (5, 1, false)]) (.node 129 (.leaf 126 [(0, 1, false), (1, 1, false), (2, 1, false), (3, 1, false), (4, 3, true), (7, 1, false), (8, 1, false), (9, 1, false), (10, 1, false), (11, 1, false)]) (.leaf 129 [(0, 1, false), (1, 1, false), (2, 1, false), (3, 3, true), (6, 1, false), (7, 2, true), (9, 2, true), (11, 2, true), (13, 2, true), (15, 1, false), (16, 1, false), (17, 1, false), (18, 1, false)])))) (.node 285 (.node 133 (.leaf 131 [(0, 1, false), (1, 1, false)]) (.node 163 (.leaf 133 [(0, 12, true), (12, 19, true), (31, 2, true), (33, 1, false), (34, 1, false), (35, 1, false), (36, 1, false)]) (.leaf 163 [(0, 1, false), (1, 1, false), (2, 1, false), (3, 1, false), (4, 24, true)]))) (.node 317 (.leaf 285 [(0, 1, false), (1, 1, false), (2, 3, true), (5, 1, false), (6, 1, false)]) (.node 322 (.leaf 317 [(0, 1, false), (1, 1, false)]) (.leaf 322 [(0, 1, false), (1, 1, false)])))))
theorem jlw : tfs.ok Tryz.prog = true := by kernel_rfl
theorem zfa {n env H dst ty pos after gd x s f b o off sz g} (hx : opd env x = some (.p b o)) (hf : tfs.look s f = some (off, sz, g)) : AP Tryz.prog n ⟨dst, .fieldAddr s x f, ty, pos, after, gd⟩ env H (.p b (o + off)) := jaW hx (Tf.sound jlw hf)
theorem zfe {n env H dst ty pos after gd x s f l off sz g r} (hx : opd env x = some (.el (.agg l))) (hf : tfs.look s f = some (off, sz, g)) (hs : SubL l off sz r) : AP Tryz.prog n ⟨dst, .fieldAddr s x f, ty, pos, after, gd⟩ env H (.el (.agg r)) := jfW hx (Tf.sound jlw hf) hs
theorem zf1 {n env H dst ty pos after gd x s f l off sz d} (hx : opd env x = some (.agg l)) (hf : tfs.look s f = some (off, sz, false)) (hs : SubL l off 1 [d]) : AP Tryz.prog n ⟨dst, .field s x f, ty, pos, after, gd⟩ env H d := jqB hx (Tf.sound jlw hf) hs
theorem zfg {n env H dst ty pos after gd x s f l off sz r} (hx : opd env x = some (.agg l)) (hf : tfs.look s f = some (off, sz, true)) (hs : SubL l off sz r) : AP Tryz.prog n ⟨dst, .field s x f, ty, pos, after, gd⟩ env H (.agg r) := jjs hx (Tf.sound jlw hf) hs
theorem zAP {n env H d} (h : AP Tryz.prog n o env H d := by first | exact jjY rfl | exact jpB rfl | exact zfa rfl rfl | exact jvA rfl rfl rfl | (apply zfe; exact rfl; exact rfl; exact zRc) | (apply jjE; exact rfl; exact jgr; exact rfl) | (apply jh4; exact rfl; exact jgr; exact rfl) | exact jvu rfl | exact jek rfl rfl | (apply jb0; exact rfl; exact rfl; exact rfl; omega) | (apply jap; exact rfl; exact rfl; exact rfl; exact rfl; decide; exact rfl; exact jv8) | (apply jap; exact rfl; exact rfl; exact rfl; exact rfl; decide; omega; exact jv8) | (apply jaS; exact rfl; exact rfl; exact rfl; exact rfl; exact rfl; first | omega | (simp only [List.length_map, List.length_set, jaR]; omega)) | exact jtp rfl rfl rfl | exact jvU rfl rfl rfl | exact jvq rfl rfl rfl | (apply zf1; exact rfl; exact rfl; exact zRc) | (apply zfg; exact rfl; exact rfl; exact zRc) | exact jjT rfl | exact jgc rfl | (apply jpN; exact rfl; exact rfl; exact rfl; exact zRc; exact jav) | (apply jah; exact zKr; exact rfl; exact zRc; exact jav) | (apply jdj; exact rfl; exact rfl; exact rfl; exact rfl; exact rfl; omega) | (apply jer; exact rfl; exact jcm; exact rfl; exact rfl; exact rfl; exact rfl; omega) | (apply jg9; exact rfl; exact rfl; exact rfl; exact rfl; exact rfl; simp only [List.length_map]; omega) | (apply jiP; exact rfl; exact rfl; exact rfl; exact rfl; exact rfl; exact rfl; omega; exact zRc) | (apply jgw; exact rfl; exact rfl; exact rfl; exact rfl; exact rfl; exact rfl; omega; exact zRc) | (apply jku; exact zRc) | exact jmC rfl rfl | exact jva rfl rfl | exact ju4 rfl rfl | exact jeZ rfl rfl rfl | (apply jsS; exact rfl; exact rfl; omega) | (apply jsF; exact rfl; exact rfl; omega) | (apply jee; exact rfl; exact rfl; exact rfl; omega; omega) | exact juj (k := .u64) rfl rfl | exact juh rfl rfl | exact jjC (k := .u64) rfl rfl rfl | exact jjC (k := .u32) rfl rfl rfl | (apply jmT; exact rfl; exact jcm; exact rfl) | exact jmX rfl rfl) : AP Tryz.prog n o env H d := h
theorem zAR {n Hr env H d} (h : AR Tryz.prog n Hr o env H d := by first | (apply AP.ar; exact zAP) | (apply AP.ar; exact jo5 rfl rfl) | (apply jqF; exact rfl; exact jcm; exact rfl; exact zRc) | (apply jtl; exact rfl; exact jcm; exact rfl; exact rfl; exact zRc) | (apply AQ.ar; apply jbP; exact rfl; exact rfl; exact jhW; (exact fun _ h => h)) | (apply AQ.ar; apply jd3; exact rfl; exact rfl; exact rfl; exact rfl; (exact fun _ h => h)) | (apply AQ.ar; apply jex; exact rfl; exact rfl; exact jhW; (exact fun _ h => h)) | (apply jis; exact rfl; exact jcm; exact rfl; exact jv8; exact jhW) | (apply jnA; exact rfl; exact jcm; exact rfl)) : AR Tryz.prog n Hr o env H d := h
inductive NotB : Bool → Bool → Prop
 | t : NotB true false
 | f : NotB false true
inductive Gx (ops : Array Oper) (env : Env) (t : Tmp) : Option (Nat × Bool) → Prop
 | none : Gx ops env t none
 | yes {j want b} (hl : Go.Av.look env t = Option.none) (hj : ((ops[j]?).bind (·.dst)).bind (Go.Av.look env) = some (D.b b)) (hb : b = want) : Gx ops env t (some (j, want))
inductive Gn (ops : Array Oper) (env : Env) (t : Tmp) : Option (Nat × Bool) → Prop
 | u {j want} (hj : ((ops[j]?).bind (·.dst)).bind (Go.Av.look env) = some (.v undef)) : Gn ops env t (some (j, want))
 | no {j want wn b} (hw : NotB want wn) (hl : Go.Av.look env t = Option.none) (hj : ((ops[j]?).bind (·.dst)).bind (Go.Av.look env) = some (D.b b)) (hb : b = wn) : Gn ops env t (some (j, want))
theorem zGx {ops env t gd} (h : Gx ops env t gd := by first | exact .none | exact .yes rfl rfl jgr) : Gx ops env t gd := h
theorem zGn {ops env t gd} (h : Gn ops env t gd := by first | exact .u rfl | exact .no .t rfl rfl jgr | exact .no .f rfl rfl jgr) : Gn ops env t gd := h
theorem zR {ty : TypeId} {d : D} (h : AP P n ⟨dst, op, ty, pos, after, gd⟩ env H d) (hk : AOps κ P n ops rest ((t, d) :: env) H K) (hd : dst = some t := by exact rfl) (ht : Nat.blt t n = true := by exact rfl) (hg : Gx ops env t gd := by exact zGx) : AOps κ P n ops (⟨dst, op, ty, pos, after, gd⟩ :: rest) env H K := by
 cases hg with
 | none => exact jsr h rfl hd ht hk
 | yes hl hj hb => exact jeY hd hl ht hj hb (jsr (o := ⟨dst, op, ty, pos, after, none⟩) ⟨h.out⟩ rfl hd ht hk)
theorem zQ {ty : TypeId} {d : D} (h : AQ P n [] ⟨dst, op, ty, pos, after, gd⟩ env H d) (hk : AOps κ P n ops rest ((t, d) :: env) H K) (hd : dst = some t := by exact rfl) (ht : Nat.blt t n = true := by exact rfl) (hg : Gx ops env t gd := by exact zGx) : AOps κ P n ops (⟨dst, op, ty, pos, after, gd⟩ :: rest) env H K := by
 cases hg with
 | none => exact jla h rfl hd ht hk
 | yes hl hj hb => exact jeY hd hl ht hj hb (jla (o := ⟨dst, op, ty, pos, after, none⟩) ⟨h.out⟩ rfl hd ht hk)
theorem zP {ty : TypeId} {d : D} (h : AP P n ⟨dst, op, ty, pos, after, gd⟩ env H d) (hk : AOps κ P n ops rest ((t, d) :: env) H K) (hd : dst = some t := by exact rfl) (ht : Nat.blt t n = true := by exact rfl) (hg : Gx ops env t gd := by exact zGx) : AOps κ P n ops (⟨dst, op, ty, pos, after, gd⟩ :: rest) env H K := zR h hk hd ht hg
theorem zSk {ty : TypeId} (h : AOps κ P n ops rest ((t, .v undef) :: env) H K) (hd : dst = some t := by exact rfl) (ht : Nat.blt t n = true := by exact rfl) (hg : Gn ops env t gd := by exact zGn) : AOps κ P n ops (⟨dst, op, ty, pos, after, gd⟩ :: rest) env H K := by
 cases hg with
 | u hj => exact jpt hd ht hj h
 | no hw hl hj hb => exact jqk hd hl ht hj (by subst hb; cases hw <;> rfl) h
theorem zY {ty : TypeId} (h : AOps κ P n ops (⟨dst, op, ty, pos, after, none⟩ :: rest) env H K) (hd : dst = some t := by exact rfl) (ht : Nat.blt t n = true := by exact rfl) (hg : Gx ops env t gd := by exact zGx) : AOps κ P n ops (⟨dst, op, ty, pos, after, gd⟩ :: rest) env H K := by
 cases hg with
 | none => exact h
 | yes hl hj hb => exact jeY hd hl ht hj hb h
theorem zG {ty : TypeId} {j : Nat} {want wn b : Bool} (h : b = want → AOps κ P n ops (⟨dst, op, ty, pos, after, none⟩ :: rest) env H K) (h' : b = wn → AOps κ P n ops rest ((t, .v undef) :: env) H K) (hw : NotB want wn := by first | exact .t | exact .f) (hd : dst = some t := by exact rfl) (hl : Go.Av.look env t = none := by exact rfl) (ht : Nat.blt t n = true := by exact rfl) (hj : ((ops[j]?).bind (·.dst)).bind (Go.Av.look env) = some (D.b b) := by exact rfl) : AOps κ P n ops (⟨dst, op, ty, pos, after, some (j, want)⟩ :: rest) env H K := jm9 hd hl ht hj h (fun e => h' (by cases hw <;> simpa using e))
def Stored (κ : Kind) (P : Program) (n : Nat) (o : Oper) (env : Env) (H H' : Heap) : Prop := ∀ (ops : Array Oper) (rest : List Oper) (K : Env → Heap → Prop), AOps κ P n ops rest env H' K → AOps κ P n ops (o :: rest) env H K
theorem sto1 {ty : TypeId} {x : Operand} {t b off d ds bty cs cs' f} (hx : opd env x = some (.p b off)) (hy : opd env y = some d) (hfl : Flat d ds) (hk : UpdF H (.box b bty cs) f) (hs : tsize P t = some ds.length) (hsp : Spl cs off ds cs') : Stored κ P n ⟨none, .store t x y, ty, pos, after, none⟩ env H (f (.box b bty cs')) := fun _ _ _ h => jej hx hy hfl hk hs hsp h
theorem jwc {ty : TypeId} {x : Operand} {t g k len cap ety l d f} (hx : opd env x = some (.p g (k * 1))) (hy : opd env y = some d) (hsc : Scal d) (hk : UpdF H (.arr (.slice (some ⟨g, 0, none⟩) len cap) ety 1 l) f) (hs : tsize P t = some 1) (hkl : k < l.length) : Stored κ P n ⟨none, .store t x y, ty, pos, after, none⟩ env H (f (.arr (.slice (some ⟨g, 0, none⟩) len cap) ety 1 (l.set k d))) := fun _ _ _ h => jfw hx hy hsc hk hs hkl h
theorem zSt (hk : AOps κ P n ops rest env H' K) (h : Stored κ P n o env H H' := by first | (apply sto1; exact rfl; exact rfl; exact jdG; exact jcm; exact rfl; exact zRc) | (apply jwc; exact rfl; exact rfl; exact jhW; exact jcm; exact rfl; (simp only [List.length_set, List.length_map]; omega))) : AOps κ P n ops (o :: rest) env H K := h _ _ _ hk
theorem zV {ty : TypeId} {d : D} (hk : AOps κ P n ops rest ((t, d) :: env) H K) (hd : dst = some t) (ht : Nat.blt t n = true) (hg : Gx ops env t gd) (h : AQ P n [] ⟨dst, op, ty, pos, after, gd⟩ env H d) : AOps κ P n ops (⟨dst, op, ty, pos, after, gd⟩ :: rest) env H K := zQ h hk hd ht hg
theorem zOp {n env H d} (h : AQ Tryz.prog n [] o env H d := by first | (apply AP.aq; exact zAP) | (apply jdJ; exact rfl; exact jcm; (exact List.not_mem_nil); exact rfl; exact zRc) | (apply jkB; exact rfl; exact jcm; (exact List.not_mem_nil); exact rfl; exact rfl; exact zRc) | (apply jbP; exact rfl; exact rfl; exact jhW; (exact fun _ h => absurd h List.not_mem_nil)) | (apply jd3; exact rfl; exact rfl; exact rfl; exact rfl; (exact fun _ h => absurd h List.not_mem_nil)) | (apply jex; exact rfl; exact rfl; exact jhW; (exact fun _ h => absurd h List.not_mem_nil)) | (apply ji0; exact rfl; exact jcm; (exact List.not_mem_nil); exact rfl; exact jv8; exact jhW)) : AQ Tryz.prog n [] o env H d := h
theorem zSto (hk : AOps κ P n ops rest env H' K) (h : Stored κ P n o env H H') : AOps κ P n ops (o :: rest) env H K := h _ _ _ hk
theorem zVn {ty : TypeId} (hk : AOps κ P n ops rest ((t, .v undef) :: env) H K) (hd : dst = some t) (ht : Nat.blt t n = true) (hg : Gn ops env t gd) : AOps κ P n ops (⟨dst, op, ty, pos, after, gd⟩ :: rest) env H K := zSk hk hd ht hg
theorem zW (h : q) (s : q → p := by intro h; first | (apply zV h; exact rfl; exact rfl; exact zGx; exact zOp) | exact jtM h | exact jgU h | exact jaP h | exact jv3 h | (apply zSto h; first | (apply sto1; exact rfl; exact rfl; exact jdG; exact jcm; exact rfl; exact zRc) | (apply jwc; exact rfl; exact rfl; exact jhW; exact jcm; exact rfl; (simp only [List.length_set, List.length_map]; omega))) | (apply zVn h; exact rfl; exact rfl; exact zGn) | exact jqt h | exact jrt h | exact jtd h | exact jqL h | exact juE h | exact ju1 h | exact jrC h | exact jrO h | exact jrf rfl h | exact jq7 rfl h | exact jqO zKr h) : p := s h
theorem zLn {ty : TypeId} {pos : String} {after : Array Edge} {t0 e sz l d' x} (hk : l.length ≤ capB → AOps κ P n ops rest ((d', .i (l.length : Int)) :: env) H K) (hx : opd env x = some (.sl sz l) := by exact rfl) (ht : telem P t0 = some e := by exact rfl) (hd : dst = some d' := by exact rfl) (hn : Nat.blt d' n = true := by exact rfl) : AOps κ P n ops (⟨dst, .call { callee := .builtin .len, args := #[x], argTypes := #[t0] }, ty, pos, after, none⟩ :: rest) env H K := jrx hx ht hd hn hk
theorem zC {c : Operand} {t : Bool} {c1 c2 : Code} (ht : t = true → AWp κ P n c1 env H Q) (hf : t = false → AWp κ P n c2 env H Q) (hc : opd env c = some (.b t) := by exact rfl) : AWp κ P n (.cond c c1 c2) env H Q := jhz hc ht hf
theorem zWk {env' : Env} (he : Sub env env' := by exact zSub) (hh : Keep H H' := by exact jcw) : Wk env H env' H' := wk he hh
theorem zFz {env' : Env} {H1 : Heap} {c : Code} (v : Value) (live : List Nat) {ety sz l} (h : AWp κ P n c env' H' Q) (hk : Rem H (.arr v ety sz l) H1 := by exact jmv) (he : SelC v sz l env live env' := by exact jbR) (hh : HeapA v sz l H1 H' := by exact jbp) : AWp κ P n c env H Q := jmt v live hk he hh h
theorem zPi {rs : List ResultVar} {d : D} {K : Heap} {ds} (hd : resD ds = d) (h : ResL P env H rs ds := by exact zRs) (hk : Keep H K := by exact jcw) : Post P rs (Is d K) .ret env H := jao h hk hd
theorem zBx {ty : TypeId} {ety d ds x} (hk : ∀ b, AOps κ P n ops rest ((t, .p b 0) :: env) (.box b ety ds :: H) K) (hx : opd env x = some d := by exact rfl) (hfl : Flat d ds := by exact jdG) (hd : dst = some t := by exact rfl) (hn : Nat.blt t n = true := by exact rfl) : AOps κ P n ops (⟨dst, .box ety x, ty, pos, after, none⟩ :: rest) env H K := jr7 hx hfl hd hn hk
theorem zAl {ty : TypeId} {ety us ds} (hk : ∀ b, AOps κ P n ops rest ((t, .p b 0) :: env) (.box b ety ds :: H) K) (hz : tzero P ety = some us := by exact rfl) (hu : AllV us ds := by exact zRc) (hd : dst = some t := by exact rfl) (hn : Nat.blt t n = true := by exact rfl) : AOps κ P n ops (⟨dst, .alloc ety, ty, pos, after, none⟩ :: rest) env H K := jef hz hu hd hn hk
theorem zDr {id : Nat} {l : List Oper} (Hm : Heap) (h : AAny κ P n Hr l.toArray l.toArray.size (Array.replicate l.toArray.size false) env Hm (fun env' H' => Q .normal env' (H' ++ Hr))) (hmix : P.follows .mixedOrders = true := by exact zKr) (hs : Split H Hm Hr := by exact jaw) : AWp κ P n (.region id l.toArray true) env H Q := jrY hmix hs h
theorem zGd {ops env o} (h : Gd ops env o true := by first | exact .none rfl | exact .yes rfl rfl jgr) : Gd ops env o true := h
theorem zGo {ops env o} (h : Gd ops env o false := by first | exact .nou rfl rfl | exact .no rfl rfl (by first | (show _ = true; with_reducible assumption) | (show _ = false; with_reducible assumption) | exact jgr)) : Gd ops env o false := h
theorem zT {d : D} (i : Nat) (hk : AAny κ Tryz.prog n Hr ops fuel (listed.setIfInBounds i true) ((t, d) :: env) H K) (ho : ops[i]? = some o := by exact rfl) (hgd : Gd ops env o true := by exact zGd) (h : AR Tryz.prog n Hr o env H d := by exact zAR) (hs : Region.noSelect ops = true := by exact zKr) (hf : Region.free .any ops listed i = true := by exact zKr) (hr : (Region.ready .any ops listed).contains i = true := by exact zKr) (hd : o.dst = some t := by exact rfl) (ht : Nat.blt t n = true := by exact rfl) : AAny κ Tryz.prog n Hr ops (fuel + 1) listed env H K := jam i ho hgd hs hf hr h hd ht hk
theorem zK (i : Nat) (hk : AAny κ P n Hr ops fuel (listed.setIfInBounds i true) env H K) (ho : ops[i]? = some o := by exact rfl) (hgd : Gd ops env o false := by exact zGo) (hs : Region.noSelect ops = true := by exact zKr) (hf : Region.free .any ops listed i = true := by exact zKr) (hr : (Region.ready .any ops listed).contains i = true := by exact zKr) (hd : o.dst = some t := by exact rfl) (hl : Go.Av.look env t = none := by exact rfl) : AAny κ P n Hr ops (fuel + 1) listed env H K := jpl i ho hgd hs hf hr hd hl hk
theorem zKu (i : Nat) (hk : AAny κ P n Hr ops fuel (listed.setIfInBounds i true) ((t, .v undef) :: env) H K) (ho : ops[i]? = some o := by exact rfl) (hgd : Gd ops env o false := by exact zGo) (hs : Region.noSelect ops = true := by exact zKr) (hf : Region.free .any ops listed i = true := by exact zKr) (hr : (Region.ready .any ops listed).contains i = true := by exact zKr) (hd : o.dst = some t := by exact rfl) (ht : Nat.blt t n = true := by exact rfl) : AAny κ P n Hr ops (fuel + 1) listed env H K := jmI i ho hgd hs hf hr hd ht hk
theorem zOn {ty : TypeId} (i : Nat) (h : AOps κ P n ops [⟨dst, op, ty, pos, after, none⟩] env H (fun env' H' => AAny κ P n Hr ops fuel (listed.setIfInBounds i true) env' H' K)) (hr : Region.ready .any ops listed = [i] := by exact zKr) (ho : ops[i]? = some ⟨dst, op, ty, pos, after, gd⟩ := by exact rfl) (hgd : Gd ops env ⟨dst, op, ty, pos, after, gd⟩ true := by exact zGd) : AAny κ P n Hr ops (fuel + 1) listed env H K := jrL i hr ho hgd h
theorem zE2 {ty : TypeId} {op' : Op} {dst' : Option Tmp} {ty' : TypeId} {pos' : String} {after' : Array Edge} {gd' : Option (Nat × Bool)} (i j : Nat) (h : AOps κ P n ops [⟨dst, op, ty, pos, after, none⟩] env H (fun env' H' => AAny κ P n Hr ops fuel (listed.setIfInBounds i true) env' H' K)) (h' : AOps κ P n ops [⟨dst', op', ty', pos', after', none⟩] env H (fun env' H' => AAny κ P n Hr ops fuel (listed.setIfInBounds j true) env' H' K)) (hr : Region.ready .any ops listed = [i, j] := by exact zKr) (ho : ops[i]? = some ⟨dst, op, ty, pos, after, gd⟩ := by exact rfl) (hgd : Gd ops env ⟨dst, op, ty, pos, after, gd⟩ true := by exact zGd) (ho' : ops[j]? = some ⟨dst', op', ty', pos', after', gd'⟩ := by exact rfl) (hgd' : Gd ops env ⟨dst', op', ty', pos', after', gd'⟩ true := by exact zGd) : AAny κ P n Hr ops (fuel + 1) listed env H K := jmL i j hr ho hgd h ho' hgd' h'
theorem jbt : capB = 140737488355328 := rfl
structure Nx (q : Prop) : Prop where
 out : q
theorem xA (c : r) (h : q) (s : r → Nx q → p := by intro xc xh; (repeat refine zW ?_); exact jaa zRc xc rfl rfl xh.1) : p := s c ⟨h⟩
theorem xB (c : r) (h : q) (s : r → Nx q → p := by intro xc xh; (repeat refine zW ?_); exact jaq zRc xc jaw rfl rfl xh.1) : p := s c ⟨h⟩
theorem xE {v : Bool} {q : Bool → Prop} (c : r) (h : ∀ c, v = c → q c) (s : r → Nx (∀ c, v = c → q c) → p := by intro xc xh; (repeat refine zW ?_); exact jbw zRc xc rfl rfl xh.1) : p := s c ⟨h⟩
theorem xC {q1 q2 : Prop} {t : Bool} (h1 : t = true → q1) (h2 : t = false → q2) (s : Nx (t = true → q1) → Nx (t = false → q2) → p := by intro xh xg; (repeat refine zW ?_); exact zC xh.1 xg.1) : p := s ⟨h1⟩ ⟨h2⟩
theorem xP (h : q) (s : Nx q → p := by intro xh; (repeat refine zW ?_); exact zPi xh.1) : p := s ⟨h⟩
theorem xL {q : Nat → Prop} (h : ∀ b, q b) (s : Nx (∀ b, q b) → p := by intro xh; (repeat refine zW ?_); exact zAl xh.1) : p := s ⟨h⟩
theorem xX {q : Nat → Prop} (h : ∀ b, q b) (s : Nx (∀ b, q b) → p := by intro xh; (repeat refine zW ?_); exact zBx xh.1) : p := s ⟨h⟩
theorem xN (h : r → q) (s : Nx (r → q) → p := by intro xh; (repeat refine zW ?_); exact zLn xh.1) : p := s ⟨h⟩
theorem xLt {ty : TypeId} {t len parts l d} (e sz by_ : Nat) (hk : AOps κ P n ops rest ((d, .sl sz l) :: env) H K) (ht : telem P t = some e := by exact rfl) (hi : tinfo P e = some (sz, by_) := by exact rfl) (hp : PartsIn env sz 0 parts l := by exact zRc) (hl : l.length = len := by exact rfl) (hsm : Nat.ble (len * sz) 16777216 = true := by exact rfl) (hd : dst = some d := by exact rfl) (hn : Nat.blt d n = true := by exact rfl) : AOps κ P n ops (⟨dst, .buildSlice t len parts.toArray, ty, pos, after, none⟩ :: rest) env H K := jrT ht hi hp hl hsm hd hn hk
theorem xEa {ty : TypeId} {pos : String} {after : Array Edge} {x : Operand} {t v l l2 f d} (e sz by_ : Nat) (h : ∀ v', v'.oneCell' = true → AOps κ P n ops rest ((d, .v v') :: env) (f (.arr v' e sz (l ++ l2))) K) (hx : opd env x = some (.v v) := by exact rfl) (hk : UpdF H (.arr v e sz l) f := by exact jcm) (hy : opd env y = some (.sl sz l2) := by exact rfl) (ht : telem P t = some e := by exact rfl) (hi : tinfo P e = some (sz, by_) := by exact rfl) (hd : dst = some d := by exact rfl) (hn : Nat.blt d n = true := by exact rfl) (hb : (l.length + l2.length) * by_ ≤ capB ∧ l.length + l2.length ≤ capB := by simp only [List.length_cons, List.length_nil, List.length_append, List.length_map, jaR]; omega) : AOps κ P n ops (⟨dst, .call { callee := .builtin .append, args := #[x, y], argTypes := #[t, t] }, ty, pos, after, none⟩ :: rest) env H K := jj3 hx hk hy ht hi hd hn hb h
theorem xEn {ty : TypeId} {pos : String} {after : Array Edge} {x : Operand} {t l2 d} (e sz by_ : Nat) (h : ∀ v', v'.oneCell' = true → AOps κ P n ops rest ((d, .v v') :: env) (.arr v' e sz l2 :: H) K) (hx : opd env x = some .nil := by exact rfl) (hy : opd env y = some (.sl sz l2) := by exact rfl) (ht : telem P t = some e := by exact rfl) (hi : tinfo P e = some (sz, by_) := by exact rfl) (hd : dst = some d := by exact rfl) (hn : Nat.blt d n = true := by exact rfl) (hb : l2.length * by_ ≤ capB ∧ l2.length ≤ capB := by simp only [List.length_cons, List.length_nil, List.length_append, List.length_map, jaR]; omega) : AOps κ P n ops (⟨dst, .call { callee := .builtin .append, args := #[x, y], argTypes := #[t, t] }, ty, pos, after, none⟩ :: rest) env H K := jfC hx hy ht hi hd hn hb h
theorem xLb (h : p := by simp only [List.length_cons, List.length_nil, List.length_append, List.length_map, List.length_take, List.length_drop]; omega) : p := h
theorem xG {q1 q2 : Prop} {b want wn : Bool} (h1 : b = want → q1) (h2 : b = wn → q2) (s : Nx (b = want → q1) → Nx (b = wn → q2) → p := by intro xh xg; refine zG (fun xi => ?_) xg.1; refine zW ?_; exact xh.1 xi) : p := s ⟨h1⟩ ⟨h2⟩
theorem xI {fn : Func} {c : Code} {args : List D} {R : D → Heap → Prop} (hf : P.funcs[f]? = some fn) (hcall : ∀ (vs : Array Value) (w : World), (callFunc f vs).run P w = .ok (.enter f vs) w) (h : capB = 140737488355328 → AWp κ P fn.ntmps c (argEnv 0 args) H (Post P fn.results.toList R)) (hb : fn.body = some c := by exact rfl) (hlen : Nat.ble args.length fn.ntmps = true := by exact rfl) : Con κ P f args H R := jar hf hb hcall hlen (h jbt)
theorem xc4 {v : Value} {sz : Nat} {l a b : List D} {w x y z : D} (h : CvL v sz l a b) : CvL v sz l (w :: x :: y :: z :: a) (w :: x :: y :: z :: b) := .cons .same (.cons .same (.cons .same (.cons .same h)))
theorem xHb (h : p := by repeat (first | exact HeapA.nil | apply HeapA.box (by repeat (first | exact CvL.nil | apply CvL.cons Cv.same)) | apply HeapA.arr)) : p := h
theorem xSe (h : p := by repeat (first | exact SelC.nil | apply SelC.cons rfl Cv.same)) : p := h
theorem xUp (h : p := by refine Up.agg ?_; repeat (first | exact UpL.nil | apply UpL.cons (by first | exact Up.same | exact Up.int | exact Up.nil))) : p := h
theorem shl1 (k : Nat) (hk : k ≤ 62) : 2 ^ k < 9223372036854775808 := Nat.lt_of_le_of_lt (Nat.pow_le_pow_right (by omega) hk) (by omega)
theorem jaG {k : Nat} (hk : k < 10) : 2 ^ k < 1024 := by
 have : k = 0 ∨ k = 1 ∨ k = 2 ∨ k = 3 ∨ k = 4 ∨ k = 5 ∨ k = 6 ∨ k = 7 ∨ k = 8 ∨ k = 9 := by omega
 rcases this with h | h | h | h | h | h | h | h | h | h <;> subst h <;> decide
theorem jbo {s : Int} (h : valid s = true) : ∃ m : Nat, s = m ∧ m < 1024 := by
 have h5 : 0 ≤ s ∧ s < 1024 := by simpa [valid] using h
 obtain ⟨m, rfl⟩ := Int.eq_ofNat_of_zero_le h5.1
 exact ⟨m, rfl, by omega⟩
theorem jsZ {m q : Nat} (h1 : valid (m : Int) = true) (h3 : q < 10) : (!decide (((m &&& 1 * 2 ^ q : Nat) : Int) = 0)) = has m q := by
 have h2 : (0 : Int) ≤ (q : Int) := by omega
 have h4 : (q : Int) < 10 := by omega
 have e := jmn m q
 rw [Nat.one_mul]
 unfold has
 rw [h1, decide_eq_true h2, decide_eq_true h4]
 simp only [Bool.true_and, Int.toNat_natCast]
 cases hb : m.testBit q with
 | true =>
  have := e.2 hb
  simp; omega
 | false =>
  have : m &&& 2 ^ q = 0 := by
   rcases Nat.eq_zero_or_pos (m &&& 2 ^ q) with h | h
   ·exact h
   ·have := e.1 (by omega); rw [hb] at this; cases this
  simp [this]
theorem jlg {m q : Nat} (h1 : valid (m : Int) = true) (h3 : q < 10) : decide (((m / 2 ^ q &&& 1 : Nat) : Int) = 1) = has m q := by
 have h2 : (0 : Int) ≤ (q : Int) := by omega
 have h4 : (q : Int) < 10 := by omega
 unfold has
 rw [h1, decide_eq_true h2, decide_eq_true h4]
 simp only [Bool.true_and, Int.toNat_natCast, Nat.testBit, Nat.shiftRight_eq_div_pow, Nat.and_comm 1]
 rcases Nat.mod_two_eq_zero_or_one (m / 2 ^ q) with h | h <;> simp [Nat.and_one_is_mod, h]
theorem jo2 (s : Int) (k : Nat) (hk : k ≤ 62) : Con none Tryz.prog 161 [.i s, .i k] [] (Is (.b (decide (0 ≤ s) && decide (s < 2 ^ k))) []) := by
 refine xI Tryz.func161 Tryz.call161 fun hcap => ?_
 have h2 := shl1 k hk
 iterate 10 refine zW ?_
 iterate 2 all_goals first | refine zW ?_ | refine xG (fun hg => ?_) fun hg => ?_
 all_goals first | (refine zY ?_; refine zP (ja2 (p := 1) rfl rfl rfl (by omega) (by omega)) ?_) | refine zSk ?_
 iterate 3 all_goals refine zW ?_
 all_goals (
  iterate 3 refine zW ?_
  refine jao (.tmp rfl .nil) .nil ?_
  first | (simp_all [resD]; done) | (simp_all [resD]; omega)
  )
theorem jbT (s : Int) : Con none Tryz.prog 128 [.i s] [] (Is (.b (valid s)) []) := by
 refine xI Tryz.func128 Tryz.call128 fun hcap => ?_
 refine xA (jo2 _ 10 (by omega)) ?_
 iterate 4 refine zW ?_
 refine jao (.tmp rfl .nil) .nil ?_
 simp [resD, valid]
theorem jfF (s k : Int) : Con none Tryz.prog 118 [.i s, .i k] [] (Is (.b (has s k)) []) := by
 have hcap := jbt
 by_cases h1 : valid s = true
 ·by_cases h2 : 0 ≤ k
  ·by_cases h3 : k < 10
   ·obtain ⟨q, rfl⟩ := Int.eq_ofNat_of_zero_le h2
    obtain ⟨m, rfl, hm⟩ := jbo h1
    have hq := jaG (k := q) (by omega)
    have hdiv : m / 2 ^ q ≤ m := Nat.div_le_self _ _
    refine jar Tryz.func118 rfl Tryz.call118 rfl ?_
    refine xA (jbT _) ?_
    refine zW ?_
    iterate 10 all_goals refine zW ?_
    all_goals (refine zY ?_; refine zP (ja2 (p := 1) rfl rfl rfl (by omega) (by omega)) ?_)
    iterate 4 all_goals refine zW ?_
    all_goals (
     iterate 3 refine zW ?_
     refine jao (.tmp rfl .nil) .nil ?_
     exact congrArg D.b (jsZ h1 (by omega))
     )
   ·refine jar Tryz.func118 rfl Tryz.call118 rfl ?_
    refine xA (jbT _) ?_
    refine zW ?_
    iterate 10 all_goals refine zW ?_
    all_goals refine zSk ?_
    iterate 4 all_goals refine zW ?_
    all_goals (
     iterate 3 refine zW ?_
     refine jao (.tmp rfl .nil) .nil ?_
     simp [resD, has, h1, h2, h3]; done
     )
  ·refine jar Tryz.func118 rfl Tryz.call118 rfl ?_
   refine xA (jbT _) ?_
   refine zW ?_
   iterate 10 all_goals refine zW ?_
   all_goals refine zSk ?_
   iterate 4 all_goals refine zW ?_
   all_goals (
    iterate 3 refine zW ?_
    refine jao (.tmp rfl .nil) .nil ?_
    simp [resD, has, h1, h2]; done
    )
 ·have h1 : valid s = false := by simpa using h1
  refine jar Tryz.func118 rfl Tryz.call118 rfl ?_
  refine xA (jbT _) ?_
  refine zW ?_
  iterate 10 all_goals refine zW ?_
  all_goals refine zSk ?_
  iterate 4 all_goals refine zW ?_
  all_goals (
   iterate 3 refine zW ?_
   refine jao (.tmp rfl .nil) .nil ?_
   simp [resD, has, h1]; done
   )
theorem ja4 (s : Int) : Con none Tryz.prog 66 [.i s] [] (Is (.b (valid s)) []) := by
 refine xI Tryz.func66 Tryz.call66 fun hcap => ?_
 iterate 10 refine zW ?_
 iterate 4 all_goals first | refine zW ?_ | refine xG (fun hg => ?_) fun hg => ?_
 all_goals (
  iterate 3 refine zW ?_
  refine jao (.tmp rfl .nil) .nil ?_
  first | (simp_all [resD, valid]; done) | (simp_all [resD, valid]; omega)
  )
theorem jcq (s k : Int) : Con none Tryz.prog 115 [.i s, .i k] [] (Is (.b (has s k)) []) := by
 have hcap := jbt
 by_cases h1 : valid s = true
 ·by_cases h2 : 0 ≤ k
  ·by_cases h3 : k < 10
   ·obtain ⟨q, rfl⟩ := Int.eq_ofNat_of_zero_le h2
    obtain ⟨m, rfl, hm⟩ := jbo h1
    have hq := jaG (k := q) (by omega)
    have hdiv : m / 2 ^ q ≤ m := Nat.div_le_self _ _
    refine jar Tryz.func115 rfl Tryz.call115 rfl ?_
    refine xA (ja4 _) ?_
    refine zW ?_
    iterate 10 all_goals refine zW ?_
    all_goals (refine zY ?_; refine zP (jin rfl rfl (by omega)) ?_)
    all_goals (refine zY ?_; refine zP (jee (q := 1) rfl rfl rfl (by omega) (by omega)) ?_)
    iterate 3 all_goals refine zW ?_
    all_goals (
     iterate 3 refine zW ?_
     refine jao (.tmp rfl .nil) .nil ?_
     exact congrArg D.b (jlg h1 (by omega))
     )
   ·refine jar Tryz.func115 rfl Tryz.call115 rfl ?_
    refine xA (ja4 _) ?_
    refine zW ?_
    iterate 10 all_goals refine zW ?_
    all_goals refine zSk ?_
    all_goals refine zSk ?_
    iterate 3 all_goals refine zW ?_
    all_goals (
     iterate 3 refine zW ?_
     refine jao (.tmp rfl .nil) .nil ?_
     simp [resD, has, h1, h2, h3]; done
     )
  ·refine jar Tryz.func115 rfl Tryz.call115 rfl ?_
   refine xA (ja4 _) ?_
   refine zW ?_
   iterate 10 all_goals refine zW ?_
   all_goals refine zSk ?_
   all_goals refine zSk ?_
   iterate 3 all_goals refine zW ?_
   all_goals (
    iterate 3 refine zW ?_
    refine jao (.tmp rfl .nil) .nil ?_
    simp [resD, has, h1, h2]; done
    )
 ·have h1 : valid s = false := by simpa using h1
  refine jar Tryz.func115 rfl Tryz.call115 rfl ?_
  refine xA (ja4 _) ?_
  refine zW ?_
  iterate 10 all_goals refine zW ?_
  all_goals refine zSk ?_
  all_goals refine zSk ?_
  iterate 3 all_goals refine zW ?_
  all_goals (
   iterate 3 refine zW ?_
   refine jao (.tmp rfl .nil) .nil ?_
   simp [resD, has, h1]; done
   )
theorem joh (s : Int) : ∀ (t : Trust), Con none Tryz.prog 201 [av t, .i s] [] (Is (.b (sat s t)) []) := by
 have hcap := jbt
 intro t
 induction t using Trust.ind with
 | _ t ih =>
  have hl1 : (t.nodes.map D.i).length = t.nodes.length := by simp
  have hl2 := jaR t.inner
  refine jar Tryz.func201 rfl Tryz.call201 rfl ?_
  refine xX fun b2 => ?_
  refine xA (jbT _) ?_
  refine xC (fun hc => ?_) fun hc => ?_
  ·iterate 7 refine zW ?_
   refine jao (.tmp rfl .nil) .nil ?_
   first | (simp_all [resD, sat]; done)
  ·have h1 : valid s = true := by simpa using hc
   refine xN fun _ => ?_
   iterate 4 refine zW ?_
   refine jag [1, 2, 14, 15] [.box b2 _ _] (fun (k : Nat) (n : Int) r => (5, .i n) :: (16, .i (k : Int)) :: r) (fun k n r => r) (fun k n => k ≤ t.nodes.length ∧ (0 ≤ n ∧ n ≤ k) ∧ n + cnt (has s) (t.nodes.drop k) = cnt (has s) t.nodes) (fun k n => t.nodes.length - k) (0) (0) zRc ⟨by omega, by omega, by simp⟩ (zWk) ?_
   intro k n ⟨hk, hn, hI⟩
   refine xC (fun hc => ?_) fun hc => ?_
   ·have hlt : k < t.nodes.length := by have := of_decide_eq_true hc; omega
    obtain ⟨x, hx, hd⟩ := jab hlt
    have hx' := jae D.i hx
    refine xA (jfF _ _) ?_
    refine xC (fun hc => ?_) fun hc => ?_
    ·iterate 12 refine zW ?_
     refine ⟨k + 1, _, ⟨by omega, ?_, ?_⟩, by omega, zWk⟩
     ·omega
     ·rw [hd, jda] at hI; simp [hc] at hI; omega
    ·iterate 8 refine zW ?_
     refine ⟨k + 1, _, ⟨by omega, ?_, ?_⟩, by omega, zWk⟩
     ·omega
     ·rw [hd, jda] at hI; simp [hc] at hI; omega
   ·have hge : t.nodes.length ≤ k := by have := of_decide_eq_false hc; omega
    rw [jac hge] at hI; simp only [cnt] at hI
    refine xN fun _ => ?_
    iterate 4 refine zW ?_
    refine jag [1, 2, 27, 28] [.box b2 _ _] (fun (k : Nat) (n : Int) r => (5, .i n) :: (29, .i (k : Int)) :: r) (fun k n r => r) (fun k n => k ≤ t.inner.length ∧ (0 ≤ n ∧ n ≤ t.nodes.length + k) ∧ n + cntI s (t.inner.drop k) = cnt (has s) t.nodes + cntI s t.inner) (fun k n => t.inner.length - k) (0) (n) zRc ⟨by omega, by omega, by simpa using hI⟩ (zWk) ?_
    intro k n ⟨hk, hn, hI⟩
    refine xC (fun hc => ?_) fun hc => ?_
    ·have hlt : k < t.inner.length := by have := of_decide_eq_true hc; omega
     obtain ⟨x, hx, hd⟩ := jab hlt
     have hx' := jbh hx
     refine xL fun b9 => ?_
     refine xA (ih _ (List.mem_of_getElem? hx)) ?_
     refine xC (fun hc => ?_) fun hc => ?_
     ·iterate 12 refine zW ?_
      refine ⟨k + 1, _, ⟨by omega, ?_, ?_⟩, by omega, zWk⟩
      ·omega
      ·rw [hd, jcd] at hI; simp [hc] at hI; omega
     ·iterate 8 refine zW ?_
      refine ⟨k + 1, _, ⟨by omega, ?_, ?_⟩, by omega, zWk⟩
      ·omega
      ·rw [hd, jcd] at hI; simp [hc] at hI; omega
    ·have hge : t.inner.length ≤ k := by have := of_decide_eq_false hc; omega
     rw [jac hge] at hI; simp only [cntI] at hI
     iterate 15 refine zW ?_
     refine jao (.tmp rfl .nil) .nil ?_
     simp [resD, sat, h1, ← hI]
theorem jhl (s : Int) : ∀ (t : Trust), Con none Tryz.prog 69 [av t, .i s] [] (Is (.b (sat s t)) []) := by
 have hcap := jbt
 intro t
 induction t using Trust.ind with
 | _ t ih =>
  have hl1 : (t.nodes.map D.i).length = t.nodes.length := by simp
  have hl2 := jaR t.inner
  refine jar Tryz.func69 rfl Tryz.call69 rfl ?_
  refine xX fun b2 => ?_
  refine xA (ja4 _) ?_
  refine xC (fun hc => ?_) fun hc => ?_
  ·iterate 7 refine zW ?_
   refine jao (.tmp rfl .nil) .nil ?_
   first | (simp_all [resD, sat]; done)
  ·have h1 : valid s = true := by simpa using hc
   refine xN fun _ => ?_
   iterate 4 refine zW ?_
   refine jag [1, 2, 14, 15] [.box b2 _ _] (fun (k : Nat) (n : Int) r => (5, .i n) :: (16, .i (k : Int)) :: r) (fun k n r => r) (fun k n => k ≤ t.nodes.length ∧ (0 ≤ n ∧ n ≤ k) ∧ n + cnt (has s) (t.nodes.drop k) = cnt (has s) t.nodes) (fun k n => t.nodes.length - k) (0) (0) zRc ⟨by omega, by omega, by simp⟩ (zWk) ?_
   intro k n ⟨hk, hn, hI⟩
   refine xC (fun hc => ?_) fun hc => ?_
   ·have hlt : k < t.nodes.length := by have := of_decide_eq_true hc; omega
    obtain ⟨x, hx, hd⟩ := jab hlt
    have hx' := jae D.i hx
    refine xA (jcq _ _) ?_
    refine xC (fun hc => ?_) fun hc => ?_
    ·iterate 12 refine zW ?_
     refine ⟨k + 1, _, ⟨by omega, ?_, ?_⟩, by omega, zWk⟩
     ·omega
     ·rw [hd, jda] at hI; simp [hc] at hI; omega
    ·iterate 8 refine zW ?_
     refine ⟨k + 1, _, ⟨by omega, ?_, ?_⟩, by omega, zWk⟩
     ·omega
     ·rw [hd, jda] at hI; simp [hc] at hI; omega
   ·have hge : t.nodes.length ≤ k := by have := of_decide_eq_false hc; omega
    rw [jac hge] at hI; simp only [cnt] at hI
    refine xN fun _ => ?_
    iterate 4 refine zW ?_
    refine jag [1, 2, 27, 28] [.box b2 _ _] (fun (k : Nat) (n : Int) r => (5, .i n) :: (29, .i (k : Int)) :: r) (fun k n r => r) (fun k n => k ≤ t.inner.length ∧ (0 ≤ n ∧ n ≤ t.nodes.length + k) ∧ n + cntI s (t.inner.drop k) = cnt (has s) t.nodes + cntI s t.inner) (fun k n => t.inner.length - k) (0) (n) zRc ⟨by omega, by omega, by simpa using hI⟩ (zWk) ?_
    intro k n ⟨hk, hn, hI⟩
    refine xC (fun hc => ?_) fun hc => ?_
    ·have hlt : k < t.inner.length := by have := of_decide_eq_true hc; omega
     obtain ⟨x, hx, hd⟩ := jab hlt
     have hx' := jbh hx
     refine xL fun b9 => ?_
     refine xA (ih _ (List.mem_of_getElem? hx)) ?_
     refine xC (fun hc => ?_) fun hc => ?_
     ·iterate 12 refine zW ?_
      refine ⟨k + 1, _, ⟨by omega, ?_, ?_⟩, by omega, zWk⟩
      ·omega
      ·rw [hd, jcd] at hI; simp [hc] at hI; omega
     ·iterate 8 refine zW ?_
      refine ⟨k + 1, _, ⟨by omega, ?_, ?_⟩, by omega, zWk⟩
      ·omega
      ·rw [hd, jcd] at hI; simp [hc] at hI; omega
    ·have hge : t.inner.length ≤ k := by have := of_decide_eq_false hc; omega
     rw [jac hge] at hI; simp only [cntI] at hI
     iterate 15 refine zW ?_
     refine jao (.tmp rfl .nil) .nil ?_
     simp [resD, sat, h1, ← hI]
theorem jpV (m : Nat) (hm : m ≤ 1000000000) : ∀ (t : Trust), sizeT t ≤ m → Con none Tryz.prog 135 [av t] [] (Is (.i (sizeT t)) []) := by
 have hcap := jbt
 intro t
 induction t using Trust.ind with
 | _ t ih =>
  intro hsz
  have hl1 : (t.nodes.map D.i).length = t.nodes.length := by simp
  have hl2 := jaR t.inner
  have hs0 : sizeT t = t.nodes.length + t.inner.length + sizeL t.inner := rfl
  refine jar Tryz.func135 rfl Tryz.call135 rfl ?_
  refine xX fun b1 => ?_
  refine xN fun _ => ?_
  refine xN fun _ => ?_
  refine xN fun _ => ?_
  iterate 4 refine zW ?_
  refine jag [14, 15] [] (fun (k : Nat) (n : Nat) r => (3, .i (n : Int)) :: (16, .i (k : Int)) :: r) (fun k n r => r) (fun k n => k ≤ t.inner.length ∧ n + sizeL (t.inner.drop k) = sizeT t) (fun k n => t.inner.length - k) (0) (t.nodes.length + t.inner.length) zRc ⟨by omega, by simp; omega⟩ (by rw [← hl1, ← hl2]; exact zWk) ?_
  intro k n ⟨hk, hI⟩
  refine xC (fun hc => ?_) fun hc => ?_
  ·have hlt : k < t.inner.length := by have := of_decide_eq_true hc; omega
   obtain ⟨x, hx, hd⟩ := jab hlt
   have hx' := jbh hx
   have hxm := List.mem_of_getElem? hx
   refine xL fun b5 => ?_
   refine xA (ih _ hxm (by have := jbV hxm; omega)) ?_
   (have hq := hI; rw [hd, jbN] at hq; refine zP (jb0 rfl rfl rfl (by omega)) ?_)
   iterate 9 refine zW ?_
   rw [hd, jbN] at hI
   refine ⟨k + 1, n + sizeT x, ⟨by omega, by omega⟩, by omega, zWk⟩
  ·have hge : t.inner.length ≤ k := by have := of_decide_eq_false hc; omega
   rw [jac hge] at hI; simp only [sizeL] at hI
   iterate 12 refine zW ?_
   refine jao (.tmp rfl .nil) .nil ?_
   simp only [resD]; rw [← hI]; rfl
theorem jrp (m : Nat) (hm : m ≤ 1000000000) : ∀ (t : Trust), sizeT t ≤ m → Con none Tryz.prog 190 [av t] [] (Is (.i (sizeT t)) []) := by
 have hcap := jbt
 intro t
 induction t using Trust.ind with
 | _ t ih =>
  intro hsz
  have hl1 : (t.nodes.map D.i).length = t.nodes.length := by simp
  have hl2 := jaR t.inner
  have hs0 : sizeT t = t.nodes.length + t.inner.length + sizeL t.inner := rfl
  refine jar Tryz.func190 rfl Tryz.call190 rfl ?_
  refine xX fun b1 => ?_
  refine xN fun _ => ?_
  refine xN fun _ => ?_
  refine xN fun _ => ?_
  iterate 4 refine zW ?_
  refine jag [14, 15] [] (fun (k : Nat) (n : Nat) r => (3, .i (n : Int)) :: (16, .i (k : Int)) :: r) (fun k n r => r) (fun k n => k ≤ t.inner.length ∧ n + sizeL (t.inner.drop k) = sizeT t) (fun k n => t.inner.length - k) (0) (t.nodes.length + t.inner.length) zRc ⟨by omega, by simp; omega⟩ (by rw [← hl1, ← hl2]; exact zWk) ?_
  intro k n ⟨hk, hI⟩
  refine xC (fun hc => ?_) fun hc => ?_
  ·have hlt : k < t.inner.length := by have := of_decide_eq_true hc; omega
   obtain ⟨x, hx, hd⟩ := jab hlt
   have hx' := jbh hx
   have hxm := List.mem_of_getElem? hx
   refine xL fun b5 => ?_
   refine xA (ih _ hxm (by have := jbV hxm; omega)) ?_
   (have hq := hI; rw [hd, jbN] at hq; refine zP (jb0 rfl rfl rfl (by omega)) ?_)
   iterate 9 refine zW ?_
   rw [hd, jbN] at hI
   refine ⟨k + 1, n + sizeT x, ⟨by omega, by omega⟩, by omega, zWk⟩
  ·have hge : t.inner.length ≤ k := by have := of_decide_eq_false hc; omega
   rw [jac hge] at hI; simp only [sizeL] at hI
   iterate 12 refine zW ?_
   refine jao (.tmp rfl .nil) .nil ?_
   simp only [resD]; rw [← hI]; rfl
theorem jmH (m : Nat) (hm : m ≤ 1000000000) : ∀ (t : Trust), sizeT t ≤ m → Con none Tryz.prog 134 [av t] [] (Is (.i (depthT t)) []) := by
 have hcap := jbt
 intro t
 induction t using Trust.ind with
 | _ t ih =>
  intro hsz
  have hl2 := jaR t.inner
  have hs0 : sizeT t = t.nodes.length + t.inner.length + sizeL t.inner := rfl
  have hdd := jdE t
  have hd0 : depthT t = depthL t.inner + 1 := rfl
  refine jar Tryz.func134 rfl Tryz.call134 rfl ?_
  refine xX fun b1 => ?_
  refine xN fun _ => ?_
  iterate 4 refine zW ?_
  refine jag [7, 8] [] (fun (k : Nat) (n : Nat) r => (3, .i (n : Int)) :: (9, .i (k : Int)) :: r) (fun k n r => r) (fun k n => k ≤ t.inner.length ∧ max n (depthL (t.inner.drop k)) = depthL t.inner) (fun k n => t.inner.length - k) (0) (0) zRc ⟨by omega, by simp⟩ (zWk) ?_
  intro k n ⟨hk, hI⟩
  refine xC (fun hc => ?_) fun hc => ?_
  ·have hlt : k < t.inner.length := by have := of_decide_eq_true hc; omega
   obtain ⟨x, hx, hd⟩ := jab hlt
   have hx' := jbh hx
   have hxm := List.mem_of_getElem? hx
   refine xL fun b5 => ?_
   refine xA (ih _ hxm (by have := jbV hxm; omega)) ?_
   iterate 10 refine zW ?_
   rw [hd, jcx] at hI
   have hmx : max (n : Int) (depthT x) = ((max n (depthT x) : Nat) : Int) := by omega
   rw [hmx]
   refine ⟨k + 1, max n (depthT x), ⟨by omega, by omega⟩, by omega, zWk⟩
  ·have hge : t.inner.length ≤ k := by have := of_decide_eq_false hc; omega
   rw [jac hge] at hI; simp only [depthL] at hI
   iterate 13 refine zW ?_
   refine jao (.tmp rfl .nil) .nil ?_
   simp only [resD]; rw [hd0, ← hI]; simp
theorem joN (m : Nat) (hm : m ≤ 1000000000) : ∀ (t : Trust), sizeT t ≤ m → Con none Tryz.prog 189 [av t] [] (Is (.i (depthT t)) []) := by
 have hcap := jbt
 intro t
 induction t using Trust.ind with
 | _ t ih =>
  intro hsz
  have hl2 := jaR t.inner
  have hs0 : sizeT t = t.nodes.length + t.inner.length + sizeL t.inner := rfl
  have hdd := jdE t
  have hd0 : depthT t = depthL t.inner + 1 := rfl
  refine jar Tryz.func189 rfl Tryz.call189 rfl ?_
  refine xX fun b1 => ?_
  refine xN fun _ => ?_
  iterate 4 refine zW ?_
  refine jag [7, 8] [] (fun (k : Nat) (n : Nat) r => (3, .i (n : Int)) :: (9, .i (k : Int)) :: r) (fun k n r => r) (fun k n => k ≤ t.inner.length ∧ max n (depthL (t.inner.drop k)) = depthL t.inner) (fun k n => t.inner.length - k) (0) (0) zRc ⟨by omega, by simp⟩ (zWk) ?_
  intro k n ⟨hk, hI⟩
  refine xC (fun hc => ?_) fun hc => ?_
  ·have hlt : k < t.inner.length := by have := of_decide_eq_true hc; omega
   obtain ⟨x, hx, hd⟩ := jab hlt
   have hx' := jbh hx
   have hxm := List.mem_of_getElem? hx
   refine xL fun b5 => ?_
   refine xA (ih _ hxm (by have := jbV hxm; omega)) ?_
   iterate 10 refine zW ?_
   rw [hd, jcx] at hI
   have hmx : max (n : Int) (depthT x) = ((max n (depthT x) : Nat) : Int) := by omega
   rw [hmx]
   refine ⟨k + 1, max n (depthT x), ⟨by omega, by omega⟩, by omega, zWk⟩
  ·have hge : t.inner.length ≤ k := by have := of_decide_eq_false hc; omega
   rw [jac hge] at hI; simp only [depthL] at hI
   iterate 13 refine zW ?_
   refine jao (.tmp rfl .nil) .nil ?_
   simp only [resD]; rw [hd0, ← hI]; simp
theorem jsV (h1 : decide (x < 0) = false) (h2 : decide (10 ≤ x) = false) : ∃ q : Nat, x = q ∧ q < 10 := by
 have h3 := of_decide_eq_false h1
 have h4 := of_decide_eq_false h2
 obtain ⟨q, rfl⟩ := Int.eq_ofNat_of_zero_le (show 0 ≤ x by omega)
 exact ⟨q, rfl, by omega⟩
theorem jb5 {q : Nat} (h : s < 1024) (hq : q < 10) : s ||| 1 * 2 ^ q < 1024 := by
 rw [Nat.one_mul]
 exact Nat.or_lt_two_pow (n := 10) h (Nat.pow_lt_pow_right (by omega) hq)
theorem jtC (l : List Int) : Con none Tryz.prog 164 [.sl 1 (l.map .i)] [] (Is (.tup [.i (ofGo 0 l).1, .i (ofGo 0 l).2]) []) := by
 refine xI Tryz.func164 Tryz.call164 fun hcap => ?_
 have hl1 : (l.map D.i).length = l.length := by simp
 refine xN fun _ => ?_
 iterate 4 refine zW ?_
 refine jag [7, 8] [] (fun (k : Nat) (s : Nat) r => (4, .i (s : Int)) :: (9, .i (k : Int)) :: r) (fun k s r => r) (fun k s => k ≤ l.length ∧ s < 1024 ∧ ofGo s (l.drop k) = ofGo 0 l) (fun k s => l.length - k) (0) (0) zRc ⟨by omega, by omega, by simp⟩ (zWk) ?_
 intro k s ⟨hk, hs, hI⟩
 refine xC (fun hc => ?_) fun hc => ?_
 ·have hlt : k < l.length := by have := of_decide_eq_true hc; omega
  obtain ⟨x, hx, hd⟩ := jab hlt
  have hx' := jae D.i hx
  iterate 17 refine zW ?_
  iterate 3 all_goals first | refine zW ?_ | refine xG (fun hg => ?_) fun hg => ?_
  all_goals (
   refine xC (fun hc => ?_) fun hc => ?_
   ·first
    | (exact absurd hc (by decide))
    | (iterate 13 refine zW ?_
       refine jao (.tmp rfl (.tmp rfl .nil)) .nil ?_
       rw [hd, ofGo, if_pos (by first | (have := of_decide_eq_true hg; omega) | (have := of_decide_eq_true hc; omega))] at hI
       rw [← hI]; rfl
     )
   ·first
    | (exact absurd hc (by decide))
    | (have hc2 := hc
       refine xA (jcq _ _) ?_
       refine xC (fun hc => ?_) fun hc => ?_
       ·iterate 13 refine zW ?_
        refine jao (.tmp rfl (.tmp rfl .nil)) .nil ?_
        have h3 := of_decide_eq_false hg
        have h4 := of_decide_eq_false hc2
        rw [hd, ofGo, if_neg (by omega), if_pos hc] at hI
        rw [← hI]; rfl
       ·refine zW ?_; refine zW ?_
        obtain ⟨q, rfl, hq⟩ := jsV hg hc2
        have hp2 := jaG hq
        iterate 3 refine zW ?_
        refine zP (ja2 (p := 1) rfl rfl rfl (by omega) (by omega)) ?_
        iterate 10 refine zW ?_
        rw [hd, ofGo, if_neg (by omega), if_neg (by simp [hc])] at hI
        refine ⟨k + 1, s ||| 1 * 2 ^ q, ⟨by omega, jb5 hs hq, ?_⟩, by omega, zWk⟩
        simpa using hI
     )
   )
 ·have hge : l.length ≤ k := by have := of_decide_eq_false hc; omega
  rw [jac hge] at hI; simp only [ofGo] at hI
  iterate 13 refine zW ?_
  refine jao (.tmp rfl (.tmp rfl .nil)) .nil ?_
  rw [← hI]; rfl
theorem jmS {l : List Int} {k : Nat} (h : l[k]? = some x) (hx : badN x = true) : l.any badN = true :=
 List.any_eq_true.2 ⟨x, List.mem_of_getElem? h, hx⟩
theorem jmD {r : List Int} (h1 : decide (x < 0) = false) (h2 : decide (10 ≤ x) = false) : (x :: r).any badN = r.any badN := by
 simp [badN, h1, h2]
theorem jnp : ∀ (t : Trust), Con none Tryz.prog 136 [av t] [] (Is (.i (checkT t)) []) := by
 have hcap := jbt
 intro t
 induction t using Trust.ind with
 | _ t ih =>
  have hl1 : (t.nodes.map D.i).length = t.nodes.length := by simp
  have hl2 := jaR t.inner
  refine jar Tryz.func136 rfl Tryz.call136 rfl ?_
  refine xX fun b1 => ?_
  iterate 10 refine zW ?_
  iterate 4 all_goals first | refine zW ?_ | refine xG (fun hg => ?_) fun hg => ?_
  all_goals first | (refine zY ?_; (first | refine zLn fun _ => ?_ | refine zW ?_)) | refine zSk ?_
  iterate 2 all_goals refine zW ?_
  all_goals first | (refine zY ?_; (first | refine zLn fun _ => ?_ | refine zW ?_)) | refine zSk ?_
  iterate 3 all_goals refine zW ?_
  all_goals (
   refine xC (fun hc => ?_) fun hc => ?_
   ·first
    | (exact absurd hc (by decide))
    | (iterate 7 refine zW ?_
       refine jao (.tmp rfl .nil) .nil ?_
       simp only [resD, checkT]; rw [if_pos (by first | (have := of_decide_eq_true hg; omega) | (have := of_decide_eq_true hc; omega))]
     )
   ·first
    | (exact absurd hc (by decide))
    | (have hth : ¬ (t.th < 1 ∨ (t.nodes.length + t.inner.length : Int) < t.th) := by have h1 := of_decide_eq_false hg; have h2 := of_decide_eq_false hc; omega
       refine xN fun _ => ?_
       iterate 4 refine zW ?_
       refine jai [1, 26, 27] [.box b1 _ _] (fun (k : Nat) r => (28, .i (k : Int)) :: r) (fun k r => r) (fun k => k ≤ t.nodes.length ∧ (t.nodes.drop k).any badN = t.nodes.any badN) (fun k => t.nodes.length - k) (0) zRc ⟨by omega, by simp⟩ (zWk) ?_
       intro k ⟨hk, hI⟩
       refine xC (fun hc => ?_) fun hc => ?_
       ·have hlt : k < t.nodes.length := by have := of_decide_eq_true hc; omega
        obtain ⟨x, hx, hd⟩ := jab hlt
        have hx' := jae D.i hx
        iterate 16 refine zW ?_
        iterate 3 all_goals first | refine zW ?_ | refine xG (fun hg => ?_) fun hg => ?_
        all_goals (
         refine xC (fun hc => ?_) fun hc => ?_
         ·first
          | (exact absurd hc (by decide))
          | (iterate 11 refine zW ?_
             refine jao (.tmp rfl .nil) .nil ?_
             simp only [resD, checkT]; rw [if_neg hth, if_pos (jmS hx (by first | (simp only [badN, hg]; rfl) | (simp only [badN, hc, Bool.or_true])))]
           )
         ·first
          | (exact absurd hc (by decide))
          | (have hc2 := hc
             iterate 8 refine zW ?_
             rw [hd, jmD hg hc2] at hI
             refine ⟨k + 1, ⟨by omega, hI⟩, by omega, zWk⟩
           )
         )
       ·have hge : t.nodes.length ≤ k := by have := of_decide_eq_false hc; omega
        rw [jac hge] at hI; simp only [List.any_nil] at hI
        have hany : t.nodes.any badN = false := hI.symm
        refine xA (jtC _) ?_
        refine xC (fun hc => ?_) fun hc => ?_
        ·have he := hc
         iterate 8 refine zW ?_
         refine jao (.tmp rfl .nil) .nil ?_
         simp only [resD, checkT]; rw [if_neg hth, if_neg (by rw [hany]; simp), if_pos (by simpa using he)]
        ·have he := hc
         refine xN fun _ => ?_
         iterate 4 refine zW ?_
         refine jai [49, 50] [] (fun (k : Nat) r => (51, .i (k : Int)) :: r) (fun k r => r) (fun k => k ≤ t.inner.length ∧ checkL (t.inner.drop k) = checkL t.inner) (fun k => t.inner.length - k) (0) zRc ⟨by omega, by simp⟩ (zWk) ?_
         intro k ⟨hk, hI⟩
         refine xC (fun hc => ?_) fun hc => ?_
         ·have hlt : k < t.inner.length := by have := of_decide_eq_true hc; omega
          obtain ⟨x, hx, hd⟩ := jab hlt
          have hx' := jbh hx
          have hxm := List.mem_of_getElem? hx
          refine xL fun b8 => ?_
          refine xA (ih _ hxm) ?_
          refine xC (fun hc => ?_) fun hc => ?_
          ·iterate 12 refine zW ?_
           refine jao (.tmp rfl .nil) .nil ?_
           rw [hd, jbu, if_pos (by simpa using hc)] at hI
           have e : checkT t = checkL t.inner := by unfold checkT; rw [if_neg hth, if_neg (by rw [hany]; simp), if_neg (by simpa using he)]
           simp only [resD]; rw [e, ← hI]
          ·iterate 8 refine zW ?_
           have hz := of_decide_eq_true (Bool.not_eq_false' .. ▸ hc)
           rw [hd, jbu, if_neg (by simpa using hz)] at hI
           refine ⟨k + 1, ⟨by omega, hI⟩, by omega, zWk⟩
         ·have hge : t.inner.length ≤ k := by have := of_decide_eq_false hc; omega
          rw [jac hge] at hI; simp only [checkL] at hI
          iterate 11 refine zW ?_
          refine jao (.tmp rfl .nil) .nil ?_
          have e : checkT t = checkL t.inner := by unfold checkT; rw [if_neg hth, if_neg (by rw [hany]; simp), if_neg (by simpa using he)]
          simp only [resD]; rw [e, ← hI]
     )
   )
theorem jaN (t : Trust) (ht : sizeT t ≤ 1000000000) : Con none Tryz.prog 97 [av t] [] (Is (.i (validT t)) []) := by
 refine xI Tryz.func97 Tryz.call97 fun hcap => ?_
 refine xX fun b1 => ?_
 refine xA (jmH 1000000000 (by omega) t ht) ?_
 refine zW ?_; refine zW ?_
 all_goals refine xG (fun hg => ?_) fun hg => ?_
 all_goals first | (refine zY ?_; refine jaa zRc (jpV 1000000000 (by omega) t ht) rfl rfl ?_) | refine zSk ?_
 iterate 2 all_goals refine zW ?_
 all_goals (
  refine xC (fun hc => ?_) fun hc => ?_
  ·first
   | (exact absurd hc (by decide))
   | (iterate 7 refine zW ?_
      refine jao (.tmp rfl .nil) .nil ?_
      simp only [resD, validT]; rw [if_pos (by first | (have := of_decide_eq_true hg; omega) | (have := of_decide_eq_true hc; omega))]
    )
  ·first
   | (exact absurd hc (by decide))
   | (iterate 5 refine zW ?_
      refine xA (jnp t) ?_
      iterate 4 refine zW ?_
      refine jao (.tmp rfl .nil) .nil ?_
      simp only [resD, validT]; rw [if_neg (by have h1 := of_decide_eq_false hg; have h2 := of_decide_eq_false hc; omega)]
    )
  )
theorem jlM (k : Int) : Con none Tryz.prog 192 [.i k] [] (Is (.b (nd k)) []) := by
 refine xI Tryz.func192 Tryz.call192 fun hcap => ?_
 iterate 10 refine zW ?_
 iterate 4 all_goals first | refine zW ?_ | refine xG (fun hg => ?_) fun hg => ?_
 all_goals (
  iterate 3 refine zW ?_
  refine jao (.tmp rfl .nil) .nil ?_
  first | (simp_all [resD, nd]; done) | (simp_all [resD, nd]; omega)
  )
theorem jqH : ∀ (t : Trust), Con none Tryz.prog 152 [av t] [] (Is (.i (uses t : Int)) []) := by
 have hcap := jbt
 intro t
 induction t using Trust.ind with
 | _ t ih =>
  have hl1 : (t.nodes.map D.i).length = t.nodes.length := by simp
  have hl2 := jaR t.inner
  refine jar Tryz.func152 rfl Tryz.call152 rfl ?_
  refine xX fun b1 => ?_
  refine xN fun _ => ?_
  iterate 4 refine zW ?_
  refine jag [1, 9, 10] [.box b1 _ _] (fun (k : Nat) (s : Nat) r => (3, .i (s : Int)) :: (11, .i (k : Int)) :: r) (fun k s r => r) (fun k s => k ≤ t.nodes.length ∧ s < 1024 ∧ usesN s (t.nodes.drop k) = usesN 0 t.nodes) (fun k s => t.nodes.length - k) (0) (0) zRc ⟨by omega, by omega, by simp⟩ (zWk) ?_
  intro k s ⟨hk, hs, hI⟩
  refine xC (fun hc => ?_) fun hc => ?_
  ·have hlt : k < t.nodes.length := by have := of_decide_eq_true hc; omega
   obtain ⟨x, hx, hd⟩ := jab hlt
   have hx' := jae D.i hx
   refine xA (jlM _) ?_
   refine xC (fun hc => ?_) fun hc => ?_
   ·have hx01 : 0 ≤ x ∧ x < 10 := by simpa [nd] using hc
    have hnd : nd x = true := by simp [nd]; omega
    obtain ⟨q, rfl⟩ := Int.eq_ofNat_of_zero_le hx01.1
    have hq : q < 10 := by omega
    have hp2 := jaG hq
    have hIt := hI
    rw [hd, usesN, if_pos hnd] at hIt
    iterate 3 refine zW ?_
    refine zP (ja2 (p := 1) rfl rfl rfl (by omega) (by omega)) ?_
    iterate 10 refine zW ?_
    refine ⟨k + 1, s ||| 1 * 2 ^ q, ⟨by omega, jb5 hs hq, by simpa using hIt⟩, by omega, zWk⟩
   ·have hIf := hI
    rw [hd, usesN, if_neg (by first | (unfold nd; simp only [hg, Bool.false_and]; decide) | (unfold nd; simp only [hc, Bool.and_false]; decide) | (simp only [hc]; decide))] at hIf
    iterate 8 refine zW ?_
    refine ⟨k + 1, s, ⟨by omega, hs, hIf⟩, by omega, zWk⟩
  ·have hge : t.nodes.length ≤ k := by have := of_decide_eq_false hc; omega
   rw [jac hge] at hI; simp only [usesN] at hI
   refine xN fun _ => ?_
   iterate 4 refine zW ?_
   refine jag [23, 24] [] (fun (k : Nat) (s : Nat) r => (3, .i (s : Int)) :: (25, .i (k : Int)) :: r) (fun k s r => r) (fun k s => k ≤ t.inner.length ∧ s < 1024 ∧ usesL s (t.inner.drop k) = uses t) (fun k s => t.inner.length - k) (0) (s) zRc ⟨by omega, hs, by simp [uses, ← hI]⟩ (zWk) ?_
   intro k s ⟨hk, hs, hI⟩
   refine xC (fun hc => ?_) fun hc => ?_
   ·have hlt : k < t.inner.length := by have := of_decide_eq_true hc; omega
    obtain ⟨x, hx, hd⟩ := jab hlt
    have hx' := jbh hx
    have hxm := List.mem_of_getElem? hx
    have hux := jec x
    refine xL fun b7 => ?_
    refine xA (ih _ hxm) ?_
    iterate 10 refine zW ?_
    rw [hd, jc6] at hI
    refine ⟨k + 1, s ||| uses x, ⟨by omega, Nat.or_lt_two_pow (n := 10) hs (jec x), hI⟩, by omega, zWk⟩
   ·have hge : t.inner.length ≤ k := by have := of_decide_eq_false hc; omega
    rw [jac hge] at hI; simp only [usesL] at hI
    iterate 12 refine zW ?_
    refine jao (.tmp rfl .nil) .nil ?_
    rw [hI]; rfl
theorem jom : ∀ (t : Trust), Con none Tryz.prog 98 [av t] [] (Is (.i (uses t : Int)) []) := by
 have hcap := jbt
 intro t
 induction t using Trust.ind with
 | _ t ih =>
  have hl1 : (t.nodes.map D.i).length = t.nodes.length := by simp
  have hl2 := jaR t.inner
  refine jar Tryz.func98 rfl Tryz.call98 rfl ?_
  refine xX fun b1 => ?_
  refine xN fun _ => ?_
  iterate 4 refine zW ?_
  refine jag [1, 9, 10] [.box b1 _ _] (fun (k : Nat) (s : Nat) r => (3, .i (s : Int)) :: (11, .i (k : Int)) :: r) (fun k s r => r) (fun k s => k ≤ t.nodes.length ∧ s < 1024 ∧ usesN s (t.nodes.drop k) = usesN 0 t.nodes) (fun k s => t.nodes.length - k) (0) (0) zRc ⟨by omega, by omega, by simp⟩ (zWk) ?_
  intro k s ⟨hk, hs, hI⟩
  refine xC (fun hc => ?_) fun hc => ?_
  ·have hlt : k < t.nodes.length := by have := of_decide_eq_true hc; omega
   obtain ⟨x, hx, hd⟩ := jab hlt
   have hx' := jae D.i hx
   iterate 16 refine zW ?_
   iterate 3 all_goals first | refine zW ?_ | refine xG (fun hg => ?_) fun hg => ?_
   all_goals (
    refine xC (fun hc => ?_) fun hc => ?_
    ·first
     | (exact absurd hc (by decide))
     | (have hx01 : 0 ≤ x ∧ x < 10 := by have h1 := of_decide_eq_true hc; have h2 := of_decide_eq_true hg; omega
        have hnd : nd x = true := by simp [nd]; omega
        obtain ⟨q, rfl⟩ := Int.eq_ofNat_of_zero_le hx01.1
        have hq : q < 10 := by omega
        have hp2 := jaG hq
        have hIt := hI
        rw [hd, usesN, if_pos hnd] at hIt
        iterate 3 refine zW ?_
        refine zP (ja2 (p := 1) rfl rfl rfl (by omega) (by omega)) ?_
        iterate 10 refine zW ?_
        refine ⟨k + 1, s ||| 1 * 2 ^ q, ⟨by omega, jb5 hs hq, by simpa using hIt⟩, by omega, zWk⟩
      )
    ·first
     | (exact absurd hc (by decide))
     | (have hIf := hI
        rw [hd, usesN, if_neg (by first | (unfold nd; simp only [hg, Bool.false_and]; decide) | (unfold nd; simp only [hc, Bool.and_false]; decide) | (simp only [hc]; decide))] at hIf
        iterate 8 refine zW ?_
        refine ⟨k + 1, s, ⟨by omega, hs, hIf⟩, by omega, zWk⟩
      )
    )
  ·have hge : t.nodes.length ≤ k := by have := of_decide_eq_false hc; omega
   rw [jac hge] at hI; simp only [usesN] at hI
   refine xN fun _ => ?_
   iterate 4 refine zW ?_
   refine jag [27, 28] [] (fun (k : Nat) (s : Nat) r => (3, .i (s : Int)) :: (29, .i (k : Int)) :: r) (fun k s r => r) (fun k s => k ≤ t.inner.length ∧ s < 1024 ∧ usesL s (t.inner.drop k) = uses t) (fun k s => t.inner.length - k) (0) (s) zRc ⟨by omega, hs, by simp [uses, ← hI]⟩ (zWk) ?_
   intro k s ⟨hk, hs, hI⟩
   refine xC (fun hc => ?_) fun hc => ?_
   ·have hlt : k < t.inner.length := by have := of_decide_eq_true hc; omega
    obtain ⟨x, hx, hd⟩ := jab hlt
    have hx' := jbh hx
    have hxm := List.mem_of_getElem? hx
    have hux := jec x
    refine xL fun b7 => ?_
    refine xA (ih _ hxm) ?_
    iterate 10 refine zW ?_
    rw [hd, jc6] at hI
    refine ⟨k + 1, s ||| uses x, ⟨by omega, Nat.or_lt_two_pow (n := 10) hs (jec x), hI⟩, by omega, zWk⟩
   ·have hge : t.inner.length ≤ k := by have := of_decide_eq_false hc; omega
    rw [jac hge] at hI; simp only [usesL] at hI
    iterate 12 refine zW ?_
    refine jao (.tmp rfl .nil) .nil ?_
    rw [hI]; rfl
theorem jhh {α : Type} {p : α → Prop} {q : List α} {x : α} (h : ∀ y ∈ q, p y) (hx : p x) : ∀ y ∈ q ++ [x], p y := fun y hy => by
 rcases List.mem_append.1 hy with hy | hy
 ·exact h y hy
 ·obtain rfl : y = x := by simpa using hy
  exact hx
def tx : Trust := .mk 2 [0, 1] [.mk 1 [2, 3] []]
def ty : Trust := .mk 2 [0, 1] [.mk 2 [2, 3] []]
theorem k0 : Con none Tryz.prog 201 [av tx, .i 5] [] (Is (.b true) []) := by
 have h := joh 5 tx
 rwa [show sat 5 tx = true from by decide] at h
theorem jau {c : Bool} (h : (!c) = true) : c = false := by simpa using h
theorem jat {c : Bool} (h : (!c) = false) : c = true := by simpa using h
theorem jb2 (s : Int) (k : Nat) : (upTo (k + 1)).filter (fun x => has s x) = (upTo k).filter (fun x => has s x) ++ (if has s k = true then [(k : Int)] else []) := by
 rw [jn4, List.filter_append]
 cases h : has s k <;> simp [h]
theorem jiQ (s : Int) : Con none Tryz.prog 75 [.i s] [] (Is (.sl 1 ((nodesOf s).map .i)) []) := by
 refine xI Tryz.func75 Tryz.call75 fun hcap => ?_
 iterate 17 refine zW ?_
 refine jaO [0] [] (fun (k : Nat) (v : Value) (q : List Int) r => (3, .v v) :: (5, .i (k : Int)) :: r) (fun k v q r => .arr v 3 1 (q.map .i) :: r) (fun k v q => k ≤ 10 ∧ q.length ≤ k ∧ q = (upTo k).filter fun x => has s x) (fun k v q => 10 - k) (0) (.slice none 0 0) ([]) zRc ⟨by omega, by simp, rfl⟩ ((jaM 3 1 rfl).trans (zWk)) ?_
 intro k v q ⟨hk, hql, hI⟩
 refine xC (fun hc => ?_) fun hc => ?_
 ·have hlt := of_decide_eq_true hc
  refine xE (jfF _ _) fun c10 hc10 => ?_
  refine xC (fun hc => ?_) fun hc => ?_
  ·iterate 3 refine zW ?_
   refine xLt 3 1 8 ?_
   refine xEa 3 1 8 fun v14 hv14 => ?_
   iterate 9 refine zW ?_
   rw [jbB]; refine ⟨k + 1, _, q ++ [(k : Int)], ⟨by omega, by simp only [List.length_append, List.length_cons, List.length_nil]; omega, by rw [jb2, if_pos (hc10.trans (by with_reducible assumption)), ← hI]⟩, by omega, zWk⟩
  ·iterate 8 refine zW ?_
   refine ⟨k + 1, _, q, ⟨by omega, by omega, by rw [jb2, if_neg (by rw [hc10.trans (by with_reducible assumption)]; decide), ← hI, List.append_nil]⟩, by omega, zWk⟩
 ·have hge := of_decide_eq_false hc
  obtain rfl : k = 10 := by omega
  iterate 6 refine zW ?_
  refine zFz v [3] ?_
  refine xP ?_
  rw [hI]; rfl
theorem jkm (c : List Mem) (k : Nat) (m : Mem) (hm : c[k]? = some m) (s : Int) : Con none Tryz.prog 163 [cv c, .i k, .i s] [] (Is (.b (sat s m.t)) []) := by
 refine xI Tryz.func163 Tryz.call163 fun hcap => ?_
 have hx' := jae mv hm
 refine xX fun b3 => ?_
 refine xA (joh _ m.t) ?_
 refine xP ?_; exact rfl
theorem jsd (c : List Mem) : Con none Tryz.prog 162 [cv c] [] (Is (.i (declC c : Int)) []) := by
 refine xI Tryz.func162 Tryz.call162 fun hcap => ?_
 have hl1 : (c.map mv).length = c.length := by simp
 refine xX fun b1 => ?_
 refine xN fun _ => ?_
 iterate 4 refine zW ?_
 refine jag [7, 8] [] (fun (k : Nat) (s : Nat) r => (3, .i (s : Int)) :: (9, .i (k : Int)) :: r) (fun k s r => r) (fun k s => k ≤ c.length ∧ s < 1024 ∧ declGo s k (c.drop k) = declC c) (fun k s => c.length - k) (0) (0) zRc ⟨by omega, by omega, by simp [declC]⟩ (zWk) ?_
 intro k s ⟨hk, hs, hI⟩
 refine xC (fun hc => ?_) fun hc => ?_
 ·have hlt := of_decide_eq_true hc
  obtain ⟨x, hx, hd⟩ := jab (l := c) (k := k) (by omega)
  have hx' := jae mv hx
  refine xL fun b5 => ?_
  iterate 9 refine zW ?_
  iterate 3 all_goals first | refine zW ?_ | refine xG (fun hg => ?_) fun hg => ?_
  all_goals (
   refine xC (fun hc => ?_) fun hc => ?_
   ·first
    | (exact absurd hc (by decide))
    | (have h19 := of_decide_eq_true hc
       have hp := jaG (k := k) (by omega)
       iterate 3 refine zW ?_
       refine zP (ja2 (p := 1) rfl rfl rfl (by omega) (by omega)) ?_
       iterate 10 refine zW ?_
       rw [hd] at hI; simp only [declGo] at hI
       rw [if_pos (by rw [show x.decl = true by with_reducible assumption, show decide ((k : Int) < 10) = true by with_reducible assumption]; rfl)] at hI; refine ⟨k + 1, s ||| 2 ^ k, ⟨by omega, Nat.or_lt_two_pow (n := 10) hs (jaG (by omega)), hI⟩, by omega, ?_⟩; rw [Nat.one_mul]; exact (zWk)
     )
   ·first
    | (exact absurd hc (by decide))
    | (iterate 8 refine zW ?_
       rw [hd] at hI; simp only [declGo] at hI
       first | (rw [if_pos (by rw [show x.decl = true by with_reducible assumption, show decide ((k : Int) < 10) = true by with_reducible assumption]; rfl)] at hI; refine ⟨k + 1, s ||| 2 ^ k, ⟨by omega, Nat.or_lt_two_pow (n := 10) hs (jaG (by omega)), hI⟩, by omega, ?_⟩; rw [Nat.one_mul]; exact (zWk)) | (rw [if_neg (by first | (rw [show x.decl = false by with_reducible assumption]; simp; done) | (rw [show decide ((k : Int) < 10) = false by with_reducible assumption]; simp; done))] at hI; refine ⟨k + 1, s, ⟨by omega, hs, hI⟩, by omega, zWk⟩)
     )
   )
 ·have hge := of_decide_eq_false hc
  rw [jac (by omega)] at hI; simp only [declGo] at hI
  refine xP ?_
  rw [← hI]; rfl
theorem jux (c : List Mem) (s : Nat) (hs : s < 1024) (hin : In c s) : Con none Tryz.prog 130 [cv c, .i s] [] (fun d H => ∃ (k : Int) (b : Bool), d = .tup [.i k, .b b] ∧ (b = true → unh c s = some k) ∧ (b = false → unh c s = none) ∧ H = []) := by
 refine xI Tryz.func130 Tryz.call130 fun hcap => ?_
 have hl1 : ((nodesOf s).map D.i).length = (nodesOf s).length := by simp
 refine xX fun b2 => ?_
 refine xA (jiQ _) ?_
 refine zLn fun _ => ?_
 iterate 4 refine zW ?_
 refine jai [1, 2, 9, 10] [.box b2 _ _] (fun (k : Nat) r => (11, .i (k : Int)) :: r) (fun k r => r) (fun k => k ≤ (nodesOf s).length ∧ unh c s = ((nodesOf s).drop k).find? (bad c s)) (fun k => (nodesOf s).length - k) (0) zRc ⟨by omega, by unfold unh; simp⟩ (zWk) ?_
 intro k ⟨hk, hI⟩
 refine xC (fun hc => ?_) fun hc => ?_
 ·have hlt := of_decide_eq_true hc
  obtain ⟨x, hx, hd⟩ := jab (l := nodesOf s) (k := k) (by omega)
  obtain ⟨j, m, rfl, hj, hm, hmd⟩ := hin.get hs (ja1.1 (List.mem_of_getElem? hx))
  have hx' := jae D.i hx
  refine xE (jkm c j m hm _) fun c18 hc18 => ?_
  refine xC (fun hc => ?_) fun hc => ?_
  ·iterate 13 refine zW ?_
   refine jaT (.tmp rfl (.tmp rfl .nil)) jcw ⟨_, _, rfl, fun _ => ?_, fun h => (by cases h), rfl⟩
   rw [hI, hd, List.find?_cons_of_pos (by unfold bad; rw [jbf hm, hc18]; exact hc)]
  ·iterate 8 refine zW ?_
   rw [hd, List.find?_cons_of_neg (by unfold bad; rw [jbf hm, hc18, jat hc]; decide)] at hI
   refine ⟨k + 1, ⟨by omega, hI⟩, by omega, zWk⟩
 ·have hge := of_decide_eq_false hc
  rw [jac (by omega)] at hI; simp only [List.find?_nil] at hI
  iterate 12 refine zW ?_
  refine jaT (.tmp rfl (.tmp rfl .nil)) jcw ⟨_, _, rfl, fun h => (by cases h), fun _ => hI, rfl⟩
theorem jmj (c : List Mem) (s0 : Int) : Con none Tryz.prog 132 [cv c, .i s0] [] (Is (.tup [.i (great c s0 : Int), .sl 1 ((gOrder c s0).map .i)]) []) := by
 refine xI Tryz.func132 Tryz.call132 fun hcap => ?_
 have hdl := jbe c
 refine xX fun b2 => ?_
 refine xE (jbT s0) fun c10 hc10 => ?_
 refine xC (fun hc => ?_) fun hc => ?_
 ·have hv0 := hc10.trans (jau hc)
  iterate 6 refine zW ?_
  refine jal [4,5] 1 rfl jbR jbp ?_
  refine xP ?_
  unfold great gOrder; rw [hv0]; rfl
 ·have hv0 := hc10.trans (jat hc)
  obtain ⟨m, rfl, hm⟩ := jbo hv0
  refine xA (jsd c) ?_
  iterate 5 refine zW ?_
  refine jaO [2] [.box b2 _ _] (fun (s : Nat) (v : Value) (q : List Int) r => (1, .i (s : Int)) :: (6, .v v) :: r) (fun s v q r => .arr v 3 1 (q.map .i) :: r) (fun s v q => q.length + s ≤ 1023 ∧ In c s ∧ elim c s q = elim c (m &&& declC c) []) (fun s v q => s) (m &&& declC c) (.slice none 0 0) ([]) zRc ⟨by have := jgl (a := m) (jbe c); simp; omega, In.and c m, rfl⟩ ((jaM 3 1 rfl).trans (zWk)) ?_
  intro s v q ⟨hql, hin, hI⟩
  have hs : s < 1024 := by omega
  refine xB (jux c s hs hin) ?_; rintro _ _ ⟨k, b, rfl, hb1, hb0, rfl⟩
  refine xC (fun hc => ?_) fun hc => ?_
  ·have hu := hb0 (jau hc)
   rw [jdL hu] at hI
   iterate 8 refine zW ?_
   refine zFz v [4,5] ?_
   refine xP ?_
   rw [jlJ c hm, je4 c hm, ← hI]; rfl
  ·have hu := hb1 (jat hc)
   obtain ⟨j, x, rfl, hj, _, _⟩ := hin.get hs (jdl hu).1
   have hcl : clr s j < s := by have := jdK hu; rwa [Int.toNat_natCast] at this
   have hp := jaG hj
   iterate 6 refine zW ?_
   refine xLt 3 1 8 ?_
   refine xEa 3 1 8 fun v29 hv29 => ?_
   iterate 6 refine zW ?_
   refine zP (ja2 (p := 1) rfl rfl rfl (by omega) (by omega)) ?_
   iterate 5 refine zW ?_
   rw [jbB]
   refine ⟨clr s j, v29, q ++ [(j : Int)], ⟨by simp only [List.length_append, List.length_cons, List.length_nil]; omega, hin.clr, by rw [← hI, jdq hu, Int.toNat_natCast]⟩, hcl, ?_⟩
   unfold clr; rw [Nat.one_mul]
   exact (zWk)
theorem jcP (c : List Mem) (s : Int) : Con none Tryz.prog 95 [cv c, .i s] [] (Is (.i (great c s : Int)) []) := by
 refine xI Tryz.func95 Tryz.call95 fun hcap => ?_
 refine xX fun b2 => ?_
 refine xA (jmj c _) ?_
 refine xP ?_; exact rfl
theorem jaf {b : Int} (h : (!decide (a = b)) = true) : ¬ a = b := by simpa using h
theorem jad {b : Int} (h : (!decide (a = b)) = false) : a = b := by simpa using h
theorem jvX (h : s < 1024) : Con none Tryz.prog 128 [.i s] [] (Is (.b true) []) := by rw [← jks h]; exact jbT s
theorem p1 : Con none Tryz.prog 95 [cv c3, .i 7] [] (Is (.i 7) []) := by
 have h := jcP c3 7
 rwa [show (great c3 7 : Int) = 7 from by kernel_rfl] at h
theorem p2 : Con none Tryz.prog 95 [cv c3, .i 1] [] (Is (.i 0) []) := by
 have h := jcP c3 1
 rwa [show (great c3 1 : Int) = 0 from by kernel_rfl] at h
theorem jeh (s : Int) : Con none Tryz.prog 68 [.i s] [] (Is (.sl 1 ((nodesOf s).map .i)) []) := by
 refine xI Tryz.func68 Tryz.call68 fun hcap => ?_
 iterate 17 refine zW ?_
 refine jaO [0] [] (fun (k : Nat) (v : Value) (q : List Int) r => (3, .v v) :: (4, .i (k : Int)) :: r) (fun k v q r => .arr v 3 1 (q.map .i) :: r) (fun k v q => k ≤ 10 ∧ q.length ≤ k ∧ q = (upTo k).filter fun x => has s x) (fun k v q => 10 - k) (0) (.slice none 0 0) ([]) zRc ⟨by omega, by simp, rfl⟩ ((jaM 3 1 rfl).trans (zWk)) ?_
 intro k v q ⟨hk, hql, hI⟩
 refine xC (fun hc => ?_) fun hc => ?_
 ·have hlt := of_decide_eq_true hc
  refine xE (jcq _ _) fun c11 hc11 => ?_
  refine xC (fun hc => ?_) fun hc => ?_
  ·iterate 3 refine zW ?_
   refine xLt 3 1 8 ?_
   refine xEa 3 1 8 fun v15 hv15 => ?_
   iterate 10 refine zW ?_
   rw [jbB]; refine ⟨k + 1, _, q ++ [(k : Int)], ⟨by omega, by simp only [List.length_append, List.length_cons, List.length_nil]; omega, by rw [jb2, if_pos (hc11.trans (by with_reducible assumption)), ← hI]⟩, by omega, zWk⟩
  ·iterate 9 refine zW ?_
   refine ⟨k + 1, _, q, ⟨by omega, by omega, by rw [jb2, if_neg (by rw [hc11.trans (by with_reducible assumption)]; decide), ← hI, List.append_nil]⟩, by omega, zWk⟩
 ·have hge := of_decide_eq_false hc
  obtain rfl : k = 10 := by omega
  iterate 6 refine zW ?_
  refine zFz v [3] ?_
  refine xP ?_
  rw [hI]; rfl
theorem jdA (c : List Mem) : Con none Tryz.prog 67 [cv c] [] (Is (.i (declC c : Int)) []) := by
 refine xI Tryz.func67 Tryz.call67 fun hcap => ?_
 have hl1 : (c.map mv).length = c.length := by simp
 refine xX fun b1 => ?_
 refine xN fun _ => ?_
 iterate 4 refine zW ?_
 refine jag [7, 8] [] (fun (k : Nat) (s : Nat) r => (3, .i (s : Int)) :: (9, .i (k : Int)) :: r) (fun k s r => r) (fun k s => k ≤ c.length ∧ s < 1024 ∧ declGo s k (c.drop k) = declC c) (fun k s => c.length - k) (0) (0) zRc ⟨by omega, by omega, by simp [declC]⟩ (zWk) ?_
 intro k s ⟨hk, hs, hI⟩
 refine xC (fun hc => ?_) fun hc => ?_
 ·have hlt := of_decide_eq_true hc
  obtain ⟨x, hx, hd⟩ := jab (l := c) (k := k) (by omega)
  have hx' := jae mv hx
  refine xL fun b5 => ?_
  iterate 9 refine zW ?_
  iterate 3 all_goals first | refine zW ?_ | refine xG (fun hg => ?_) fun hg => ?_
  all_goals (
   refine xC (fun hc => ?_) fun hc => ?_
   ·first
    | (exact absurd hc (by decide))
    | (first | (have h10 := of_decide_eq_true hg; have hp := jaG (k := k) (by omega)) | exact absurd hc (by decide)
       iterate 3 refine zW ?_
       refine zP (ja2 (p := 1) rfl rfl rfl (by omega) (by omega)) ?_
       iterate 10 refine zW ?_
       rw [hd] at hI; simp only [declGo] at hI
       rw [if_pos (by rw [show x.decl = true by with_reducible assumption, show decide ((k : Int) < 10) = true by with_reducible assumption]; rfl)] at hI; refine ⟨k + 1, s ||| 2 ^ k, ⟨by omega, Nat.or_lt_two_pow (n := 10) hs (jaG (by have := of_decide_eq_true (show decide ((k : Int) < 10) = true by with_reducible assumption); omega)), hI⟩, by omega, ?_⟩; rw [Nat.one_mul]; exact (zWk)
     )
   ·first
    | (exact absurd hc (by decide))
    | (iterate 8 refine zW ?_
       rw [hd] at hI; simp only [declGo] at hI
       first | (rw [if_pos (by rw [show x.decl = true by with_reducible assumption, show decide ((k : Int) < 10) = true by with_reducible assumption]; rfl)] at hI; refine ⟨k + 1, s ||| 2 ^ k, ⟨by omega, Nat.or_lt_two_pow (n := 10) hs (jaG (by have := of_decide_eq_true (show decide ((k : Int) < 10) = true by with_reducible assumption); omega)), hI⟩, by omega, ?_⟩; rw [Nat.one_mul]; exact (zWk)) | (rw [if_neg (by first | (rw [show x.decl = false by with_reducible assumption]; simp; done) | (rw [show decide ((k : Int) < 10) = false by with_reducible assumption]; simp; done))] at hI; refine ⟨k + 1, s, ⟨by omega, hs, hI⟩, by omega, zWk⟩)
     )
   )
 ·have hge := of_decide_eq_false hc
  rw [jac (by omega)] at hI; simp only [declGo] at hI
  refine xP ?_
  rw [← hI]; rfl
theorem jnP {j : Nat} (hs : s < 1024) (h : s.testBit j = true) : (s : Int) - ((1 * 2 ^ j : Nat) : Int) = ((clr s j : Nat) : Int) := by
 have h1 : clr s j < 1024 := Nat.lt_of_le_of_lt (juP s j) hs
 have h2 : j < 10 := by
  rcases Nat.lt_or_ge j 10 with h3 | h3
  ·exact h3
  ·have : s < 2 ^ j := Nat.lt_of_lt_of_le hs (Nat.pow_le_pow_right (n := 2) (by omega) h3)
   rw [Nat.testBit_lt_two_pow this] at h; cases h
 have h3 := jaG h2
 have hand : clr s j &&& 2 ^ j = 0 := by
  refine Nat.eq_of_testBit_eq fun i => ?_
  rw [Nat.testBit_and, jdx hs h, Nat.testBit_two_pow, Nat.zero_testBit]
  by_cases e : j = i <;> simp [e]
 have hor : clr s j ||| 2 ^ j = s := by
  refine Nat.eq_of_testBit_eq fun i => ?_
  rw [Nat.testBit_or, jdx hs h, Nat.testBit_two_pow]
  by_cases e : j = i
  ·subst e; simp [h]
  ·simp [e]
 have h4 : BitVec.ofNat 64 (clr s j) &&& BitVec.ofNat 64 (2 ^ j) = 0#64 := by
  apply BitVec.eq_of_toNat_eq
  rw [BitVec.toNat_and, BitVec.toNat_ofNat, BitVec.toNat_ofNat, Nat.mod_eq_of_lt (by omega), Nat.mod_eq_of_lt (by omega), hand]
  rfl
 have h5 := congrArg BitVec.toNat (BitVec.add_eq_or_of_and_eq_zero _ _ h4)
 rw [BitVec.toNat_or, BitVec.toNat_add, BitVec.toNat_ofNat, BitVec.toNat_ofNat, Nat.mod_eq_of_lt (a := clr s j) (by omega), Nat.mod_eq_of_lt (a := 2 ^ j) (by omega), hor] at h5
 omega
theorem jtK (k : Int) : (!nd k) = badN k := by
 unfold nd badN
 by_cases h1 : 0 ≤ k <;> by_cases h2 : k < 10 <;> simp [h1, h2] <;> omega
theorem jnF {p : Int → Bool} {r : List Int} (h : p x = false) : (x :: r).any p = r.any p := by simp [h]
theorem jnh {p : Int → Bool} {r : List Int} (h : p x = true) : (x :: r).any p = true := by simp [h]
theorem jvD (l : List Int) : Con none Tryz.prog 220 [.sl 1 (l.map .i)] [] (Is (.tup [.i (ofGo 0 l).1, .i (ofGo 0 l).2]) []) := by
 refine xI Tryz.func220 Tryz.call220 fun hcap => ?_
 have hl1 : (l.map D.i).length = l.length := by simp
 refine xN fun _ => ?_
 iterate 4 refine zW ?_
 refine jag [7, 8] [] (fun (k : Nat) (s : Nat) r => (4, .i (s : Int)) :: (9, .i (k : Int)) :: r) (fun k s r => r) (fun k s => k ≤ l.length ∧ s < 1024 ∧ ofGo s (l.drop k) = ofGo 0 l) (fun k s => l.length - k) (0) (0) zRc ⟨by omega, by omega, by simp⟩ (zWk) ?_
 intro k s ⟨hk, hs, hI⟩
 refine xC (fun hc => ?_) fun hc => ?_
 ·have hlt : k < l.length := by have := of_decide_eq_true hc; omega
  obtain ⟨x, hx, hd⟩ := jab hlt
  have hx' := jae D.i hx
  iterate 17 refine zW ?_
  iterate 3 all_goals first | refine zW ?_ | refine xG (fun hg => ?_) fun hg => ?_
  all_goals (
   refine xC (fun hc => ?_) fun hc => ?_
   ·first
    | (exact absurd hc (by decide))
    | (iterate 13 refine zW ?_
       refine jao (.tmp rfl (.tmp rfl .nil)) .nil ?_
       rw [hd, ofGo, if_pos (by first | (have := of_decide_eq_true hg; omega) | (have := of_decide_eq_true hc; omega))] at hI
       rw [← hI]; rfl
     )
   ·first
    | (exact absurd hc (by decide))
    | (have hc2 := hc
       refine xA (jfF _ _) ?_
       refine xC (fun hc => ?_) fun hc => ?_
       ·iterate 13 refine zW ?_
        refine jao (.tmp rfl (.tmp rfl .nil)) .nil ?_
        have h3 := of_decide_eq_false hg
        have h4 := of_decide_eq_false hc2
        rw [hd, ofGo, if_neg (by omega), if_pos hc] at hI
        rw [← hI]; rfl
       ·refine zW ?_; refine zW ?_
        obtain ⟨q, rfl, hq⟩ := jsV hg hc2
        have hp2 := jaG hq
        iterate 3 refine zW ?_
        refine zP (ja2 (p := 1) rfl rfl rfl (by omega) (by omega)) ?_
        iterate 10 refine zW ?_
        rw [hd, ofGo, if_neg (by omega), if_neg (by simp [hc])] at hI
        refine ⟨k + 1, s ||| 1 * 2 ^ q, ⟨by omega, jb5 hs hq, ?_⟩, by omega, zWk⟩
        simpa using hI
     )
   )
 ·have hge : l.length ≤ k := by have := of_decide_eq_false hc; omega
  rw [jac hge] at hI; simp only [ofGo] at hI
  iterate 13 refine zW ?_
  refine jao (.tmp rfl (.tmp rfl .nil)) .nil ?_
  rw [← hI]; rfl
theorem jnt (f : FuncId) (p : Int → Bool) (hf : ∀ k : Int, Con none Tryz.prog f [.i k] [] (Is (.b (p k)) [])) (l : List Int) : Con none Tryz.prog 249 [.sl 1 (l.map .i), .v (.func (.func f) #[] #[])] [] (fun d H => ∃ r : Int, d = .i r ∧ decide (0 ≤ r) = l.any p ∧ H = []) := by
 refine xI Tryz.func249 Tryz.call249 fun hcap => ?_
 have hl1 : (l.map D.i).length = l.length := by simp
 refine xN fun _ => ?_
 iterate 4 refine zW ?_
 refine jai [0, 1, 7] [] (fun (k : Nat) r => (8, .i (k : Int)) :: r) (fun k r => r) (fun k => k ≤ l.length ∧ (l.drop k).any p = l.any p) (fun k => l.length - k) (0) zRc ⟨by omega, by simp⟩ (zWk) ?_
 intro k ⟨hk, hI⟩
 refine xC (fun hc => ?_) fun hc => ?_
 ·have hlt : k < l.length := by have := of_decide_eq_true hc; omega
  obtain ⟨x, hx, hd⟩ := jab hlt
  have hx' := jae D.i hx
  rw [hd] at hI
  iterate 17 refine zW ?_
  refine jcS (caps := []) rfl zRc (hf x) rfl rfl (fun c16 hc16 => ?_)
  refine xC (fun hc => ?_) fun hc => ?_
  ·iterate 12 refine zW ?_
   refine jaT (.tmp rfl .nil) jcw ⟨_, rfl, ?_, rfl⟩
   rw [jnh (hc16.trans hc)] at hI
   rw [← hI]; exact decide_eq_true (by omega)
  ·iterate 8 refine zW ?_
   rw [jnF (hc16.trans hc)] at hI
   refine ⟨k + 1, ⟨by omega, hI⟩, by omega, zWk⟩
 ·have hge : l.length ≤ k := by have := of_decide_eq_false hc; omega
  rw [jac hge] at hI
  iterate 11 refine zW ?_
  refine jaT (.tmp rfl .nil) jcw ⟨_, rfl, ?_, rfl⟩
  rw [← hI]; rfl
theorem jhu (f : FuncId) (p : Int → Bool) (hf : ∀ k : Int, Con none Tryz.prog f [.i k] [] (Is (.b (p k)) [])) (l : List Int) : Con none Tryz.prog 218 [.sl 1 (l.map .i), .v (.func (.func f) #[] #[])] [] (Is (.b (l.any p)) []) := by
 refine xI Tryz.func218 Tryz.call218 fun hcap => ?_
 refine xB (jnt f p hf l) ?_; rintro _ _ ⟨r, rfl, hr, rfl⟩
 refine xP ?_
 rw [← hr]; rfl
theorem jr9 (k : Int) : Con none Tryz.prog 219 [.i k] [] (Is (.b (badN k)) []) := by
 refine xI Tryz.func219 Tryz.call219 fun hcap => ?_
 refine xA (jlM _) ?_
 refine xP ?_
 rw [← jtK]; rfl
theorem jp0 : ∀ (t : Trust), Con none Tryz.prog 191 [av t] [] (Is (.i (checkT t)) []) := by
 have hcap := jbt
 intro t
 induction t using Trust.ind with
 | _ t ih =>
  have hl1 : (t.nodes.map D.i).length = t.nodes.length := by simp
  have hl2 := jaR t.inner
  refine jar Tryz.func191 rfl Tryz.call191 rfl ?_
  refine xX fun b1 => ?_
  iterate 10 refine zW ?_
  iterate 4 all_goals first | refine zW ?_ | refine xG (fun hg => ?_) fun hg => ?_
  all_goals first | (refine zY ?_; (first | refine zLn fun _ => ?_ | refine zW ?_)) | refine zSk ?_
  iterate 2 all_goals refine zW ?_
  all_goals first | (refine zY ?_; (first | refine zLn fun _ => ?_ | refine zW ?_)) | refine zSk ?_
  iterate 3 all_goals refine zW ?_
  all_goals (
   refine xC (fun hc => ?_) fun hc => ?_
   ·first
    | (exact absurd hc (by decide))
    | (iterate 7 refine zW ?_
       refine jao (.tmp rfl .nil) .nil ?_
       simp only [resD, checkT]; rw [if_pos (by first | (have := of_decide_eq_true hg; omega) | (have := of_decide_eq_true hc; omega))]
     )
   ·first
    | (exact absurd hc (by decide))
    | (have hth : ¬ (t.th < 1 ∨ (t.nodes.length + t.inner.length : Int) < t.th) := by have h1 := of_decide_eq_false hg; have h2 := of_decide_eq_false hc; omega
       refine xA (jhu _ badN jr9 t.nodes) ?_
       refine xC (fun hc => ?_) fun hc => ?_
       ·have hany := hc
        iterate 7 refine zW ?_
        refine jao (.tmp rfl .nil) .nil ?_
        simp only [resD, checkT]; rw [if_neg hth, if_pos hany]
       ·have hany := hc
        refine xA (jvD t.nodes) ?_
        refine xC (fun hc => ?_) fun hc => ?_
        ·have he := hc
         iterate 8 refine zW ?_
         refine jao (.tmp rfl .nil) .nil ?_
         simp only [resD, checkT]; rw [if_neg hth, if_neg (by rw [hany]; simp), if_pos (by simpa using he)]
        ·have he := hc
         refine xN fun _ => ?_
         iterate 4 refine zW ?_
         refine jai [36, 37] [] (fun (k : Nat) r => (38, .i (k : Int)) :: r) (fun k r => r) (fun k => k ≤ t.inner.length ∧ checkL (t.inner.drop k) = checkL t.inner) (fun k => t.inner.length - k) (0) zRc ⟨by omega, by simp⟩ (zWk) ?_
         intro k ⟨hk, hI⟩
         refine xC (fun hc => ?_) fun hc => ?_
         ·have hlt : k < t.inner.length := by have := of_decide_eq_true hc; omega
          obtain ⟨x, hx, hd⟩ := jab hlt
          have hx' := jbh hx
          have hxm := List.mem_of_getElem? hx
          refine xL fun b6 => ?_
          refine xA (ih _ hxm) ?_
          refine xC (fun hc => ?_) fun hc => ?_
          ·iterate 12 refine zW ?_
           refine jao (.tmp rfl .nil) .nil ?_
           rw [hd, jbu, if_pos (by simpa using hc)] at hI
           have e : checkT t = checkL t.inner := by unfold checkT; rw [if_neg hth, if_neg (by rw [hany]; simp), if_neg (by simpa using he)]
           simp only [resD]; rw [e, ← hI]
          ·iterate 8 refine zW ?_
           have hz := of_decide_eq_true (Bool.not_eq_false' .. ▸ hc)
           rw [hd, jbu, if_neg (by simpa using hz)] at hI
           refine ⟨k + 1, ⟨by omega, hI⟩, by omega, zWk⟩
         ·have hge : t.inner.length ≤ k := by have := of_decide_eq_false hc; omega
          rw [jac hge] at hI; simp only [checkL] at hI
          iterate 11 refine zW ?_
          refine jao (.tmp rfl .nil) .nil ?_
          have e : checkT t = checkL t.inner := by unfold checkT; rw [if_neg hth, if_neg (by rw [hany]; simp), if_neg (by simpa using he)]
          simp only [resD]; rw [e, ← hI]
     )
   )
theorem jms (t : Trust) (ht : sizeT t ≤ 1000000000) : Con none Tryz.prog 151 [av t] [] (Is (.i (validT t)) []) := by
 refine xI Tryz.func151 Tryz.call151 fun hcap => ?_
 refine xX fun b1 => ?_
 refine xA (joN 1000000000 (by omega) t ht) ?_
 refine zW ?_; refine zW ?_
 all_goals refine xG (fun hg => ?_) fun hg => ?_
 all_goals first | (refine zY ?_; refine jaa zRc (jrp 1000000000 (by omega) t ht) rfl rfl ?_) | refine zSk ?_
 iterate 2 all_goals refine zW ?_
 all_goals (
  refine xC (fun hc => ?_) fun hc => ?_
  ·first
   | (exact absurd hc (by decide))
   | (iterate 7 refine zW ?_
      refine jao (.tmp rfl .nil) .nil ?_
      simp only [resD, validT]; rw [if_pos (by first | (have := of_decide_eq_true hg; omega) | (have := of_decide_eq_true hc; omega))]
    )
  ·first
   | (exact absurd hc (by decide))
   | (iterate 5 refine zW ?_
      refine xA (jp0 t) ?_
      iterate 4 refine zW ?_
      refine jao (.tmp rfl .nil) .nil ?_
      simp only [resD, validT]; rw [if_neg (by have h1 := of_decide_eq_false hg; have h2 := of_decide_eq_false hc; omega)]
    )
  )
theorem jsI {args : List D} {o : Option (Int × Int)} (h : Con none Tryz.prog f args [] (Is (wRes o) [])) (hw : o = none) : Con none Tryz.prog f args [] (Is (.tup [.agg [.i 0, .i 0], .b false]) []) := by rw [hw] at h; exact h
theorem jsK {args : List D} {o : Option (Int × Int)} {b : Int} (h : Con none Tryz.prog f args [] (Is (wRes o) [])) (hw : o = some (a, b)) : Con none Tryz.prog f args [] (Is (.tup [.agg [.i a, .i b], .b true]) []) := by rw [hw] at h; exact h
theorem juo {t : Trust} {v slot round node : Int} (h : askedV t v slot round = 0) (hn : 0 ≤ node ∧ node < 10) : nbrV t v slot round node = nbr t v slot round node := by
 unfold nbrV
 rw [decide_eq_true h, decide_eq_true hn.1, decide_eq_true hn.2]
 rfl
theorem jtD {w : World} (n : Nat) : OpN Tryz.prog w 22 n (List Int) (fun l => [.sl 1 (l.map .i)]) :=
 jqX Tryz.underlying22 (by kernel_rfl) (by omega) (of_decide_eq_true (by kernel_rfl)) juO (fun m _ => juX Tryz.underlying3)
theorem jnB (x y : List Int) : Con none Tryz.prog 133 [.sl 1 (x.map .i), .sl 1 (y.map .i)] [] (Is (.b (decide (x = y))) []) := by
 refine xI Tryz.func133 Tryz.call133 fun hcap => ?_
 have hx1 : (x.map D.i).length = x.length := by simp
 have hy1 : (y.map D.i).length = y.length := by simp
 refine xN fun _ => ?_
 refine xN fun _ => ?_
 refine xC (fun hc => ?_) fun hc => ?_
 ·have hne := jaf hc
  refine xP ?_
  rw [decide_eq_false (fun e => hne (by rw [e]))]; rfl
 ·have hlen := jad hc
  have hll : x.length = y.length := by omega
  refine xN fun _ => ?_
  iterate 4 refine zW ?_
  refine jai [0, 1, 12] [] (fun (k : Nat) r => (13, .i (k : Int)) :: r) (fun k r => r) (fun k => k ≤ x.length ∧ x.take k = y.take k) (fun k => x.length - k) (0) zRc ⟨by omega, by simp⟩ (zWk) ?_
  intro k ⟨hk, hI⟩
  refine xC (fun hc => ?_) fun hc => ?_
  ·have hlt := of_decide_eq_true hc
   obtain ⟨u, hu, _⟩ := jab (l := x) (k := k) (by omega)
   obtain ⟨v, hv, _⟩ := jab (l := y) (k := k) (by omega)
   have hu' := jae D.i hu
   have hv' := jae D.i hv
   iterate 11 refine zW ?_
   refine zDr [] ?_
   refine zT 0 ?_; refine zT 1 ?_; refine zT 2 ?_; refine zT 3 ?_; refine zT 4 ?_; refine zT 5 ?_; refine zT 6 ?_; refine zT 7 ?_; refine zT 8 ?_
   refine zW ?_
   all_goals (
    refine xC (fun hc => ?_) fun hc => ?_
    ·have hne := jaf hc
     refine xP ?_
     rw [decide_eq_false (fun e => hne (by rw [e, hv] at hu; injection hu with hu; exact hu.symm))]; rfl
    ·iterate 8 refine zW ?_
     have e := jad hc
     refine ⟨k + 1, ⟨by omega, by rw [List.take_add_one, List.take_add_one, hI, hu, hv, e]⟩, by omega, zWk⟩
    )
  ·have hge := of_decide_eq_false hc
   refine xP ?_
   rw [List.take_of_length_le (by omega), List.take_of_length_le (by omega)] at hI; rw [decide_eq_true hI]; rfl
theorem jkq {t : Trust} (h : ¬ t.th = u.th) : same t u = false := by unfold same; rw [decide_eq_false h, Bool.false_and]
theorem jkD {t : Trust} (h : decide (t.nodes = u.nodes) = false) : same t u = false := by unfold same; rw [h, Bool.false_and, Bool.and_false]
theorem jkA {t : Trust} (h : ¬ t.inner.length = u.inner.length) : same t u = false := by unfold same; rw [jji h, Bool.and_false, Bool.and_false]
theorem jpk {t : Trust} (h1 : t.th = u.th) (h2 : decide (t.nodes = u.nodes) = true) : same t u = sameL t.inner u.inner := by unfold same; rw [decide_eq_true h1, h2, Bool.true_and, Bool.true_and]
theorem jbU : ∀ (t u : Trust), Con none Tryz.prog 96 [av t, av u] [] (Is (.b (same t u)) []) := by
 have hcap := jbt
 intro t
 induction t using Trust.ind with
 | _ t ih =>
  intro u
  have hx1 := jaR t.inner
  have hy1 := jaR u.inner
  refine jar Tryz.func96 rfl Tryz.call96 rfl ?_
  refine xX fun b2 => ?_
  refine zBx fun b3 => ?_
  iterate 12 refine zW ?_
  iterate 4 all_goals first | refine zW ?_ | refine xG (fun hg => ?_) fun hg => ?_
  all_goals first | (refine zY ?_; refine jbw zRc (jnB t.nodes u.nodes) rfl rfl fun c16 hc16 => ?_) | refine zSk ?_
  iterate 5 all_goals first | refine zW ?_ | refine xG (fun hg => ?_) fun hg => ?_
  all_goals first | (refine zY ?_; (first | refine zLn fun _ => ?_ | refine zW ?_)) | refine zSk ?_
  iterate 2 all_goals refine zW ?_
  all_goals first | (refine zY ?_; (first | refine zLn fun _ => ?_ | refine zW ?_)) | refine zSk ?_
  iterate 2 all_goals refine zW ?_
  all_goals (
   refine xC (fun hc => ?_) fun hc => ?_
   ·first
    | (exact absurd hc (by decide))
    | (iterate 7 refine zW ?_
       refine zPi ?_
       first
       | (rw [jkq (jaf (show (!decide (t.th = u.th)) = true by with_reducible assumption))]; rfl)
       | (rw [jkD (hc16.trans (jau (by with_reducible assumption)))]; rfl)
       | (rw [jkA (fun e => jaf (show (!decide ((((avs t.inner).length : Nat) : Int) = ((avs u.inner).length : Nat))) = true by with_reducible assumption) (by omega))]; rfl)
     )
   ·first
    | (exact absurd hc (by decide))
    | (have hth := jad (show (!decide (t.th = u.th)) = false by with_reducible assumption)
       have hns := hc16.trans (jat (by with_reducible assumption))
       have hlen := jad (show (!decide ((((avs t.inner).length : Nat) : Int) = ((avs u.inner).length : Nat))) = false by with_reducible assumption)
       have hll : t.inner.length = u.inner.length := by omega
       refine xN fun _ => ?_
       iterate 4 refine zW ?_
       refine jai [2, 3, 30] [.box b2 _ _, .box b3 _ _] (fun (k : Nat) r => (31, .i (k : Int)) :: r) (fun k r => r) (fun k => k ≤ t.inner.length ∧ sameL (t.inner.drop k) (u.inner.drop k) = sameL t.inner u.inner) (fun k => t.inner.length - k) (0) zRc ⟨by omega, by simp⟩ (zWk) ?_
       intro k ⟨hk, hI⟩
       refine xC (fun hc => ?_) fun hc => ?_
       ·have hlt := of_decide_eq_true hc
        obtain ⟨y, hy, hyd⟩ := jab (l := t.inner) (k := k) (by omega)
        obtain ⟨z, hz, hzd⟩ := jab (l := u.inner) (k := k) (by omega)
        have hy' := jbh hy
        have hz' := jbh hz
        have hym := List.mem_of_getElem? hy
        iterate 11 refine zW ?_
        refine zDr [] ?_
        refine zT 0 ?_; refine zT 1 ?_; refine zT 2 ?_; refine zT 3 ?_; refine zT 4 ?_; refine zT 5 ?_; refine zT 6 ?_; refine zT 7 ?_; refine zT 8 ?_; refine zT 9 ?_; refine zOn 10 ?_
        refine xE (ih y hym z) fun c44 hc44 => ?_
        refine zW ?_
        refine zT 11 ?_
        refine zW ?_
        all_goals (
         refine xC (fun hc => ?_) fun hc => ?_
         ·refine xP ?_
          rw [hyd, hzd, jc2, hc44.trans (jau hc), Bool.false_and] at hI
          rw [jpk hth hns, ← hI]; rfl
         ·iterate 8 refine zW ?_
          rw [hyd, hzd, jc2, hc44.trans (jat hc), Bool.true_and] at hI
          refine ⟨k + 1, ⟨by omega, hI⟩, by omega, zWk⟩
         )
       ·have hge := of_decide_eq_false hc
        rw [jac (by omega), jac (by omega)] at hI
        refine xP ?_
        rw [jpk hth hns, ← hI]; rfl
     )
   )
theorem jko {s : Int} (h : valid s = false) : Con none Tryz.prog 66 [.i s] [] (Is (.b false) []) := by rw [← h]; exact ja4 s
theorem jkJ (h : s < 1024) : Con none Tryz.prog 66 [.i s] [] (Is (.b true) []) := by rw [← jks h]; exact ja4 s
theorem ji2 (c : List Mem) (s : Int) (hv : valid s = false) : Con none Tryz.prog 18 [cv c, .i s] [] (Is (.b false) []) := by
 refine xI Tryz.func18 Tryz.call18 fun hcap => ?_
 refine xX fun b2 => ?_
 refine xA (jko hv) ?_
 refine zW ?_; refine zW ?_
 iterate 6 all_goals refine zW ?_
 all_goals refine zSk ?_
 iterate 4 all_goals refine zW ?_
 all_goals (
  refine zW ?_; refine zW ?_
  refine jbs rfl jgr ?_
  refine xP ?_; exact rfl
  )
theorem jiu (c : List Mem) (s : Nat) (hs : s < 1024) : Con none Tryz.prog 18 [cv c, .i s] [] (Is (.b (quorumC c s)) []) := by
 refine xI Tryz.func18 Tryz.call18 fun hcap => ?_
 have hdl := jbe c
 refine xX fun b2 => ?_
 refine xA (jkJ hs) ?_
 refine zW ?_; refine zW ?_
 iterate 6 all_goals first | refine zW ?_ | refine xG (fun hg => ?_) fun hg => ?_
 all_goals first | (refine zY ?_; refine jaa zRc (jdA c) rfl rfl ?_) | refine zSk ?_
 iterate 4 all_goals refine zW ?_
 all_goals (
  refine xC (fun hc => ?_) fun hc => ?_
  ·first
   | (exact absurd hc (by decide))
   | (iterate 7 refine zW ?_
      refine zPi ?_
      first
      | (rw [joy (by with_reducible assumption)]; rfl)
      | (rw [jnu hs (jaf (by with_reducible assumption))]; rfl)
    )
  ·first
   | (exact absurd hc (by decide))
   | (have hin := joP (jad hc)
      refine xA (jeh _) ?_
      refine zLn fun _ => ?_
      iterate 4 refine zW ?_
      have hnl : ((nodesOf s).map D.i).length = (nodesOf s).length := by simp
      refine jai [1, 2, 23, 24] [.box b2 _ _] (fun (k : Nat) r => (25, .i (k : Int)) :: r) (fun k r => r) (fun k => k ≤ (nodesOf s).length ∧ ∀ x ∈ (nodesOf s).take k, sat s (tOf c x) = true) (fun k => (nodesOf s).length - k) (0) zRc ⟨by omega, by simp⟩ (zWk) ?_
      intro k ⟨hk, hI⟩
      refine xC (fun hc => ?_) fun hc => ?_
      ·have hlt := of_decide_eq_true hc
       obtain ⟨x, hx, hd⟩ := jab (l := nodesOf s) (k := k) (by omega)
       obtain ⟨j, y, rfl, hj, hy, hyd⟩ := hin.get hs (ja1.1 (List.mem_of_getElem? hx))
       have hx' := jae D.i hx
       have hy' := jae mv hy
       have hxh := ja1.1 (List.mem_of_getElem? hx)
       refine xE (jhl _ y.t) fun c36 hc36 => ?_
       refine xC (fun hc => ?_) fun hc => ?_
       ·refine xP ?_
        rw [jmA hs hxh (by rw [jbf hy]; exact hc36.trans (jau hc))]; rfl
       ·iterate 8 refine zW ?_
        refine ⟨k + 1, ⟨by omega, fun z hz => ?_⟩, by omega, zWk⟩
        rw [List.take_add_one, hx] at hz
        rcases List.mem_append.1 hz with hz | hz
        ·exact hI z hz
        ·obtain rfl : z = (j : Int) := (by simpa using hz)
         rw [jbf hy]; exact hc36.trans (jat hc)
      ·have hge := of_decide_eq_false hc
       refine xP ?_
       rw [List.take_of_length_le (by omega)] at hI
       have hs0 := of_decide_eq_false (show decide ((s : Int) = 0) = false by with_reducible assumption)
       rw [(jbZ hs).2 ⟨by omega, hin, fun x hx => hI x (ja1.2 hx)⟩]; rfl
    )
  )
theorem jkl (c : List Mem) (s : Int) : Con none Tryz.prog 18 [cv c, .i s] [] (Is (.b (quorumV c s)) []) := by
 cases h : valid s with
 | false => rw [jhX h]; exact ji2 c s h
 | true =>
  obtain ⟨m, rfl, hm⟩ := jbo h
  rw [jfi hm]
  exact jiu c m hm
theorem jmK (c : List Mem) (s : Int) (hv : valid s = false) : Con none Tryz.prog 74 [cv c, .i s] [] (Is (.sl 1 []) []) := by
 refine xI Tryz.func74 Tryz.call74 fun hcap => ?_
 refine xX fun b2 => ?_
 refine xA (jko hv) ?_
 iterate 3 refine zW ?_
 refine jbs rfl jgr ?_
 iterate 5 refine zW ?_
 refine jal [4] 1 rfl jbR jbp ?_
 refine xP ?_; exact rfl
theorem jny (c : List Mem) (m : Nat) (hm : m < 1024) : Con none Tryz.prog 74 [cv c, .i m] [] (Is (.sl 1 ((gOrder c m).map .i)) []) := by
 refine xI Tryz.func74 Tryz.call74 fun hcap => ?_
 have hdl := jbe c
 refine xX fun b2 => ?_
 refine xA (jkJ hm) ?_
 iterate 3 refine zW ?_
 refine jaF rfl jgr ?_
 refine xA (jdA c) ?_
 iterate 16 refine zW ?_
 refine jbq [2] [.box b2 _ _] (fun (s : Nat) (v : Value) (q : List Int) (g : Bool) r => (5, .i (s : Int)) :: (6, .v v) :: (7, .b g) :: r) (fun s v q g r => .arr v 3 1 (q.map .i) :: r) (fun s v q g => q.length + s ≤ 1023 ∧ In c s ∧ elim c s q = elim c (m &&& declC c) [] ∧ (g = false → unh c s = none)) (fun s v q g => 2 * s + (if g = true then 1 else 0)) (m &&& declC c) (.slice none 0 0) ([]) (true) zRc ⟨by have := jgl (a := m) hdl; simp; omega, In.and c m, rfl, fun h => by cases h⟩ ((jaM 3 1 rfl).trans (zWk)) ?_
 intro s v q g ⟨hql, hin, hE, hG⟩
 have hs : s < 1024 := by omega
 have hml : (q.map D.i).length = q.length := by simp
 refine xC (fun hc => ?_) fun hc => ?_
 ·subst hc
  refine xA (jeh _) ?_
  refine zLn fun _ => ?_
  iterate 4 refine zW ?_
  have hnl : ((nodesOf s).map D.i).length = (nodesOf s).length := by simp
  refine jai [2, 19, 20] [.box b2 _ _, .arr v 3 1 (q.map .i)] (fun (k : Nat) r => (5, .i (s : Int)) :: (6, .v v) :: (7, .b false) :: (21, .i (k : Int)) :: r) (fun k r => r) (fun k => k ≤ (nodesOf s).length ∧ unh c s = ((nodesOf s).drop k).find? (bad c s)) (fun k => (nodesOf s).length - k) (0) zRc ⟨by omega, by unfold unh; simp⟩ (zWk) ?_
  intro k ⟨hk, hI⟩
  refine xC (fun hc => ?_) fun hc => ?_
  ·have hlt := of_decide_eq_true hc
   obtain ⟨x, hx, hd⟩ := jab (l := nodesOf s) (k := k) (by omega)
   obtain ⟨j, y, rfl, hj, hy, hyd⟩ := hin.get hs (ja1.1 (List.mem_of_getElem? hx))
   have hx' := jae D.i hx
   have hy' := jae mv hy
   have hxh := ja1.1 (List.mem_of_getElem? hx)
   refine xE (jhl _ y.t) fun c32 hc32 => ?_
   refine xC (fun hc => ?_) fun hc => ?_
   ·have hu : unh c s = some (j : Int) := by rw [hI, hd]; exact List.find?_cons_of_pos (by unfold bad; rw [jbf hy, hc32, jau hc]; rfl)
    have hyb : s.testBit j = true := by have := ((jbE hs).1 hxh).2.2; rwa [Int.toNat_natCast] at this
    have hcl := joF hs hyb
    have hpj := jaG hj
    iterate 4 refine zW ?_
    refine zP (ja2 (p := 1) rfl rfl rfl (by omega) (by omega)) ?_
    iterate 8 refine zW ?_
    refine xLt 3 1 8 ?_
    refine xEa 3 1 8 fun v41 hv41 => ?_
    iterate 15 refine zW ?_
    rw [jbB, jnP hs hyb]; refine ⟨clr s j, _, q ++ [(j : Int)], true, ⟨by simp only [List.length_append, List.length_cons, List.length_nil]; omega, hin.clr, by rw [← hE, jdq hu, Int.toNat_natCast], fun h => (by cases h)⟩, by simp; omega, zWk⟩
   ·iterate 8 refine zW ?_
    rw [hd, List.find?_cons_of_neg (by unfold bad; rw [jbf hy, hc32, jat hc]; decide)] at hI
    refine ⟨k + 1, ⟨by omega, hI⟩, by omega, zWk⟩
  ·have hge := of_decide_eq_false hc
   rw [jac (by omega)] at hI; simp only [List.find?_nil] at hI
   iterate 6 refine zW ?_
   refine ⟨s, v, q, false, ⟨hql, hin, hE, fun _ => hI⟩, by simp, zWk⟩
 ·have hu := hG hc
  iterate 6 refine zW ?_
  refine zFz v [6] ?_
  refine xP ?_
  rw [jdL hu] at hE; rw [je4 c hm, ← hE]; rfl
theorem jn2 (c : List Mem) (s : Int) : Con none Tryz.prog 74 [cv c, .i s] [] (Is (.sl 1 ((gOrder c s).map .i)) []) := by
 cases h : valid s with
 | false => rw [jjh h]; exact jmK c s h
 | true =>
  obtain ⟨m, rfl, hm⟩ := jbo h
  exact jny c m hm
theorem jj6 (c : List Mem) (s : Int) (hv : valid s = false) : Con none Tryz.prog 23 [cv c, .i s] [] (Is (.i 0) []) := by
 refine xI Tryz.func23 Tryz.call23 fun hcap => ?_
 refine xX fun b2 => ?_
 refine xA (jko hv) ?_
 iterate 3 refine zW ?_
 refine jbs rfl jgr ?_
 refine xP ?_; exact rfl
theorem jrF {j : Nat} (hs : s < 1024) (h : s.testBit j = true) : j < 10 := by
 rcases Nat.lt_or_ge j 10 with h3 | h3
 ·exact h3
 ·have : s < 2 ^ j := Nat.lt_of_lt_of_le hs (Nat.pow_le_pow_right (n := 2) (by omega) h3)
  rw [Nat.testBit_lt_two_pow this] at h; cases h
theorem jke (c : List Mem) (m : Nat) (hm : m < 1024) : Con none Tryz.prog 23 [cv c, .i m] [] (Is (.i (great c m : Int)) []) := by
 refine xI Tryz.func23 Tryz.call23 fun hcap => ?_
 have hdl := jbe c
 have hgl : ((gOrder c m).map D.i).length = (gOrder c m).length := by simp
 refine xX fun b2 => ?_
 refine xA (jkJ hm) ?_
 iterate 3 refine zW ?_
 refine jaF rfl jgr ?_
 refine xA (jdA c) ?_
 refine xA (jn2 c _) ?_
 refine zLn fun _ => ?_
 iterate 4 refine zW ?_
 refine jag [17, 18] [] (fun (k : Nat) (s : Nat) r => (5, .i (s : Int)) :: (19, .i (k : Int)) :: r) (fun k s r => r) (fun k s => k ≤ (gOrder c m).length ∧ Run s ((gOrder c m).drop k) (great c m)) (fun k s => (gOrder c m).length - k) (0) (m &&& declC c) zRc ⟨by omega, jmE c hm⟩ (zWk) ?_
 intro k s ⟨hk, hR⟩
 refine xC (fun hc => ?_) fun hc => ?_
 ·have hlt := of_decide_eq_true hc
  obtain ⟨x, hx, hd⟩ := jab (l := gOrder c m) (k := k) (by omega)
  have hx' := jae D.i hx
  rw [hd] at hR
  cases hR with
  | @cons _ j _ _ hs hyb hR' =>
  iterate 11 refine zW ?_
  have hj10 : j < 10 := jrF hs hyb
  have hpj := jaG hj10
  iterate 3 refine zW ?_
  refine zP (ja2 (p := 1) rfl rfl rfl (by omega) (by omega)) ?_
  iterate 10 refine zW ?_
  rw [jnP hs hyb]
  refine ⟨k + 1, clr s j, ⟨by omega, hR'⟩, by omega, zWk⟩
 ·have hge := of_decide_eq_false hc
  rw [jac (by omega)] at hR
  refine xP ?_
  cases hR; rfl
theorem jei (c : List Mem) (s : Int) : Con none Tryz.prog 23 [cv c, .i s] [] (Is (.i (great c s : Int)) []) := by
 cases h : valid s with
 | false => rw [jkb h]; exact jj6 c s h
 | true =>
  obtain ⟨m, rfl, hm⟩ := jbo h
  exact jke c m hm
theorem jfL (a b c d : Int) : Con none Tryz.prog 285 [.i a, .i b, .i c, .i d] [] (Is (.v (.int .u32 (hashV a b c d))) []) := by
 refine xI Tryz.func285 Tryz.call285 fun hcap => ?_
 iterate 9 refine zW ?_
 refine zP (jhJ (m := 56) rfl rfl (by decide)) ?_
 refine zW ?_; refine zW ?_
 refine zP (jhJ (m := 24) rfl rfl (by decide)) ?_
 iterate 3 refine zW ?_
 refine zP (jhJ (m := 8) rfl rfl (by decide)) ?_
 iterate 18 refine zW ?_
 refine zP (jhy (m := 30) rfl rfl (by decide)) ?_
 iterate 9 refine zW ?_
 refine zP (jhy (m := 27) rfl rfl (by decide)) ?_
 iterate 9 refine zW ?_
 refine zP (jhy (m := 31) rfl rfl (by decide)) ?_
 iterate 7 refine zW ?_
 refine zP (jhy (m := 32) rfl rfl (by decide)) ?_
 refine xP ?_
 rfl
end Go.Proofs.YtgmpjpaekpefdaaGreat
