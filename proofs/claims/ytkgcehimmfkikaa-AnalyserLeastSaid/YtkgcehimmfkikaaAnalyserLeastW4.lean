/- The walks of: three_con, worker_con, All_con, Least_con, sane43_con, least43_con. Each says what one function of the program answers, for the arguments that its statement names. No condition beyond what each theorem says. -/
import Derived.Test.YtkgcehimmfkikaaAnalyserLeastW3
import Derived.Test.YtkgcehimmfkikaaProg
import Derived.KernelRfl
import Derived.Tactics
import Derived.Tactics2
import Derived.StillTactics
set_option linter.unusedVariables false
set_option linter.unusedSimpArgs false
set_option linter.unnecessarySimpa false
set_option maxRecDepth 4000
namespace Go.Proofs.Ytkgcehimmfkikaa
open Go Go.Av Go.Tq
theorem three_con : Con none Try.prog 26 [] [] (Is (cv c3) []) := by
  have hcap : capB = 140737488355328 := rfl
  refine con_intro Try.func26 rfl Try.call26 rfl ?_
  refine awp_seq ?_
  refine awp_region ?_
  refine aops_alloc rfl zRc rfl rfl (fun b0 => ?_)
  refine aops_nil ?_
  refine seqQ_n ?_
  refine awp_seq ?_
  refine awp_region ?_
  refine aops_alloc rfl zRc rfl rfl (fun b1 => ?_)
  refine aops_nil ?_
  refine seqQ_n ?_
  refine awp_seq ?_
  refine awp_seq ?_
  refine awp_region ?_
  refine aops_p (ap_assign rfl) rfl rfl rfl ?_
  refine aops_nil ?_
  refine seqQ_n ?_
  refine awp_block ?_
  refine awp_loop2 [0, 1] [.box b0 _ _] (fun (k : Nat) (v : Value) r => (2, .i (k : Int)) :: r) (fun (k : Nat) (v : Value) r => .box b1 28 [.v v] :: .arr v 56 4 ((List.replicate k m3).map mv) :: r) (fun (k : Nat) (v : Value) => k ≤ 3) (fun (k : Nat) (v : Value) => 3 - k) (0) (.slice none 0 0) zRc (by omega) ((wk_own 56 4 rfl).trans (wk zSub (by repeat (first | exact .nil | refine .cons (by first | exact .here | exact .there .here | exact .there (.there .here) | exact .there (.there (.there .here)) | exact .there (.there (.there (.there .here)))) ?_)))) ?_
  intro k v hk
  have hml : ((List.replicate k m3).map mv).length = k := by simp
  refine awp_seq ?_
  refine awp_seq ?_
  refine awp_region ?_
  refine aops_p (ap_move rfl) rfl rfl rfl ?_
  refine aops_p (ap_cmp rfl rfl rfl) rfl rfl rfl ?_
  refine aops_nil ?_
  refine seqQ_n ?_
  refine awp_cond rfl (fun hc => ?_) (fun hc => ?_)
  · have hlt := of_decide_eq_true hc
    refine awp_skip ?_
    refine seqQ_n ?_
    refine awp_seq ?_
    refine awp_block ?_
    refine awp_draw (Hm := [.box b1 _ _, .arr v _ _ _]) zKr zSplit ?_
    first | refine aany_take 0 rfl (.none rfl) zKr zKr zKr (AP.ar (ap_fieldAddr (off := 0) (sz := 1) (g := false) rfl rfl)) rfl rfl ?_ | refine aany_take 0 rfl (.none rfl) zKr zKr zKr (AP.ar (ap_fieldAddr_el (off := 0) (sz := 1) (g := false) rfl rfl zRc)) rfl rfl ?_
    refine aany_each2 1 2 zKr rfl (.none rfl) ?_ rfl (.none rfl) ?_
    rotate_left
    case' _ =>
      refine aops_call_v zRc (flat3) rfl rfl ?_
      refine aops_nil ?_
      refine aany_take 3 rfl (.none rfl) zKr zKr zKr (AP.ar (ap_build zKr rfl zRc (by repeat (first | exact .nil | apply FillL.cons rfl zFlat rfl zRc)))) rfl rfl ?_
      refine aany_each2 1 4 zKr rfl (.none rfl) ?_ rfl (.none rfl) ?_
      rotate_left
      case' _ =>
        refine aops_lit (e := 56) (sz := 4) (by_ := 64) rfl rfl zRc rfl rfl rfl rfl ?_
        refine aops_nil ?_
        refine aany_one 1 zKr rfl (.none rfl) ?_
        first | refine aops_q (aq_load1 rfl zUpd List.not_mem_nil rfl zRc) rfl rfl rfl ?_ | refine aops_q (aq_load_el1 rfl rfl zScal (fun _ h => absurd h List.not_mem_nil)) rfl rfl rfl ?_ | refine aops_q (aq_load_el1' rfl rfl zScal (fun _ h => absurd h List.not_mem_nil)) rfl rfl rfl ?_ | refine aops_q (aq_load_own1 rfl zUpd List.not_mem_nil rfl zAss zScal) rfl rfl rfl ?_
        refine aops_nil ?_
        refine aany_one 5 zKr rfl (.none rfl) ?_
        first | refine aops_append (e := 56) (sz := 4) (by_ := 64) rfl zUpd rfl rfl rfl rfl rfl (by simp only [List.length_cons, List.length_nil, List.length_append, List.length_map, List.length_replicate]; omega) (fun v12 hv12 => ?_) | refine aops_append_nil (e := 56) (sz := 4) (by_ := 64) rfl rfl rfl rfl rfl rfl (by simp only [List.length_cons, List.length_nil, List.length_append, List.length_map, List.length_replicate]; omega) (fun v12 hv12 => ?_)
        refine aops_nil ?_
        first | refine aany_take 6 rfl (.none rfl) zKr zKr zKr (AP.ar (ap_fieldAddr (off := 0) (sz := 1) (g := false) rfl rfl)) rfl rfl ?_ | refine aany_take 6 rfl (.none rfl) zKr zKr zKr (AP.ar (ap_fieldAddr_el (off := 0) (sz := 1) (g := false) rfl rfl zRc)) rfl rfl ?_
        refine aany_one 7 zKr rfl (.none rfl) ?_
        first | refine aops_store rfl rfl zFlat zUpd rfl zRc ?_ | refine aops_store_own1 rfl rfl zScal zUpd rfl (by simp only [List.length_set, List.length_map]; omega) ?_
        refine aops_nil ?_
        refine aany_nil zKr ?_
      rotate_right
      case' _ =>
        first | refine aops_q (aq_load1 rfl zUpd List.not_mem_nil rfl zRc) rfl rfl rfl ?_ | refine aops_q (aq_load_el1 rfl rfl zScal (fun _ h => absurd h List.not_mem_nil)) rfl rfl rfl ?_ | refine aops_q (aq_load_el1' rfl rfl zScal (fun _ h => absurd h List.not_mem_nil)) rfl rfl rfl ?_ | refine aops_q (aq_load_own1 rfl zUpd List.not_mem_nil rfl zAss zScal) rfl rfl rfl ?_
        refine aops_nil ?_
        refine aany_one 4 zKr rfl (.none rfl) ?_
        refine aops_lit (e := 56) (sz := 4) (by_ := 64) rfl rfl zRc rfl rfl rfl rfl ?_
        refine aops_nil ?_
        refine aany_one 5 zKr rfl (.none rfl) ?_
        first | refine aops_append (e := 56) (sz := 4) (by_ := 64) rfl zUpd rfl rfl rfl rfl rfl (by simp only [List.length_cons, List.length_nil, List.length_append, List.length_map, List.length_replicate]; omega) (fun v12 hv12 => ?_) | refine aops_append_nil (e := 56) (sz := 4) (by_ := 64) rfl rfl rfl rfl rfl rfl (by simp only [List.length_cons, List.length_nil, List.length_append, List.length_map, List.length_replicate]; omega) (fun v12 hv12 => ?_)
        refine aops_nil ?_
        first | refine aany_take 6 rfl (.none rfl) zKr zKr zKr (AP.ar (ap_fieldAddr (off := 0) (sz := 1) (g := false) rfl rfl)) rfl rfl ?_ | refine aany_take 6 rfl (.none rfl) zKr zKr zKr (AP.ar (ap_fieldAddr_el (off := 0) (sz := 1) (g := false) rfl rfl zRc)) rfl rfl ?_
        refine aany_one 7 zKr rfl (.none rfl) ?_
        first | refine aops_store rfl rfl zFlat zUpd rfl zRc ?_ | refine aops_store_own1 rfl rfl zScal zUpd rfl (by simp only [List.length_set, List.length_map]; omega) ?_
        refine aops_nil ?_
        refine aany_nil zKr ?_
    rotate_right
    case' _ =>
      first | refine aops_q (aq_load1 rfl zUpd List.not_mem_nil rfl zRc) rfl rfl rfl ?_ | refine aops_q (aq_load_el1 rfl rfl zScal (fun _ h => absurd h List.not_mem_nil)) rfl rfl rfl ?_ | refine aops_q (aq_load_el1' rfl rfl zScal (fun _ h => absurd h List.not_mem_nil)) rfl rfl rfl ?_ | refine aops_q (aq_load_own1 rfl zUpd List.not_mem_nil rfl zAss zScal) rfl rfl rfl ?_
      refine aops_nil ?_
      refine aany_one 2 zKr rfl (.none rfl) ?_
      refine aops_call_v zRc (flat3) rfl rfl ?_
      refine aops_nil ?_
      refine aany_take 3 rfl (.none rfl) zKr zKr zKr (AP.ar (ap_build zKr rfl zRc (by repeat (first | exact .nil | apply FillL.cons rfl zFlat rfl zRc)))) rfl rfl ?_
      refine aany_one 4 zKr rfl (.none rfl) ?_
      refine aops_lit (e := 56) (sz := 4) (by_ := 64) rfl rfl zRc rfl rfl rfl rfl ?_
      refine aops_nil ?_
      refine aany_one 5 zKr rfl (.none rfl) ?_
      first | refine aops_append (e := 56) (sz := 4) (by_ := 64) rfl zUpd rfl rfl rfl rfl rfl (by simp only [List.length_cons, List.length_nil, List.length_append, List.length_map, List.length_replicate]; omega) (fun v12 hv12 => ?_) | refine aops_append_nil (e := 56) (sz := 4) (by_ := 64) rfl rfl rfl rfl rfl rfl (by simp only [List.length_cons, List.length_nil, List.length_append, List.length_map, List.length_replicate]; omega) (fun v12 hv12 => ?_)
      refine aops_nil ?_
      first | refine aany_take 6 rfl (.none rfl) zKr zKr zKr (AP.ar (ap_fieldAddr (off := 0) (sz := 1) (g := false) rfl rfl)) rfl rfl ?_ | refine aany_take 6 rfl (.none rfl) zKr zKr zKr (AP.ar (ap_fieldAddr_el (off := 0) (sz := 1) (g := false) rfl rfl zRc)) rfl rfl ?_
      refine aany_one 7 zKr rfl (.none rfl) ?_
      first | refine aops_store rfl rfl zFlat zUpd rfl zRc ?_ | refine aops_store_own1 rfl rfl zScal zUpd rfl (by simp only [List.length_set, List.length_map]; omega) ?_
      refine aops_nil ?_
      refine aany_nil zKr ?_
    all_goals (
      refine blockQ_n ?_
      refine seqQ_n ?_
      refine awp_region ?_
      refine aops_p (ap_move rfl) rfl rfl rfl ?_
      refine aops_p (ap_arith rfl rfl rfl (by omega)) rfl rfl rfl ?_
      refine aops_p (ap_assign rfl) rfl rfl rfl ?_
      refine aops_nil ?_
      refine seqQ_n ?_
      rw [show .agg [.b true, .i (Trust.mk 2 (upN 3) []).th, .sl 1 ((Trust.mk 2 (upN 3) []).nodes.map .i), .sl 3 (avs (Trust.mk 2 (upN 3) []).inner)] = mv m3 from rfl, reps_snoc]
      refine ⟨k + 1, _, by omega, by omega, wk zSub (by repeat (first | exact .nil | refine .cons (by first | exact .here | exact .there .here | exact .there (.there .here) | exact .there (.there (.there .here)) | exact .there (.there (.there (.there .here)))) ?_))⟩
      )
  · have hge := of_decide_eq_false hc
    obtain rfl : k = 3 := by omega
    refine awp_freeze v [0,1] (by repeat (first | exact .here | apply Rem.there)) (by repeat (first | exact .nil | apply SelC.cons rfl (by first | exact Cv.fz | (apply Cv.agg; repeat (first | exact CvL.nil | apply CvL.cons (by first | exact Cv.fz | exact Cv.same))) | exact Cv.same))) (by repeat (first | exact .nil | apply HeapA.box (by repeat (first | exact CvL.nil | apply CvL.cons (by first | exact Cv.fz | exact Cv.same))) | apply HeapA.arr)) ?_
    refine awp_exit ?_
    refine seqQ_x ?_
    refine seqQ_x ?_
    refine blockQ_x rfl ?_
    refine seqQ_n ?_
    refine awp_seq ?_
    refine awp_region ?_
    first | refine aops_q (aq_load rfl zUpd List.not_mem_nil rfl rfl zRc) rfl rfl rfl ?_ | refine aops_q (aq_load_el rfl rfl rfl rfl (fun _ h => absurd h List.not_mem_nil)) rfl rfl rfl ?_
    first | refine aops_store rfl rfl zFlat zUpd rfl zRc ?_ | refine aops_store_own1 rfl rfl zScal zUpd rfl (by simp only [List.length_set, List.length_map]; omega) ?_
    refine aops_nil ?_
    refine seqQ_n ?_
    refine awp_ret ?_
    exact post_is (.cell rfl zUpd rfl rfl .nil) (by repeat (first | exact .nil | refine .cons (by first | exact .here | exact .there .here | exact .there (.there .here) | exact .there (.there (.there .here)) | exact .there (.there (.there (.there .here)))) ?_)) rfl
/-- A verdict as a value. -/
def valV (x : Vd) : Value := .agg #[.int .i64 x.nodes, .bool x.splits, .bool x.halts, .int .i64 x.l, .int .i64 x.r]
theorem rep_vv (x : Vd) (w : World) (O : Nat → Prop) : Rep w O (vv x) (valV x) := by
  simp only [vv, valV, Rep, RepL]
  exact ⟨_, rfl, _, _, rfl, rfl, rfl, _, _, rfl, rfl, rfl, _, _, rfl, rfl, rfl, _, _, rfl, rfl, rfl, _, _, rfl, rfl, rfl, rfl⟩
theorem vv_rep (x : Vd) (w : World) (O : Nat → Prop) (y : Value) (h : Rep w O (vv x) y) : y = valV x := by
  simp only [vv, Rep, RepL] at h
  obtain ⟨cs, rfl, c1, r1, rfl, rfl, -, c2, r2, rfl, rfl, -, c3, r3, rfl, rfl, -, c4, r4, rfl, rfl, -, c5, r5, rfl, rfl, -, rfl⟩ := h
  rfl
theorem worker_con (c : List Mem) (hok : OKA c) (ch k : Nat) (hk : k < 2 ^ c.length) : ConW Try.prog 24 [.el (.v (.chan (some ch))), .el (cv c), .el (.i k)] ch (valV (judgeC c k)) := by
  refine conW_of 4 Try.func24 rfl rfl Try.call24 rfl zKr rfl [#[false, false, false, false, false], #[true, false, false, false, false], #[false, true, false, false, false], #[true, true, false, false, false], #[false, false, true, false, false], #[true, false, true, false, false], #[false, true, true, false, false], #[true, true, true, false, false], #[false, true, true, true, false], #[true, true, true, true, false]] zKr ?_
  refine aanyT_take 0 (by decide) rfl (.none rfl) zKr zKr zKr (AQ.ar (aq_load_el1 rfl rfl (.v rfl) (fun _ h => h))) rfl rfl ?_
  refine aanyT_take 1 (by decide) rfl (.none rfl) zKr zKr zKr (AQ.ar (aq_load_el rfl rfl rfl rfl (fun _ h => h))) rfl rfl ?_
  refine aanyT_take 2 (by decide) rfl (.none rfl) zKr zKr zKr (AQ.ar (aq_load_el1 rfl rfl (.v rfl) (fun _ h => h))) rfl rfl ?_
  refine aanyT_one 3 (by decide) zKr rfl ?_
  refine aops_call_v zRc (judge_con c hok k hk) rfl rfl ?_
  refine aops_nil ?_
  exact aanyT_stop zKr ⟨rfl, _, rfl, vv_rep _⟩
def pdl (f : Nat → Value) : Nat → List Value
  | 0 => []
  | k + 1 => f k :: pdl f k
def downs : Nat → List Nat
  | 0 => []
  | k + 1 => k :: downs k
theorem pdl_map (f : Nat → Value) : ∀ n, pdl f n = (downs n).map f
  | 0 => rfl
  | n + 1 => by rw [pdl, downs, List.map_cons, pdl_map f n]
theorem downs_mem {k : Nat} : ∀ {n}, k ∈ downs n ↔ k < n
  | 0 => by simp [downs]
  | n + 1 => by rw [downs, List.mem_cons, downs_mem]; omega
theorem downs_len : ∀ n, (downs n).length = n
  | 0 => rfl
  | n + 1 => by rw [downs, List.length_cons, downs_len n]
theorem map_split {f : Nat → Value} : ∀ {l : List Nat} {l₁ : List Value} {v : Value} {l₂ : List Value}, l.map f = l₁ ++ v :: l₂ → ∃ m₁ k m₂, l = m₁ ++ k :: m₂ ∧ l₁ = m₁.map f ∧ v = f k ∧ l₂ = m₂.map f
  | [], l₁, v, l₂, h => by cases l₁ <;> simp at h
  | x :: l, [], v, l₂, h => by
    simp only [List.map_cons, List.nil_append, List.cons.injEq] at h
    exact ⟨[], x, l, rfl, rfl, h.1.symm, h.2.symm⟩
  | x :: l, y :: l₁, v, l₂, h => by
    simp only [List.map_cons, List.cons_append, List.cons.injEq] at h
    obtain ⟨m₁, k, m₂, h1, h2, h3, h4⟩ := map_split h.2
    exact ⟨x :: m₁, k, m₂, by rw [h1]; rfl, by rw [List.map_cons, ← h2, h.1], h3, h4⟩
def vd0 : Vd := ⟨0, false, false, 0, 0⟩
def zrow : Nat → List Value
  | 0 => []
  | n + 1 => .int .i64 0 :: .bool false :: .bool false :: .int .i64 0 :: .int .i64 0 :: zrow n
theorem zrow_rep (w : World) (O : Nat → Prop) : ∀ n, RepE w O 5 ((List.replicate n vd0).map vv) (zrow n)
  | 0 => by simp [RepE, zrow]
  | n + 1 => by
    rw [List.replicate_succ, List.map_cons, zrow]
    simp only [RepE]
    exact ⟨valV vd0, zrow n, rfl, rfl, by simp [valV, Value.cells, Value.oneCell'], rep_vv _ _ _, zrow_rep w O n⟩
theorem vd_made {n : Nat} (h : 1 ≤ n ∧ n ≤ 4) : tmade Try.prog 38 (2 ^ n * 5) = some (zrow (2 ^ n)) := by
  rcases (show n = 1 ∨ n = 2 ∨ n = 3 ∨ n = 4 by omega) with rfl | rfl | rfl | rfl <;> kernel_rfl
/-- All verdicts. -/
def allV (c : List Mem) : List Vd := (List.range (2 ^ c.length)).map (judgeC c)
theorem allV_len (c : List Mem) : (allV c).length = 2 ^ c.length := by simp [allV]
theorem allV_of {c : List Mem} {q : List Vd} (hl : q.length = 2 ^ c.length) (h : ∀ k, k < 2 ^ c.length → q[k]? = some (judgeC c k)) : q = allV c := by
  refine List.ext_getElem? fun k => ?_
  by_cases hk : k < 2 ^ c.length
  · rw [h k hk]; simp [allV, hk]
  · rw [List.getElem?_eq_none (by omega), List.getElem?_eq_none (by rw [allV_len]; omega)]
set_option maxHeartbeats 1000000 in
theorem All_con {Ps : Value → World → Prop} (c : List Mem) (hok : OKA c) : Con (some Ps) Try.prog 10 [cv c] [] (Is (.tup [.sl 5 ((allV c).map vv), .i 0]) []) := by
  have hcap : capB = 140737488355328 := rfl
  have hp := pow4 hok.len
  have hml : (c.map mv).length = c.length := by simp
  have hrl : ((List.replicate (2 ^ c.length) vd0).map vv).length = 2 ^ c.length := by simp
  refine con_intro Try.func10 rfl Try.call10 rfl ?_
  refine awp_of_awm ?_
  refine awm_seq ?_
  refine awm_region ?_
  refine aops_box rfl zFlat rfl rfl (fun b1 => ?_)
  refine aops_p (ap_assign rfl) rfl rfl rfl ?_
  refine aops_p (ap_assign rfl) rfl rfl rfl ?_
  refine aops_nil ?_
  refine seqM_n ?_
  refine awm_seq ?_
  refine awm_seq ?_
  refine awm_region ?_
  first | refine aops_q (aq_load rfl zUpd List.not_mem_nil rfl rfl zRc) rfl rfl rfl ?_ | refine aops_q (aq_load_el rfl rfl rfl rfl (fun _ h => absurd h List.not_mem_nil)) rfl rfl rfl ?_
  refine aops_call_v zRc (check_con c hok 0 (by omega)) rfl rfl ?_
  refine aops_p (ap_assign rfl) rfl rfl rfl ?_
  refine aops_nil ?_
  refine seqM_n ?_
  refine awm_seq ?_
  refine awm_region ?_
  refine aops_p (ap_move rfl) rfl rfl rfl ?_
  refine aops_p (ap_cmp rfl rfl rfl) rfl rfl rfl ?_
  refine aops_nil ?_
  refine seqM_n ?_
  refine awm_cond_f rfl zDec ?_
  refine awm_skip ?_
  refine seqM_n ?_
  refine awm_seq ?_
  refine awm_seq ?_
  refine awm_region ?_
  first | refine aops_p (ap_fieldAddr (off := 0) (sz := 1) (g := false) rfl rfl) rfl rfl rfl ?_ | refine aops_p (ap_fieldAddr_el (off := 0) (sz := 1) (g := false) rfl rfl zRc) rfl rfl rfl ?_
  first | refine aops_q (aq_load1 rfl zUpd List.not_mem_nil rfl zRc) rfl rfl rfl ?_ | refine aops_q (aq_load_el1 rfl rfl zScal (fun _ h => absurd h List.not_mem_nil)) rfl rfl rfl ?_ | refine aops_q (aq_load_el1' rfl rfl zScal (fun _ h => absurd h List.not_mem_nil)) rfl rfl rfl ?_ | refine aops_q (aq_load_own1 rfl zUpd List.not_mem_nil rfl zAss zScal) rfl rfl rfl ?_
  first | refine aops_len rfl rfl rfl rfl (fun _ => ?_) | refine aops_p (ap_len_arr rfl zUpd rfl) rfl rfl rfl ?_ | refine aops_p (ap_len_nil rfl rfl) rfl rfl rfl ?_
  refine aops_p (ap_cmp rfl rfl rfl) rfl rfl rfl ?_
  refine aops_nil ?_
  refine seqM_n ?_
  refine awm_cond_f rfl (by refine decide_eq_false ?_; have := hok.len; omega) ?_
  refine awm_skip ?_
  refine seqM_n ?_
  refine awm_seq ?_
  refine awm_mkchan rfl rfl rfl (fun ch => ?_)
  refine aops_alloc rfl zRc rfl rfl (fun b5 => ?_)
  refine aops_store rfl rfl zFlat zUpd rfl zRc ?_
  refine aops_nil ?_
  refine seqM_n ?_
  refine awm_seq ?_
  refine awm_seq ?_
  refine awm_wk (wk_fzBox (b := b1) (d := cv c) (live := [1,5]) (by repeat (first | exact .here | apply Rem.there)) .agg (by repeat (first | exact .nil | apply SubB.fz rfl | apply SubB.same rfl))) ?_
  refine awm_wk (wk_fzBox (b := b5) (d := .v (.chan (some ch))) (live := [1,5]) (by repeat (first | exact .here | apply Rem.there)) (.one (.v rfl)) (by repeat (first | exact .nil | apply SubB.fz rfl | apply SubB.same rfl))) ?_
  refine awm_region ?_
  first | refine aops_q (aq_load rfl zUpd List.not_mem_nil rfl rfl zRc) rfl rfl rfl ?_ | refine aops_q (aq_load_el rfl rfl rfl rfl (fun _ h => absurd h List.not_mem_nil)) rfl rfl rfl ?_
  refine aops_call_v zRc (all_con c hok.len.2) rfl rfl ?_
  refine aops_p (ap_arith (m := ((2 ^ c.length : Nat) : Int)) rfl rfl (by show some _ = _; simp only [Option.some.injEq]; omega) (by omega)) rfl rfl rfl ?_
  refine aops_p (ap_move rfl) rfl rfl rfl ?_
  refine aops_nil ?_
  refine seqM_n ?_
  refine awm_block ?_
  refine awm_loop1 (fun k => some (ch, pdl (fun k => valV (judgeC c k)) k)) [1, 5, 21] [] (fun (k : Nat) r => (22, .i (k : Int)) :: r) (fun (k : Nat) r => r) (fun (k : Nat) => k ≤ 2 ^ c.length) (fun (k : Nat) => 2 ^ c.length - k) (0) zRc (by omega) (wk zSub (by repeat (first | exact .nil | refine .cons (by first | exact .here | exact .there .here | exact .there (.there .here) | exact .there (.there (.there .here)) | exact .there (.there (.there (.there .here)))) ?_))) rfl ?_
  intro k hk
  refine awm_seq ?_
  refine awm_region ?_
  refine aops_p (ap_cmp rfl rfl rfl) rfl rfl rfl ?_
  refine aops_nil ?_
  refine seqM_n ?_
  refine awm_seq ?_
  refine awm_cond rfl (fun hc => ?_) (fun hc => ?_)
  · have hlt := of_decide_eq_true hc
    refine awm_skip ?_
    refine seqM_n ?_
    refine awm_seq ?_
    refine awm_block ?_
    refine awm_seq ?_
    refine awm_region ?_
    refine aops_p (ap_move rfl) rfl rfl rfl ?_
    refine aops_alloc rfl zRc rfl rfl (fun b6 => ?_)
    first | refine aops_store rfl rfl zFlat zUpd rfl zRc ?_ | refine aops_store_own1 rfl rfl zScal zUpd rfl (by simp only [List.length_set, List.length_map]; omega) ?_
    refine aops_nil ?_
    refine seqM_n ?_
    refine awm_wk (wk_fzBox (b := b6) (d := .i (k : Int)) (live := [1,5,6,21,22]) (by repeat (first | exact .here | apply Rem.there)) (.one (.v rfl)) (by repeat (first | exact .nil | apply SubB.fz rfl | apply SubB.same rfl))) ?_
    refine awm_go (xs := [.tmp 5, .tmp 1, .tmp 6]) (valV (judgeC c k)) zRc rfl rfl (worker_con c hok ch k (by omega)) ?_
    refine blockM_n ?_
    refine seqM_n ?_
    refine awm_region ?_
    refine aops_p (ap_arith rfl rfl rfl (by omega)) rfl rfl rfl ?_
    refine aops_p (ap_move rfl) rfl rfl rfl ?_
    refine aops_nil ?_
    refine seqM_n ?_
    exact ⟨k + 1, by omega, by omega, rfl, wk zSub (by repeat (first | exact .nil | refine .cons (by first | exact .here | exact .there .here | exact .there (.there .here) | exact .there (.there (.there .here)) | exact .there (.there (.there (.there .here)))) ?_))⟩
  · have hge := of_decide_eq_false hc
    obtain rfl : k = 2 ^ c.length := by omega
    refine awm_exit ?_
    refine seqM_x ?_
    refine seqM_x ?_
    refine blockM_x rfl ?_
    refine seqM_n ?_
    refine awm_seq ?_
    refine awm_region ?_
    first | refine aops_q (aq_load rfl zUpd List.not_mem_nil rfl rfl zRc) rfl rfl rfl ?_ | refine aops_q (aq_load_el rfl rfl rfl rfl (fun _ h => absurd h List.not_mem_nil)) rfl rfl rfl ?_
    refine aops_call_v zRc (all_con c hok.len.2) rfl rfl ?_
    refine aops_p (ap_arith (m := ((2 ^ c.length : Nat) : Int)) rfl rfl (by show some _ = _; simp only [Option.some.injEq]; omega) (by omega)) rfl rfl rfl ?_
    refine aops_make (N := 2 ^ c.length) (by_ := 32) (l := (List.replicate (2 ^ c.length) vd0).map vv) rfl rfl rfl rfl (vd_made hok.len) (by simp) (fun w O => zrow_rep w O _) ⟨by omega, by omega⟩ rfl rfl (fun g => ?_)
    refine aops_p (ap_assign rfl) rfl rfl rfl ?_
    refine aops_nil ?_
    refine seqM_n ?_
    refine awm_seq ?_
    refine awm_seq ?_
    refine awm_region ?_
    refine aops_p (ap_move rfl) rfl rfl rfl ?_
    first | refine aops_len rfl rfl rfl rfl (fun _ => ?_) | refine aops_p (ap_len_arr rfl zUpd rfl) rfl rfl rfl ?_ | refine aops_p (ap_len_nil rfl rfl) rfl rfl rfl ?_
    refine aops_p (ap_move rfl) rfl rfl rfl ?_
    refine aops_nil ?_
    refine seqM_n ?_
    refine awm_block ?_
    refine awm_loop2 (fun l q => some (ch, l.map (fun k => valV (judgeC c k)))) [5, 7, 32] [] (fun (l : List Nat) (q : List Vd) r => (33, .i ((2 ^ c.length - l.length : Nat) : Int)) :: r) (fun (l : List Nat) (q : List Vd) r => .arr (.slice (some ⟨g, 0, none⟩) (2 ^ c.length) (2 ^ c.length)) 38 5 (q.map vv) :: r) (fun (l : List Nat) (q : List Vd) => q.length = 2 ^ c.length ∧ (l.length ≤ 2 ^ c.length ∧ (∀ k ∈ l, k < 2 ^ c.length)) ∧ ∀ k, k < 2 ^ c.length → k ∈ l ∨ q[k]? = some (judgeC c k)) (fun (l : List Nat) (q : List Vd) => l.length) (downs (2 ^ c.length)) (List.replicate (2 ^ c.length) vd0) zRc ⟨by simp, ⟨by rw [downs_len]; omega, fun k hk => downs_mem.1 hk⟩, fun k hk => .inl (downs_mem.2 hk)⟩ (by rw [show ((2 ^ c.length - (downs (2 ^ c.length)).length : Nat) : Int) = 0 from by rw [downs_len]; omega]; exact wk zSub (by repeat (first | exact .nil | refine .cons (by first | exact .here | exact .there .here | exact .there (.there .here) | exact .there (.there (.there .here)) | exact .there (.there (.there (.there .here)))) ?_))) (by rw [pdl_map]) ?_
    intro l q ⟨hqn, ⟨hql, hlm⟩, hI⟩
    refine awm_seq ?_
    refine awm_region ?_
    refine aops_p (ap_cmp rfl rfl rfl) rfl rfl rfl ?_
    refine aops_nil ?_
    refine seqM_n ?_
    refine awm_seq ?_
    refine awm_cond rfl (fun hc => ?_) (fun hc => ?_)
    · have hlt := of_decide_eq_true hc
      refine awm_skip ?_
      refine seqM_n ?_
      refine awm_seq ?_
      refine awm_block ?_
      refine awm_seq ?_
      refine awm_recv1 rfl rfl rfl (by intro e; rw [List.map_eq_nil_iff] at e; subst e; simp only [List.length_nil] at hlt; omega) ?_
      refine aops_q (aq_load_el1 rfl rfl (.v rfl) (fun _ h => absurd h List.not_mem_nil)) rfl rfl rfl ?_
      refine aops_nil ⟨rfl, fun l₁ v l₂ hl => ?_⟩
      obtain ⟨m₁, k, m₂, rfl, rfl, rfl, rfl⟩ := map_split hl
      have hkN := hlm k (by simp)
      obtain ⟨y, hy, _⟩ := drop_cons (l := q) (k := k) (by omega)
      have hyy := getMap vv hy
      refine ⟨vv (judgeC c k), rep_vv _, ?_⟩
      refine aops_alloc rfl zRc rfl rfl (fun b8 => ?_)
      refine aops_store rfl rfl zFlat zUpd rfl zRc ?_
      refine aops_nil ?_
      refine seqM_n ?_
      refine awm_region ?_
      refine aops_p (ap_move rfl) rfl rfl rfl ?_
      first | refine aops_p (ap_fieldAddr (off := 0) (sz := 1) (g := false) rfl rfl) rfl rfl rfl ?_ | refine aops_p (ap_fieldAddr_el (off := 0) (sz := 1) (g := false) rfl rfl zRc) rfl rfl rfl ?_
      first | refine aops_q (aq_load1 rfl zUpd List.not_mem_nil rfl zRc) rfl rfl rfl ?_ | refine aops_q (aq_load_el1 rfl rfl zScal (fun _ h => absurd h List.not_mem_nil)) rfl rfl rfl ?_ | refine aops_q (aq_load_el1' rfl rfl zScal (fun _ h => absurd h List.not_mem_nil)) rfl rfl rfl ?_ | refine aops_q (aq_load_own1 rfl zUpd List.not_mem_nil rfl zAss zScal) rfl rfl rfl ?_
      first | refine aops_q (aq_load rfl zUpd List.not_mem_nil rfl rfl zRc) rfl rfl rfl ?_ | refine aops_q (aq_load_el rfl rfl rfl rfl (fun _ h => absurd h List.not_mem_nil)) rfl rfl rfl ?_
      refine aops_p (ap_index_own (k := k) rfl rfl rfl rfl rfl hkN) rfl rfl rfl ?_
      refine aops_store_ownF (off := 0) rfl rfl zFlat zUpd rfl hyy zRc ?_
      refine aops_nil ?_
      refine blockM_n ?_
      refine seqM_n ?_
      refine awm_region ?_
      refine aops_p (ap_arith rfl rfl rfl (by omega)) rfl rfl rfl ?_
      refine aops_p (ap_move rfl) rfl rfl rfl ?_
      refine aops_nil ?_
      refine seqM_n ?_
      rw [show ((2 ^ c.length - (m₁ ++ k :: m₂).length : Nat) : Int) + 1 = ((2 ^ c.length - (m₁ ++ m₂).length : Nat) : Int) from by simp only [List.length_append, List.length_cons] at hql ⊢; omega]
      rw [show (q.map vv).set k (D.agg [.i (judgeC c k).nodes, .b (judgeC c k).splits, .b (judgeC c k).halts, .i (judgeC c k).l, .i (judgeC c k).r]) = (q.set k (judgeC c k)).map vv from by rw [List.map_set]; rfl]
      refine ⟨m₁ ++ m₂, q.set k (judgeC c k), ⟨by rw [List.length_set]; exact hqn, ⟨by simp only [List.length_append, List.length_cons] at hql ⊢; omega, fun j hj => hlm j ?_⟩, fun j hj => ?_⟩, by simp only [List.length_append, List.length_cons]; omega, by rw [List.map_append], wk zSub (by repeat (first | exact .nil | refine .cons (by first | exact .here | exact .there .here | exact .there (.there .here) | exact .there (.there (.there .here)) | exact .there (.there (.there (.there .here)))) ?_))⟩
      · rw [List.mem_append] at hj; rw [List.mem_append, List.mem_cons]; exact hj.imp id .inr
      · by_cases e : j = k
        · subst e; right; rw [List.getElem?_set_self (by omega)]
        · rcases hI j hj with h | h
          · left; rw [List.mem_append, List.mem_cons] at h; rw [List.mem_append]; rcases h with h | h | h
            · exact .inl h
            · exact absurd h e
            · exact .inr h
          · right; rw [List.getElem?_set_ne (fun h => e h.symm)]; exact h
    · have hge := of_decide_eq_false hc
      have hl0 : l = [] := List.eq_nil_of_length_eq_zero (by omega)
      subst hl0
      have hqe := allV_of hqn (fun k hk => (hI k hk).resolve_left List.not_mem_nil)
      refine awm_close (ch := ch) ?_
      refine awm_freeze (.slice (some ⟨g, 0, none⟩) (2 ^ c.length) (2 ^ c.length)) [7] (by repeat (first | exact .here | apply Rem.there)) (by repeat (first | exact .nil | apply SelC.cons rfl (by first | exact Cv.fz | (apply Cv.agg; repeat (first | exact CvL.nil | apply CvL.cons (by first | exact Cv.fz | exact Cv.same))) | exact Cv.same))) (by repeat (first | exact .nil | apply HeapA.box (by repeat (first | exact CvL.nil | apply CvL.cons (by first | exact Cv.fz | exact Cv.same))) | apply HeapA.arr)) ?_
      refine awm_exit ?_
      refine seqM_x ?_
      refine seqM_x ?_
      refine blockM_x rfl ?_
      refine seqM_n ?_
      refine awm_seq ?_
      refine awm_region ?_
      refine aops_p (ap_move rfl) rfl rfl rfl ?_
      refine aops_p (ap_assign rfl) rfl rfl rfl ?_
      refine aops_p (ap_assign rfl) rfl rfl rfl ?_
      refine aops_nil ?_
      refine seqM_n ?_
      refine awm_ret ?_
      refine ⟨rfl, ?_⟩
      exact post_is (.tmp rfl (.tmp rfl .nil)) (by repeat (first | exact .nil | refine .cons (by first | exact .here | exact .there .here | exact .there (.there .here) | exact .there (.there (.there .here)) | exact .there (.there (.there (.there .here)))) ?_)) (by rw [hqe]; rfl)
theorem sane1 : leastV Vd.splits (allV c3) = [1, 2, 4] := by kernel_rfl
theorem sane2 : leastV Vd.halts (allV c3) = [3, 5, 6] := by kernel_rfl
theorem sane3 : silentC c3 1 = false := by kernel_rfl
theorem allV_nodes {c : List Mem} (h : c.length ≤ 4) : ∀ v ∈ allV c, v.nodes < 1024 := by
  intro v hv
  obtain ⟨k, hk, rfl⟩ := List.mem_map.1 hv
  have hk' := List.mem_range.1 hk
  have hp := pow_le10 (show c.length ≤ 10 by omega)
  show k < 1024
  omega
theorem allV_lt {c : List Mem} (h : c.length ≤ 4) : (allV c).length ≤ 1000000 := by
  rw [allV_len]
  have hp := pow_le10 (show c.length ≤ 10 by omega)
  omega
theorem Least_con {Ps : Value → World → Prop} (c : List Mem) (hok : OKA c) : Con (some Ps) Try.prog 9 [cv c] [] (Is (.tup [.sl 1 ((leastV Vd.splits (allV c)).map .i), .sl 1 ((leastV Vd.halts (allV c)).map .i), .i 0]) []) := by
  have hcap : capB = 140737488355328 := rfl
  refine con_intro Try.func9 rfl Try.call9 rfl ?_
  refine awp_seq ?_
  refine awp_region ?_
  refine aops_box rfl zFlat rfl rfl (fun b1 => ?_)
  refine aops_p (ap_assign rfl) rfl rfl rfl ?_
  refine aops_p (ap_assign rfl) rfl rfl rfl ?_
  refine aops_p (ap_assign rfl) rfl rfl rfl ?_
  refine aops_nil ?_
  refine seqQ_n ?_
  refine awp_seq ?_
  refine awp_region ?_
  first | refine aops_q (aq_load rfl zUpd List.not_mem_nil rfl rfl zRc) rfl rfl rfl ?_ | refine aops_q (aq_load_el rfl rfl rfl rfl (fun _ h => absurd h List.not_mem_nil)) rfl rfl rfl ?_
  refine aops_call_v zRc (All_con c hok) rfl rfl ?_
  refine aops_p (ap_move rfl) rfl rfl rfl ?_
  refine aops_p (ap_extract rfl rfl) rfl rfl rfl ?_
  refine aops_p (ap_extract rfl rfl) rfl rfl rfl ?_
  refine aops_p (ap_assign rfl) rfl rfl rfl ?_
  refine aops_p (ap_assign rfl) rfl rfl rfl ?_
  refine aops_nil ?_
  refine seqQ_n ?_
  refine awp_seq ?_
  refine awp_seq ?_
  refine awp_region ?_
  refine aops_p (ap_move rfl) rfl rfl rfl ?_
  refine aops_p (ap_cmp rfl rfl rfl) rfl rfl rfl ?_
  refine aops_nil ?_
  refine seqQ_n ?_
  refine awp_cond_f rfl zDec ?_
  refine awp_skip ?_
  refine seqQ_n ?_
  refine awp_seq ?_
  refine awp_region ?_
  refine aops_p (ap_move rfl) rfl rfl rfl ?_
  refine aops_call_v zRc ((aleast_con 20 Vd.splits isSplit_con (allV c) (allV_nodes hok.len.2) (allV_lt hok.len.2)).main) rfl rfl ?_
  refine aops_p (ap_move rfl) rfl rfl rfl ?_
  refine aops_call_v zRc ((aleast_con 21 Vd.halts isHalt_con (allV c) (allV_nodes hok.len.2) (allV_lt hok.len.2)).main) rfl rfl ?_
  refine aops_p (ap_assign rfl) rfl rfl rfl ?_
  refine aops_p (ap_assign rfl) rfl rfl rfl ?_
  refine aops_p (ap_assign rfl) rfl rfl rfl ?_
  refine aops_nil ?_
  refine seqQ_n ?_
  refine awp_ret ?_
  exact post_is (.tmp rfl (.tmp rfl (.tmp rfl .nil))) (by repeat (first | exact .nil | refine .cons (by first | exact .here | exact .there .here | exact .there (.there .here) | exact .there (.there (.there .here)) | exact .there (.there (.there (.there .here)))) ?_)) rfl
theorem sane43_con {Ps : Value → World → Prop} : Con (some Ps) Try.prog 11 [] [] (Is (.b true) []) := by
  have hcap : capB = 140737488355328 := rfl
  refine con_intro Try.func11 rfl Try.call11 rfl ?_
  refine awp_seq ?_
  refine awp_region ?_
  refine aops_p (ap_assign rfl) rfl rfl rfl ?_
  refine aops_nil ?_
  refine seqQ_n ?_
  refine awp_seq ?_
  refine awp_region ?_
  refine aops_call_v zRc (three_con.main) rfl rfl ?_
  refine aops_call_v zRc (Least_con c3 oka_c3) rfl rfl ?_
  refine aops_p (ap_move rfl) rfl rfl rfl ?_
  refine aops_p (ap_extract rfl rfl) rfl rfl rfl ?_
  refine aops_p (ap_extract rfl rfl) rfl rfl rfl ?_
  refine aops_p (ap_extract rfl rfl) rfl rfl rfl ?_
  refine aops_p (ap_assign rfl) rfl rfl rfl ?_
  refine aops_p (ap_assign rfl) rfl rfl rfl ?_
  refine aops_p (ap_assign rfl) rfl rfl rfl ?_
  refine aops_nil ?_
  refine seqQ_n ?_
  refine awp_seq ?_
  refine awp_region ?_
  refine aops_p (ap_move rfl) rfl rfl rfl ?_
  refine aops_p (ap_cmp rfl rfl rfl) rfl rfl rfl ?_
  refine aops_p (ap_move rfl) rfl rfl rfl ?_
  all_goals (first | (refine aops_yes rfl rfl rfl rfl zDec ?_; (refine aops_p (ap_move rfl) rfl rfl rfl ?_)) | refine aops_no_u rfl rfl rfl ?_ | refine aops_no_t rfl rfl rfl rfl zDec ?_ | (refine aops_guard_t rfl rfl rfl rfl (fun hg => ?_) (fun hg => ?_); case' _ => (refine aops_p (ap_move rfl) rfl rfl rfl ?_)))
  all_goals (first | (refine aops_yes rfl rfl rfl rfl zDec ?_; (refine aops_lit (e := 3) (sz := 1) (by_ := 8) rfl rfl zRc rfl rfl rfl rfl ?_)) | refine aops_no_u rfl rfl rfl ?_ | refine aops_no_t rfl rfl rfl rfl zDec ?_ | (refine aops_guard_t rfl rfl rfl rfl (fun hg => ?_) (fun hg => ?_); case' _ => (refine aops_lit (e := 3) (sz := 1) (by_ := 8) rfl rfl zRc rfl rfl rfl rfl ?_)))
  all_goals (first | (refine aops_yes rfl rfl rfl rfl zDec ?_; (refine aops_call_v zRc ((rInts_con (leastV Vd.splits (allV c3)) [1, 2, 4]).main) rfl rfl ?_)) | refine aops_no_u rfl rfl rfl ?_ | refine aops_no_t rfl rfl rfl rfl zDec ?_ | (refine aops_guard_t rfl rfl rfl rfl (fun hg => ?_) (fun hg => ?_); case' _ => (refine aops_call_v zRc ((rInts_con (leastV Vd.splits (allV c3)) [1, 2, 4]).main) rfl rfl ?_)))
  all_goals (first | refine aops_p (ap_pick_true rfl zDec rfl) rfl rfl rfl ?_ | refine aops_p (ap_pick_false rfl zDec rfl) rfl rfl rfl ?_)
  all_goals (refine aops_p (ap_move rfl) rfl rfl rfl ?_)
  all_goals (first | (refine aops_yes rfl rfl rfl rfl zDec ?_; (refine aops_p (ap_move rfl) rfl rfl rfl ?_)) | refine aops_no_u rfl rfl rfl ?_ | refine aops_no_t rfl rfl rfl rfl zDec ?_ | (refine aops_guard_t rfl rfl rfl rfl (fun hg => ?_) (fun hg => ?_); case' _ => (refine aops_p (ap_move rfl) rfl rfl rfl ?_)))
  all_goals (first | (refine aops_yes rfl rfl rfl rfl zDec ?_; (refine aops_lit (e := 3) (sz := 1) (by_ := 8) rfl rfl zRc rfl rfl rfl rfl ?_)) | refine aops_no_u rfl rfl rfl ?_ | refine aops_no_t rfl rfl rfl rfl zDec ?_ | (refine aops_guard_t rfl rfl rfl rfl (fun hg => ?_) (fun hg => ?_); case' _ => (refine aops_lit (e := 3) (sz := 1) (by_ := 8) rfl rfl zRc rfl rfl rfl rfl ?_)))
  all_goals (first | (refine aops_yes rfl rfl rfl rfl zDec ?_; (refine aops_call_v zRc ((rInts_con (leastV Vd.halts (allV c3)) [3, 5, 6]).main) rfl rfl ?_)) | refine aops_no_u rfl rfl rfl ?_ | refine aops_no_t rfl rfl rfl rfl zDec ?_ | (refine aops_guard_t rfl rfl rfl rfl (fun hg => ?_) (fun hg => ?_); case' _ => (refine aops_call_v zRc ((rInts_con (leastV Vd.halts (allV c3)) [3, 5, 6]).main) rfl rfl ?_)))
  all_goals (first | refine aops_p (ap_pick_true rfl zDec rfl) rfl rfl rfl ?_ | refine aops_p (ap_pick_false rfl zDec rfl) rfl rfl rfl ?_)
  all_goals (refine aops_p (ap_move rfl) rfl rfl rfl ?_)
  all_goals (first | (refine aops_yes rfl rfl rfl rfl zDec ?_; (refine aops_call_v zRc (three_con.main) rfl rfl ?_)) | refine aops_no_u rfl rfl rfl ?_ | refine aops_no_t rfl rfl rfl rfl zDec ?_ | (refine aops_guard_t rfl rfl rfl rfl (fun hg => ?_) (fun hg => ?_); case' _ => (refine aops_call_v zRc (three_con.main) rfl rfl ?_)))
  all_goals (first | (refine aops_yes rfl rfl rfl rfl zDec ?_; (refine aops_call_v zRc ((Silent_con c3 oka_c3 1 (by decide)).main) rfl rfl ?_)) | refine aops_no_u rfl rfl rfl ?_ | refine aops_no_t rfl rfl rfl rfl zDec ?_ | (refine aops_guard_t rfl rfl rfl rfl (fun hg => ?_) (fun hg => ?_); case' _ => (refine aops_call_v zRc ((Silent_con c3 oka_c3 1 (by decide)).main) rfl rfl ?_)))
  all_goals (first | (refine aops_yes rfl rfl rfl rfl zDec ?_; (refine aops_p (ap_not rfl) rfl rfl rfl ?_)) | refine aops_no_u rfl rfl rfl ?_ | refine aops_no_t rfl rfl rfl rfl zDec ?_ | (refine aops_guard_t rfl rfl rfl rfl (fun hg => ?_) (fun hg => ?_); case' _ => (refine aops_p (ap_not rfl) rfl rfl rfl ?_)))
  all_goals (first | refine aops_p (ap_pick_true rfl zDec rfl) rfl rfl rfl ?_ | refine aops_p (ap_pick_false rfl zDec rfl) rfl rfl rfl ?_)
  all_goals (refine aops_p (ap_assign rfl) rfl rfl rfl ?_)
  all_goals (
    refine aops_nil ?_
    refine seqQ_n ?_
    refine awp_ret ?_
    refine post_is (.tmp rfl .nil) (by repeat (first | exact .nil | refine .cons (by first | exact .here | exact .there .here | exact .there (.there .here) | exact .there (.there (.there .here)) | exact .there (.there (.there (.there .here)))) ?_)) ?_
    first
    | (simp_all [resD, sane1, sane2, sane3]; done)
    )
theorem ap_convu {n : Nat} {env : Env} {H : Heap} {dst : Option Tmp} {ty : TypeId} {pos : String} {after : Array Edge} {gd : Option (Nat × Bool)} {x : Operand} {P : Program} {s t k0 p u} (hx : opd env x = some (.v (.int k0 p))) (hs : P.underlying s = some u) (ht : P.underlying t = some (.int .u64)) (hb : 0 ≤ p ∧ p < 18446744073709551616) : AP P n ⟨dst, .convert s t x, ty, pos, after, gd⟩ env H (.v (.int .u64 p)) := by
  have := ap_convi (P := P) (n := n) (env := env) (H := H) (dst := dst) (ty := ty) (pos := pos) (after := after) (gd := gd) hx hs ht
  rwa [u64_id hb.1 hb.2] at this
theorem mem_leastGo {p : Vd → Bool} {l : List Vd} : ∀ {r : List Vd} {out : List Int} {x : Int}, x ∈ leastGo p l r out ↔ x ∈ out ∨ ∃ v ∈ r, (p v && !(l.any (subV p v))) = true ∧ x = (v.nodes : Int)
  | [], out, x => by simp [leastGo]
  | v :: r, out, x => by
    by_cases h : (p v && !(l.any (subV p v))) = true
    · rw [leastGo, if_pos h, mem_leastGo, List.mem_append, List.mem_singleton]
      constructor
      · rintro ((h1 | h1) | ⟨u, h1, h2⟩)
        · exact .inl h1
        · exact .inr ⟨v, List.mem_cons_self .., h, h1⟩
        · exact .inr ⟨u, List.mem_cons_of_mem _ h1, h2⟩
      · rintro (h1 | ⟨u, h1, h2⟩)
        · exact .inl (.inl h1)
        · rcases List.mem_cons.1 h1 with rfl | h1
          · exact .inl (.inr h2.2)
          · exact .inr ⟨u, h1, h2⟩
    · rw [leastGo, if_neg h, mem_leastGo]
      constructor
      · rintro (h1 | ⟨u, h1, h2⟩)
        · exact .inl h1
        · exact .inr ⟨u, List.mem_cons_of_mem _ h1, h2⟩
      · rintro (h1 | ⟨u, h1, h2⟩)
        · exact .inl h1
        · rcases List.mem_cons.1 h1 with rfl | h1
          · exact absurd h2.1 h
          · exact .inr ⟨u, h1, h2⟩
theorem subV_iff {p : Vd → Bool} {v o : Vd} (hv : v.nodes < 1024) (ho : o.nodes < 1024) : subV p v o = true ↔ p o = true ∧ o.nodes ≠ v.nodes ∧ Sub o.nodes v.nodes := by
  unfold subV
  rw [Bool.and_eq_true, Bool.and_eq_true, decide_eq_true_iff, andn_zero ho hv]
  simp [Int.ofNat_inj]
theorem mem_leastV {p : Vd → Bool} {c : List Mem} (hc : c.length ≤ 4) {x : Int} : x ∈ leastV p (allV c) ↔ ∃ k : Nat, x = k ∧ k < 2 ^ c.length ∧ p (judgeC c k) = true ∧ ∀ y, y < 2 ^ c.length → p (judgeC c y) = true → y ≠ k → ¬ Sub y k := by
  have hp := pow_le10 (show c.length ≤ 10 by omega)
  unfold leastV
  rw [mem_leastGo]
  have key : ∀ k, k < 2 ^ c.length → ((!((allV c).any (subV p (judgeC c k)))) = true ↔ ∀ y, y < 2 ^ c.length → p (judgeC c y) = true → y ≠ k → ¬ Sub y k) := by
    intro k hk
    rw [Bool.not_eq_true', List.any_eq_false]
    constructor
    · intro h y hy hp1 hne hs
      exact h (judgeC c y) (List.mem_map.2 ⟨y, List.mem_range.2 hy, rfl⟩) ((subV_iff (p := p) (v := judgeC c k) (o := judgeC c y) (by show k < 1024; omega) (by show y < 1024; omega)).2 ⟨hp1, hne, hs⟩)
    · intro h o ho hsub
      obtain ⟨y, hy, rfl⟩ := List.mem_map.1 ho
      have hy' := List.mem_range.1 hy
      obtain ⟨h1, h2, h3⟩ := (subV_iff (p := p) (v := judgeC c k) (o := judgeC c y) (by show k < 1024; omega) (by show y < 1024; omega)).1 hsub
      exact h y hy' h1 h2 h3
  constructor
  · rintro (h | ⟨v, hv, h1, rfl⟩)
    · cases h
    · obtain ⟨k, hk, rfl⟩ := List.mem_map.1 hv
      have hk' := List.mem_range.1 hk
      rw [Bool.and_eq_true] at h1
      exact ⟨k, rfl, hk', h1.1, (key k hk').1 h1.2⟩
  · rintro ⟨k, rfl, hk, h1, h2⟩
    exact .inr ⟨judgeC c k, List.mem_map.2 ⟨k, List.mem_range.2 hk, rfl⟩, by rw [h1, (key k hk).2 h2]; rfl, rfl⟩
theorem sub_le {a b : Nat} (h : Sub a b) : a ≤ b := by
  have e : a &&& b = a := Nat.eq_of_testBit_eq fun i => by
    rw [Nat.testBit_and]
    cases hb : a.testBit i with
    | false => rfl
    | true => rw [h i hb]; rfl
  rw [← e]; exact Nat.and_le_right
theorem halts_up {c : List Mem} (hc : c.length ≤ 4) {y x : Nat} (hx : x < 2 ^ c.length) (h : Sub y x) (hy : silentC c y = true) : silentC c x = true := by
  have hyx := sub_le h
  rw [halts_iff hc (by omega)] at hy
  rw [halts_iff hc hx]
  intro a h1 h2 h3
  refine hy a h1 h2 (Nat.eq_of_testBit_eq fun i => ?_)
  rw [Nat.testBit_and, Nat.zero_testBit]
  have h4 := congrArg (·.testBit i) h3
  simp only [Nat.testBit_and, Nat.zero_testBit] at h4
  cases hb : y.testBit i with
  | false => simp
  | true => rw [h i hb, Bool.and_true] at h4; rw [h4]; rfl
theorem part_iff {c : List Mem} (hc : c.length ≤ 4) {x : Nat} (hx : x < 2 ^ c.length) : (∃ m : Nat, (m : Int) ∈ leastV Vd.halts (allV c) ∧ Sub m x) ↔ (judgeC c x).halts = true := by
  constructor
  · rintro ⟨m, h1, h2⟩
    obtain ⟨k, hk, h3, h4, _⟩ := (mem_leastV hc).1 h1
    obtain rfl : m = k := by omega
    exact halts_up hc hx h2 h4
  · intro h
    induction x using Nat.strongRecOn with
    | _ x ih =>
      by_cases h0 : ∃ y, y < 2 ^ c.length ∧ (judgeC c y).halts = true ∧ y ≠ x ∧ Sub y x
      · obtain ⟨y, h1, h2, h3, h4⟩ := h0
        obtain ⟨m, h5, h6⟩ := ih y (by have := sub_le h4; omega) h1 h2
        exact ⟨m, h5, h6.trans h4⟩
      · exact ⟨x, (mem_leastV hc).2 ⟨x, rfl, hx, h, fun y h1 h2 h3 h4 => h0 ⟨y, h1, h2, h3, h4⟩⟩, Sub.refl x⟩
theorem in_iff {c : List Mem} (hc : c.length ≤ 4) {x : Nat} (hx : x < 2 ^ c.length) : ((x : Int) ∈ leastV Vd.splits (allV c)) ↔ (judgeC c x).splits = true ∧ ∀ y, y < x → ¬ ((judgeC c y).splits = true ∧ Sub y x) := by
  rw [mem_leastV hc]
  constructor
  · rintro ⟨k, hk, h1, h2, h3⟩
    obtain rfl : x = k := by omega
    exact ⟨h2, fun y h4 ⟨h5, h6⟩ => h3 y (by omega) h5 (by omega) h6⟩
  · rintro ⟨h1, h2⟩
    exact ⟨x, rfl, hx, h1, fun y h3 h4 h5 h6 => h2 y (by have := sub_le h6; omega) ⟨h4, h6⟩⟩
theorem least_nat {p : Vd → Bool} {c : List Mem} (hc : c.length ≤ 4) {j : Nat} {y : Int} (h : (leastV p (allV c))[j]? = some y) : ∃ m : Nat, y = m ∧ m < 1024 := by
  have hp := pow_le10 (show c.length ≤ 10 by omega)
  obtain ⟨k, h1, h2, _⟩ := (mem_leastV hc).1 (List.mem_of_getElem? h)
  exact ⟨k, h1, by omega⟩
theorem mem_take1 {l : List Int} {j : Nat} {y x : Int} (h : l[j]? = some y) : x ∈ l.take (j + 1) ↔ x ∈ l.take j ∨ x = y := by
  rw [List.take_add_one, h]
  simp
theorem part_step {l : List Int} {j m k : Nat} {pt pt' : Bool} (hy : l[j]? = some (m : Int)) (hm : m < 1024) (hk : k < 1024) (hI : pt = true ↔ ∃ m : Nat, (m : Int) ∈ l.take j ∧ Sub m k)
    (h : pt' = (pt || decide (((m &&& (2 ^ 63 - 1 - k) : Nat) : Int) = 0))) : pt' = true ↔ ∃ m : Nat, (m : Int) ∈ l.take (j + 1) ∧ Sub m k := by
  rw [h, Bool.or_eq_true, hI, decide_eq_true_iff, andn_zero hm hk]
  constructor
  · rintro (⟨a, h1, h2⟩ | h1)
    · exact ⟨a, (mem_take1 hy).2 (.inl h1), h2⟩
    · exact ⟨m, (mem_take1 hy).2 (.inr rfl), h1⟩
  · rintro ⟨a, h1, h2⟩
    rcases (mem_take1 hy).1 h1 with h1 | h1
    · exact .inl ⟨a, h1, h2⟩
    · obtain rfl : a = m := by omega
      exact .inr h2
theorem least_step {f : Nat → Bool} {S : Bool} {j k : Nat} {le le' : Bool} (hj : j < 1024) (hk : k < 1024) (hI : le = true ↔ S = true ∧ ∀ y, y < j → ¬ (f y = true ∧ Sub y k))
    (h : le' = (le && !(f j && decide (((j &&& (2 ^ 63 - 1 - k) : Nat) : Int) = 0)))) : le' = true ↔ S = true ∧ ∀ y, y < j + 1 → ¬ (f y = true ∧ Sub y k) := by
  have e : (!(f j && decide (((j &&& (2 ^ 63 - 1 - k) : Nat) : Int) = 0))) = true ↔ ¬ (f j = true ∧ Sub j k) := by
    rw [Bool.not_eq_true', ← Bool.not_eq_true, Bool.and_eq_true, decide_eq_true_iff, andn_zero hj hk]
  rw [h, Bool.and_eq_true, hI, e]
  constructor
  · rintro ⟨⟨h1, h2⟩, h3⟩
    refine ⟨h1, fun y hy => ?_⟩
    by_cases ey : y = j
    · subst ey; exact h3
    · exact h2 y (by omega)
  · rintro ⟨h1, h2⟩
    exact ⟨⟨h1, fun y hy => h2 y (by omega)⟩, h2 j (by omega)⟩
theorem in_step {l : List Int} {j : Nat} {y x : Int} {b b' : Bool} (hy : l[j]? = some y) (hI : b = true ↔ x ∈ l.take j) (h : b' = (b || decide (y = x))) : b' = true ↔ x ∈ l.take (j + 1) := by
  rw [h, Bool.or_eq_true, hI, decide_eq_true_iff, mem_take1 hy]
  exact or_congr_right ⟨fun h => h.symm, fun h => h.symm⟩
theorem all_get {c : List Mem} {k : Nat} (hk : k < 2 ^ c.length) : ((allV c).map vv)[k]? = some (D.agg [.i k, .b (judgeC c k).splits, .b (judgeC c k).halts, .i (judgeC c k).l, .i (judgeC c k).r]) := by
  simp [allV, hk]; rfl
set_option maxHeartbeats 1000000 in
theorem least43_con {Ps : Value → World → Prop} (l : List Int) : Con (some Ps) Try.prog 3 [.sl 1 (l.map .i)] [] (Is (.b true) []) := by
  have hcap : capB = 140737488355328 := rfl
  refine con_intro Try.func3 rfl Try.call3 rfl ?_
  refine awp_seq ?_
  refine awp_region ?_
  refine aops_p (ap_assign rfl) rfl rfl rfl ?_
  refine aops_nil ?_
  refine seqQ_n ?_
  refine awp_seq ?_
  refine awp_region ?_
  refine aops_p (ap_move rfl) rfl rfl rfl ?_
  (refine aops_call zRc ((SNew_con _).main) zSplit rfl rfl ?_; rintro _ _ ⟨b22, rfl, rfl⟩)
  refine aops_p (ap_assign rfl) rfl rfl rfl ?_
  refine aops_nil ?_
  refine seqQ_n ?_
  refine awp_seq ?_
  refine awp_region ?_
  refine aops_p (ap_move rfl) rfl rfl rfl ?_
  (refine aops_call zRc ((SRange_con _ _ _ 1 4 (by omega)).main) zSplit rfl rfl ?_; rintro _ _ ⟨r24, a24, rfl, hr24, rfl⟩; obtain ⟨n, rfl⟩ := Int.eq_ofNat_of_zero_le (show 0 ≤ r24 by omega); have hn : 1 ≤ n ∧ n ≤ 4 := (by omega))
  refine aops_p (ap_assign rfl) rfl rfl rfl ?_
  refine aops_nil ?_
  refine seqQ_n ?_
  refine awp_seq ?_
  refine awp_region ?_
  refine aops_p (ap_move rfl) rfl rfl rfl ?_
  refine aops_p (ap_move rfl) rfl rfl rfl ?_
  (refine aops_call zRc ((SConfig_con _ n _ hn _).main) zSplit rfl rfl ?_; rintro _ _ ⟨c, a27, rfl, ⟨hok, hcl⟩, rfl⟩; subst hcl; have hp := pow4 hok.len; have hal : ((allV c).map vv).length = 2 ^ c.length := (by rw [List.length_map, allV_len]); have hl1 : ((leastV Vd.splits (allV c)).map D.i).length = (leastV Vd.splits (allV c)).length := (by simp); have hl2 : ((leastV Vd.halts (allV c)).map D.i).length = (leastV Vd.halts (allV c)).length := (by simp); have hpl : 1 * 2 ^ c.length = 2 ^ c.length := Nat.one_mul _)
  refine aops_alloc rfl zRc rfl rfl (fun b5 => ?_)
  first | refine aops_store rfl rfl zFlat zUpd rfl zRc ?_ | refine aops_store_own1 rfl rfl zScal zUpd rfl (by simp only [List.length_set, List.length_map]; omega) ?_
  refine aops_nil ?_
  refine seqQ_n ?_
  refine awp_seq ?_
  refine awp_region ?_
  first | refine aops_q (aq_load rfl zUpd List.not_mem_nil rfl rfl zRc) rfl rfl rfl ?_ | refine aops_q (aq_load_el rfl rfl rfl rfl (fun _ h => absurd h List.not_mem_nil)) rfl rfl rfl ?_
  refine aops_call_v zRc (Least_con c hok) rfl rfl ?_
  refine aops_p (ap_move rfl) rfl rfl rfl ?_
  refine aops_p (ap_extract rfl rfl) rfl rfl rfl ?_
  refine aops_p (ap_extract rfl rfl) rfl rfl rfl ?_
  refine aops_p (ap_extract rfl rfl) rfl rfl rfl ?_
  refine aops_p (ap_assign rfl) rfl rfl rfl ?_
  refine aops_p (ap_assign rfl) rfl rfl rfl ?_
  refine aops_p (ap_assign rfl) rfl rfl rfl ?_
  refine aops_nil ?_
  refine seqQ_n ?_
  refine awp_seq ?_
  refine awp_region ?_
  first | refine aops_q (aq_load rfl zUpd List.not_mem_nil rfl rfl zRc) rfl rfl rfl ?_ | refine aops_q (aq_load_el rfl rfl rfl rfl (fun _ h => absurd h List.not_mem_nil)) rfl rfl rfl ?_
  refine aops_call_v zRc (All_con c hok) rfl rfl ?_
  refine aops_p (ap_move rfl) rfl rfl rfl ?_
  refine aops_p (ap_extract rfl rfl) rfl rfl rfl ?_
  refine aops_p (ap_extract rfl rfl) rfl rfl rfl ?_
  refine aops_p (ap_assign rfl) rfl rfl rfl ?_
  refine aops_p (ap_assign rfl) rfl rfl rfl ?_
  refine aops_nil ?_
  refine seqQ_n ?_
  refine awp_seq ?_
  refine awp_seq ?_
  refine awp_region ?_
  refine aops_p (ap_move rfl) rfl rfl rfl ?_
  refine aops_p (ap_cmp rfl rfl rfl) rfl rfl rfl ?_
  refine aops_p (ap_move rfl) rfl rfl rfl ?_
  all_goals (first | (refine aops_yes rfl rfl rfl rfl zDec ?_; (refine aops_p (ap_move rfl) rfl rfl rfl ?_)) | refine aops_no_u rfl rfl rfl ?_ | refine aops_no_f rfl rfl rfl rfl zDec ?_ | (refine aops_guard_f rfl rfl rfl rfl (fun hg => ?_) (fun hg => ?_); case' _ => (refine aops_p (ap_move rfl) rfl rfl rfl ?_)))
  all_goals (first | (refine aops_yes rfl rfl rfl rfl zDec ?_; (refine aops_p (ap_cmp rfl rfl rfl) rfl rfl rfl ?_)) | refine aops_no_u rfl rfl rfl ?_ | refine aops_no_f rfl rfl rfl rfl zDec ?_ | (refine aops_guard_f rfl rfl rfl rfl (fun hg => ?_) (fun hg => ?_); case' _ => (refine aops_p (ap_cmp rfl rfl rfl) rfl rfl rfl ?_)))
  all_goals (first | refine aops_p (ap_pick_true rfl zDec rfl) rfl rfl rfl ?_ | refine aops_p (ap_pick_false rfl zDec rfl) rfl rfl rfl ?_)
  all_goals (refine aops_p (ap_move rfl) rfl rfl rfl ?_)
  all_goals (first | (refine aops_yes rfl rfl rfl rfl zDec ?_; (refine aops_p (ap_move rfl) rfl rfl rfl ?_)) | refine aops_no_u rfl rfl rfl ?_ | refine aops_no_f rfl rfl rfl rfl zDec ?_ | (refine aops_guard_f rfl rfl rfl rfl (fun hg => ?_) (fun hg => ?_); case' _ => (refine aops_p (ap_move rfl) rfl rfl rfl ?_)))
  all_goals (first | (refine aops_yes rfl rfl rfl rfl zDec ?_; (first | refine aops_len rfl rfl rfl rfl (fun _ => ?_) | refine aops_p (ap_len_arr rfl zUpd rfl) rfl rfl rfl ?_ | refine aops_p (ap_len_nil rfl rfl) rfl rfl rfl ?_)) | refine aops_no_u rfl rfl rfl ?_ | refine aops_no_f rfl rfl rfl rfl zDec ?_ | (refine aops_guard_f rfl rfl rfl rfl (fun hg => ?_) (fun hg => ?_); case' _ => (first | refine aops_len rfl rfl rfl rfl (fun _ => ?_) | refine aops_p (ap_len_arr rfl zUpd rfl) rfl rfl rfl ?_ | refine aops_p (ap_len_nil rfl rfl) rfl rfl rfl ?_)))
  all_goals (first | (refine aops_yes rfl rfl rfl rfl zDec ?_; (refine aops_p (ap_move rfl) rfl rfl rfl ?_)) | refine aops_no_u rfl rfl rfl ?_ | refine aops_no_f rfl rfl rfl rfl zDec ?_ | (refine aops_guard_f rfl rfl rfl rfl (fun hg => ?_) (fun hg => ?_); case' _ => (refine aops_p (ap_move rfl) rfl rfl rfl ?_)))
  all_goals (first | (refine aops_yes rfl rfl rfl rfl zDec ?_; (refine aops_p (ap_convu rfl rfl rfl (by omega)) rfl rfl rfl ?_)) | refine aops_no_u rfl rfl rfl ?_ | refine aops_no_f rfl rfl rfl rfl zDec ?_ | (refine aops_guard_f rfl rfl rfl rfl (fun hg => ?_) (fun hg => ?_); case' _ => (refine aops_p (ap_convu rfl rfl rfl (by omega)) rfl rfl rfl ?_)))
  all_goals (first | (refine aops_yes rfl rfl rfl rfl zDec ?_; (refine aops_p (ap_shl (p := 1) rfl rfl rfl (by omega) (by omega)) rfl rfl rfl ?_)) | refine aops_no_u rfl rfl rfl ?_ | refine aops_no_f rfl rfl rfl rfl zDec ?_ | (refine aops_guard_f rfl rfl rfl rfl (fun hg => ?_) (fun hg => ?_); case' _ => (refine aops_p (ap_shl (p := 1) rfl rfl rfl (by omega) (by omega)) rfl rfl rfl ?_)))
  all_goals (first | (refine aops_yes rfl rfl rfl rfl zDec ?_; (refine aops_p (ap_cmp rfl rfl rfl) rfl rfl rfl ?_)) | refine aops_no_u rfl rfl rfl ?_ | refine aops_no_f rfl rfl rfl rfl zDec ?_ | (refine aops_guard_f rfl rfl rfl rfl (fun hg => ?_) (fun hg => ?_); case' _ => (refine aops_p (ap_cmp rfl rfl rfl) rfl rfl rfl ?_)))
  all_goals ((rw [show (!decide ((((allV c).map vv).length : Int) = ((1 * 2 ^ c.length : Nat) : Int))) = false from by rw [hal, hpl]; simp]; first | refine aops_p (ap_pick_true rfl zDec rfl) rfl rfl rfl ?_ | refine aops_p (ap_pick_false rfl zDec rfl) rfl rfl rfl ?_))
  all_goals (
    refine aops_nil ?_
    refine seqQ_n ?_
    refine awp_cond_f rfl zDec ?_
    refine awp_skip ?_
    refine seqQ_n ?_
    refine awp_seq ?_
    refine awp_seq ?_
    refine awp_region ?_
    refine aops_p (ap_move rfl) rfl rfl rfl ?_
    first | refine aops_len rfl rfl rfl rfl (fun _ => ?_) | refine aops_p (ap_len_arr rfl zUpd rfl) rfl rfl rfl ?_ | refine aops_p (ap_len_nil rfl rfl) rfl rfl rfl ?_
    refine aops_p (ap_move rfl) rfl rfl rfl ?_
    refine aops_nil ?_
    refine seqQ_n ?_
    refine awp_block ?_
    refine awp_loop1 [6, 7, 9, 53, 54] [] (fun (k : Nat) r => (55, .i (k : Int)) :: r) (fun (k : Nat) r => r) (fun (k : Nat) => k ≤ 2 ^ c.length) (fun (k : Nat) => 2 ^ c.length - k) (0) zRc (by omega) (wk zSub (by repeat (first | exact .nil | refine .cons (by first | exact .here | exact .there .here | exact .there (.there .here) | exact .there (.there (.there .here)) | exact .there (.there (.there (.there .here)))) ?_))) ?_
    intro k hk
    refine awp_seq ?_
    refine awp_region ?_
    refine aops_p (ap_cmp rfl rfl rfl) rfl rfl rfl ?_
    refine aops_nil ?_
    refine seqQ_n ?_
    refine awp_seq ?_
    refine awp_cond rfl (fun hc => ?_) (fun hc => ?_)
    · have hlt := of_decide_eq_true hc
      have hkN : k < 2 ^ c.length := by omega
      refine awp_skip ?_
      refine seqQ_n ?_
      refine awp_seq ?_
      refine awp_block ?_
      refine awp_seq ?_
      refine awp_region ?_
      refine aops_p (ap_move rfl) rfl rfl rfl ?_
      refine aops_p (ap_index (k := k) rfl rfl rfl rfl (by decide) rfl (all_get (by omega))) rfl rfl rfl ?_
      first | refine aops_q (aq_load rfl zUpd List.not_mem_nil rfl rfl zRc) rfl rfl rfl ?_ | refine aops_q (aq_load_el rfl rfl rfl rfl (fun _ h => absurd h List.not_mem_nil)) rfl rfl rfl ?_
      refine aops_alloc rfl zRc rfl rfl (fun b12 => ?_)
      refine aops_p (ap_assign rfl) rfl rfl rfl ?_
      first | refine aops_store rfl rfl zFlat zUpd rfl zRc ?_ | refine aops_store_own1 rfl rfl zScal zUpd rfl (by simp only [List.length_set, List.length_map]; omega) ?_
      refine aops_nil ?_
      refine seqQ_n ?_
      refine awp_seq ?_
      refine awp_region ?_
      refine aops_p (ap_assign rfl) rfl rfl rfl ?_
      refine aops_nil ?_
      refine seqQ_n ?_
      refine awp_seq ?_
      refine awp_seq ?_
      refine awp_region ?_
      refine aops_p (ap_move rfl) rfl rfl rfl ?_
      first | refine aops_len rfl rfl rfl rfl (fun _ => ?_) | refine aops_p (ap_len_arr rfl zUpd rfl) rfl rfl rfl ?_ | refine aops_p (ap_len_nil rfl rfl) rfl rfl rfl ?_
      refine aops_p (ap_move rfl) rfl rfl rfl ?_
      refine aops_nil ?_
      refine seqQ_n ?_
      refine awp_block ?_
      refine awp_loop2 [6, 7, 9, 11, 12, 53, 54, 55, 60, 61] [.box b12 _ _] (fun (j : Nat) (pt : Bool) r => (13, .b pt) :: (62, .i (j : Int)) :: r) (fun (j : Nat) (pt : Bool) r => r) (fun (j : Nat) (pt : Bool) => j ≤ (leastV Vd.halts (allV c)).length ∧ (pt = true ↔ ∃ m : Nat, (m : Int) ∈ (leastV Vd.halts (allV c)).take j ∧ Sub m k)) (fun (j : Nat) (pt : Bool) => (leastV Vd.halts (allV c)).length - j) (0) (false) zRc ⟨by omega, by simp⟩ (wk zSub (by repeat (first | exact .nil | refine .cons (by first | exact .here | exact .there .here | exact .there (.there .here) | exact .there (.there (.there .here)) | exact .there (.there (.there (.there .here)))) ?_))) ?_
      intro j pt ⟨hj, hI⟩
      refine awp_seq ?_
      refine awp_region ?_
      refine aops_p (ap_cmp rfl rfl rfl) rfl rfl rfl ?_
      refine aops_nil ?_
      refine seqQ_n ?_
      refine awp_seq ?_
      refine awp_cond rfl (fun hc => ?_) (fun hc => ?_)
      · have hltj := of_decide_eq_true hc
        obtain ⟨y, hy, _⟩ := drop_cons (l := (leastV Vd.halts (allV c))) (k := j) (by omega)
        obtain ⟨m, rfl, hm⟩ := least_nat hok.len.2 hy
        have hx' := getMap D.i hy
        refine awp_skip ?_
        refine seqQ_n ?_
        refine awp_seq ?_
        refine awp_block ?_
        refine awp_seq ?_
        refine awp_region ?_
        first | refine aops_p (ap_index rfl rfl rfl rfl (by decide) rfl zAss) rfl rfl rfl ?_ | refine aops_p (ap_index rfl rfl rfl rfl (by decide) (by omega) zAss) rfl rfl rfl ?_ | refine aops_p (ap_index_own rfl rfl rfl rfl rfl (by first | omega | (simp only [List.length_map, List.length_set, avs_len]; omega))) rfl rfl rfl ?_
        first | refine aops_q (aq_load1 rfl zUpd List.not_mem_nil rfl zRc) rfl rfl rfl ?_ | refine aops_q (aq_load_el1 rfl rfl zScal (fun _ h => absurd h List.not_mem_nil)) rfl rfl rfl ?_ | refine aops_q (aq_load_el1' rfl rfl zScal (fun _ h => absurd h List.not_mem_nil)) rfl rfl rfl ?_ | refine aops_q (aq_load_own1 rfl zUpd List.not_mem_nil rfl zAss zScal) rfl rfl rfl ?_
        refine aops_p (ap_assign rfl) rfl rfl rfl ?_
        refine aops_nil ?_
        refine seqQ_n ?_
        refine awp_region ?_
        refine aops_p (ap_move rfl) rfl rfl rfl ?_
        refine aops_p (ap_move rfl) rfl rfl rfl ?_
        all_goals (first | (refine aops_yes rfl rfl rfl rfl zDec ?_; (refine aops_p (ap_move rfl) rfl rfl rfl ?_)) | refine aops_no_u rfl rfl rfl ?_ | refine aops_no_f rfl rfl rfl rfl zDec ?_ | (refine aops_guard_f rfl rfl rfl rfl (fun hg => ?_) (fun hg => ?_); case' _ => (refine aops_p (ap_move rfl) rfl rfl rfl ?_)))
        all_goals (first | (refine aops_yes rfl rfl rfl rfl zDec ?_; (refine aops_p (ap_move rfl) rfl rfl rfl ?_)) | refine aops_no_u rfl rfl rfl ?_ | refine aops_no_f rfl rfl rfl rfl zDec ?_ | (refine aops_guard_f rfl rfl rfl rfl (fun hg => ?_) (fun hg => ?_); case' _ => (refine aops_p (ap_move rfl) rfl rfl rfl ?_)))
        all_goals (first | (refine aops_yes rfl rfl rfl rfl zDec ?_; (refine aops_p (ap_bits rfl rfl rfl (by omega) (by omega)) rfl rfl rfl ?_)) | refine aops_no_u rfl rfl rfl ?_ | refine aops_no_f rfl rfl rfl rfl zDec ?_ | (refine aops_guard_f rfl rfl rfl rfl (fun hg => ?_) (fun hg => ?_); case' _ => (refine aops_p (ap_bits rfl rfl rfl (by omega) (by omega)) rfl rfl rfl ?_)))
        all_goals (first | (refine aops_yes rfl rfl rfl rfl zDec ?_; (refine aops_p (ap_cmp rfl rfl rfl) rfl rfl rfl ?_)) | refine aops_no_u rfl rfl rfl ?_ | refine aops_no_f rfl rfl rfl rfl zDec ?_ | (refine aops_guard_f rfl rfl rfl rfl (fun hg => ?_) (fun hg => ?_); case' _ => (refine aops_p (ap_cmp rfl rfl rfl) rfl rfl rfl ?_)))
        all_goals (first | refine aops_p (ap_pick_true rfl zDec rfl) rfl rfl rfl ?_ | refine aops_p (ap_pick_false rfl zDec rfl) rfl rfl rfl ?_)
        all_goals (refine aops_p (ap_assign rfl) rfl rfl rfl ?_)
        all_goals (
          refine aops_nil ?_
          refine blockQ_n ?_
          refine seqQ_n ?_
          refine awp_region ?_
          refine aops_p (ap_arith rfl rfl rfl (by omega)) rfl rfl rfl ?_
          refine aops_p (ap_move rfl) rfl rfl rfl ?_
          refine aops_nil ?_
          refine seqQ_n ?_
          refine ⟨j + 1, _, ⟨by omega, part_step hy hm (by omega) hI ?_⟩, by omega, wk zSub (by repeat (first | exact .nil | refine .cons (by first | exact .here | exact .there .here | exact .there (.there .here) | exact .there (.there (.there .here)) | exact .there (.there (.there (.there .here)))) ?_))⟩
          simp_all
          )
      · have hgej := of_decide_eq_false hc
        have hpt : (judgeC c k).halts = pt := by rw [Bool.eq_iff_iff, ← part_iff hok.len.2 hkN, hI, List.take_of_length_le (by omega)]
        refine awp_exit ?_
        refine seqQ_x ?_
        refine seqQ_x ?_
        refine blockQ_x rfl ?_
        refine seqQ_n ?_
        refine awp_seq ?_
        refine awp_seq ?_
        refine awp_region ?_
        first | refine aops_p (ap_fieldAddr (off := 0) (sz := 1) (g := false) rfl rfl) rfl rfl rfl ?_ | refine aops_p (ap_fieldAddr_el (off := 0) (sz := 1) (g := false) rfl rfl zRc) rfl rfl rfl ?_
        first | refine aops_q (aq_load1 rfl zUpd List.not_mem_nil rfl zRc) rfl rfl rfl ?_ | refine aops_q (aq_load_el1 rfl rfl zScal (fun _ h => absurd h List.not_mem_nil)) rfl rfl rfl ?_ | refine aops_q (aq_load_el1' rfl rfl zScal (fun _ h => absurd h List.not_mem_nil)) rfl rfl rfl ?_ | refine aops_q (aq_load_own1 rfl zUpd List.not_mem_nil rfl zAss zScal) rfl rfl rfl ?_
        refine aops_p (ap_move rfl) rfl rfl rfl ?_
        refine aops_p (ap_cmp rfl rfl rfl) rfl rfl rfl ?_
        (rw [show (!decide ((k : Int) = (k : Int))) = false from by simp]; refine aops_p (ap_move rfl) rfl rfl rfl ?_)
        all_goals (first | (refine aops_yes rfl rfl rfl rfl zDec ?_; (first | refine aops_p (ap_fieldAddr (off := 2) (sz := 1) (g := false) rfl rfl) rfl rfl rfl ?_ | refine aops_p (ap_fieldAddr_el (off := 2) (sz := 1) (g := false) rfl rfl zRc) rfl rfl rfl ?_)) | refine aops_no_u rfl rfl rfl ?_ | refine aops_no_f rfl rfl rfl rfl zDec ?_ | (refine aops_guard_f rfl rfl rfl rfl (fun hg => ?_) (fun hg => ?_); case' _ => (first | refine aops_p (ap_fieldAddr (off := 2) (sz := 1) (g := false) rfl rfl) rfl rfl rfl ?_ | refine aops_p (ap_fieldAddr_el (off := 2) (sz := 1) (g := false) rfl rfl zRc) rfl rfl rfl ?_)))
        all_goals (first | (refine aops_yes rfl rfl rfl rfl zDec ?_; (first | refine aops_q (aq_load1 rfl zUpd List.not_mem_nil rfl zRc) rfl rfl rfl ?_ | refine aops_q (aq_load_el1 rfl rfl zScal (fun _ h => absurd h List.not_mem_nil)) rfl rfl rfl ?_ | refine aops_q (aq_load_el1' rfl rfl zScal (fun _ h => absurd h List.not_mem_nil)) rfl rfl rfl ?_ | refine aops_q (aq_load_own1 rfl zUpd List.not_mem_nil rfl zAss zScal) rfl rfl rfl ?_)) | refine aops_no_u rfl rfl rfl ?_ | refine aops_no_f rfl rfl rfl rfl zDec ?_ | (refine aops_guard_f rfl rfl rfl rfl (fun hg => ?_) (fun hg => ?_); case' _ => (first | refine aops_q (aq_load1 rfl zUpd List.not_mem_nil rfl zRc) rfl rfl rfl ?_ | refine aops_q (aq_load_el1 rfl rfl zScal (fun _ h => absurd h List.not_mem_nil)) rfl rfl rfl ?_ | refine aops_q (aq_load_el1' rfl rfl zScal (fun _ h => absurd h List.not_mem_nil)) rfl rfl rfl ?_ | refine aops_q (aq_load_own1 rfl zUpd List.not_mem_nil rfl zAss zScal) rfl rfl rfl ?_)))
        all_goals (first | (refine aops_yes rfl rfl rfl rfl zDec ?_; (refine aops_p (ap_move rfl) rfl rfl rfl ?_)) | refine aops_no_u rfl rfl rfl ?_ | refine aops_no_f rfl rfl rfl rfl zDec ?_ | (refine aops_guard_f rfl rfl rfl rfl (fun hg => ?_) (fun hg => ?_); case' _ => (refine aops_p (ap_move rfl) rfl rfl rfl ?_)))
        all_goals (first | (refine aops_yes rfl rfl rfl rfl zDec ?_; (refine aops_p (ap_neb rfl rfl rfl) rfl rfl rfl ?_)) | refine aops_no_u rfl rfl rfl ?_ | refine aops_no_f rfl rfl rfl rfl zDec ?_ | (refine aops_guard_f rfl rfl rfl rfl (fun hg => ?_) (fun hg => ?_); case' _ => (refine aops_p (ap_neb rfl rfl rfl) rfl rfl rfl ?_)))
        all_goals ((rw [show ((judgeC c k).halts != pt) = false from by rw [hpt]; simp]; first | refine aops_p (ap_pick_true rfl zDec rfl) rfl rfl rfl ?_ | refine aops_p (ap_pick_false rfl zDec rfl) rfl rfl rfl ?_))
        all_goals (
          refine aops_nil ?_
          refine seqQ_n ?_
          refine awp_cond_f rfl zDec ?_
          refine awp_skip ?_
          refine seqQ_n ?_
          refine awp_seq ?_
          refine awp_region ?_
          first | refine aops_p (ap_fieldAddr (off := 1) (sz := 1) (g := false) rfl rfl) rfl rfl rfl ?_ | refine aops_p (ap_fieldAddr_el (off := 1) (sz := 1) (g := false) rfl rfl zRc) rfl rfl rfl ?_
          first | refine aops_q (aq_load1 rfl zUpd List.not_mem_nil rfl zRc) rfl rfl rfl ?_ | refine aops_q (aq_load_el1 rfl rfl zScal (fun _ h => absurd h List.not_mem_nil)) rfl rfl rfl ?_ | refine aops_q (aq_load_el1' rfl rfl zScal (fun _ h => absurd h List.not_mem_nil)) rfl rfl rfl ?_ | refine aops_q (aq_load_own1 rfl zUpd List.not_mem_nil rfl zAss zScal) rfl rfl rfl ?_
          refine aops_p (ap_assign rfl) rfl rfl rfl ?_
          refine aops_nil ?_
          refine seqQ_n ?_
          refine awp_seq ?_
          refine awp_seq ?_
          refine awp_region ?_
          refine aops_p (ap_move rfl) rfl rfl rfl ?_
          refine aops_p (ap_move rfl) rfl rfl rfl ?_
          refine aops_nil ?_
          refine seqQ_n ?_
          refine awp_block ?_
          refine awp_loop2 [6, 7, 9, 11, 53, 54, 55, 86] [.box b12 _ _] (fun (j : Nat) (le : Bool) r => (16, .b le) :: (87, .i (j : Int)) :: r) (fun (j : Nat) (le : Bool) r => r) (fun (j : Nat) (le : Bool) => j ≤ k ∧ (le = true ↔ (judgeC c k).splits = true ∧ ∀ y, y < j → ¬ ((judgeC c y).splits = true ∧ Sub y k))) (fun (j : Nat) (le : Bool) => k - j) (0) ((judgeC c k).splits) zRc ⟨by omega, by simp⟩ (wk zSub (by repeat (first | exact .nil | refine .cons (by first | exact .here | exact .there .here | exact .there (.there .here) | exact .there (.there (.there .here)) | exact .there (.there (.there (.there .here)))) ?_))) ?_
          intro j le ⟨hj, hI⟩
          refine awp_seq ?_
          refine awp_region ?_
          refine aops_p (ap_cmp rfl rfl rfl) rfl rfl rfl ?_
          refine aops_nil ?_
          refine seqQ_n ?_
          refine awp_seq ?_
          refine awp_cond rfl (fun hc => ?_) (fun hc => ?_)
          · have hltj := of_decide_eq_true hc
            refine awp_skip ?_
            refine seqQ_n ?_
            refine awp_seq ?_
            refine awp_block ?_
            refine awp_seq ?_
            refine awp_region ?_
            refine aops_p (ap_move rfl) rfl rfl rfl ?_
            refine aops_p (ap_assign rfl) rfl rfl rfl ?_
            refine aops_nil ?_
            refine seqQ_n ?_
            refine awp_region ?_
            refine aops_p (ap_move rfl) rfl rfl rfl ?_
            refine aops_p (ap_move rfl) rfl rfl rfl ?_
            all_goals (first | (refine aops_yes rfl rfl rfl rfl zDec ?_; (refine aops_p (ap_move rfl) rfl rfl rfl ?_)) | refine aops_no_u rfl rfl rfl ?_ | refine aops_no_t rfl rfl rfl rfl zDec ?_ | (refine aops_guard_t rfl rfl rfl rfl (fun hg => ?_) (fun hg => ?_); case' _ => (refine aops_p (ap_move rfl) rfl rfl rfl ?_)))
            all_goals (first | (refine aops_yes rfl rfl rfl rfl zDec ?_; (refine aops_p (ap_move rfl) rfl rfl rfl ?_)) | refine aops_no_u rfl rfl rfl ?_ | refine aops_no_t rfl rfl rfl rfl zDec ?_ | (refine aops_guard_t rfl rfl rfl rfl (fun hg => ?_) (fun hg => ?_); case' _ => (refine aops_p (ap_move rfl) rfl rfl rfl ?_)))
            all_goals (first | (refine aops_yes rfl rfl rfl rfl zDec ?_; (refine aops_p (ap_index (k := j) rfl rfl rfl rfl (by decide) rfl (all_get (by omega))) rfl rfl rfl ?_)) | refine aops_no_u rfl rfl rfl ?_ | refine aops_no_t rfl rfl rfl rfl zDec ?_ | (refine aops_guard_t rfl rfl rfl rfl (fun hg => ?_) (fun hg => ?_); case' _ => (refine aops_p (ap_index (k := j) rfl rfl rfl rfl (by decide) rfl (all_get (by omega))) rfl rfl rfl ?_)))
            all_goals (first | (refine aops_yes rfl rfl rfl rfl zDec ?_; (first | refine aops_p (ap_fieldAddr (off := 1) (sz := 1) (g := false) rfl rfl) rfl rfl rfl ?_ | refine aops_p (ap_fieldAddr_el (off := 1) (sz := 1) (g := false) rfl rfl zRc) rfl rfl rfl ?_)) | refine aops_no_u rfl rfl rfl ?_ | refine aops_no_t rfl rfl rfl rfl zDec ?_ | (refine aops_guard_t rfl rfl rfl rfl (fun hg => ?_) (fun hg => ?_); case' _ => (first | refine aops_p (ap_fieldAddr (off := 1) (sz := 1) (g := false) rfl rfl) rfl rfl rfl ?_ | refine aops_p (ap_fieldAddr_el (off := 1) (sz := 1) (g := false) rfl rfl zRc) rfl rfl rfl ?_)))
            all_goals (first | (refine aops_yes rfl rfl rfl rfl zDec ?_; (first | refine aops_q (aq_load1 rfl zUpd List.not_mem_nil rfl zRc) rfl rfl rfl ?_ | refine aops_q (aq_load_el1 rfl rfl zScal (fun _ h => absurd h List.not_mem_nil)) rfl rfl rfl ?_ | refine aops_q (aq_load_el1' rfl rfl zScal (fun _ h => absurd h List.not_mem_nil)) rfl rfl rfl ?_ | refine aops_q (aq_load_own1 rfl zUpd List.not_mem_nil rfl zAss zScal) rfl rfl rfl ?_)) | refine aops_no_u rfl rfl rfl ?_ | refine aops_no_t rfl rfl rfl rfl zDec ?_ | (refine aops_guard_t rfl rfl rfl rfl (fun hg => ?_) (fun hg => ?_); case' _ => (first | refine aops_q (aq_load1 rfl zUpd List.not_mem_nil rfl zRc) rfl rfl rfl ?_ | refine aops_q (aq_load_el1 rfl rfl zScal (fun _ h => absurd h List.not_mem_nil)) rfl rfl rfl ?_ | refine aops_q (aq_load_el1' rfl rfl zScal (fun _ h => absurd h List.not_mem_nil)) rfl rfl rfl ?_ | refine aops_q (aq_load_own1 rfl zUpd List.not_mem_nil rfl zAss zScal) rfl rfl rfl ?_)))
            all_goals (first | (refine aops_yes rfl rfl rfl rfl zDec ?_; (refine aops_p (ap_move rfl) rfl rfl rfl ?_)) | refine aops_no_u rfl rfl rfl ?_ | refine aops_no_t rfl rfl rfl rfl zDec ?_ | (refine aops_guard_t rfl rfl rfl rfl (fun hg => ?_) (fun hg => ?_); case' _ => (refine aops_p (ap_move rfl) rfl rfl rfl ?_)))
            all_goals (first | (refine aops_yes rfl rfl rfl rfl zDec ?_; (refine aops_p (ap_move rfl) rfl rfl rfl ?_)) | refine aops_no_u rfl rfl rfl ?_ | refine aops_no_t rfl rfl rfl rfl zDec ?_ | (refine aops_guard_t rfl rfl rfl rfl (fun hg => ?_) (fun hg => ?_); case' _ => (refine aops_p (ap_move rfl) rfl rfl rfl ?_)))
            all_goals (first | (refine aops_yes rfl rfl rfl rfl zDec ?_; (refine aops_p (ap_move rfl) rfl rfl rfl ?_)) | refine aops_no_u rfl rfl rfl ?_ | refine aops_no_t rfl rfl rfl rfl zDec ?_ | (refine aops_guard_t rfl rfl rfl rfl (fun hg => ?_) (fun hg => ?_); case' _ => (refine aops_p (ap_move rfl) rfl rfl rfl ?_)))
            all_goals (first | (refine aops_yes rfl rfl rfl rfl zDec ?_; (refine aops_p (ap_bits rfl rfl rfl (by omega) (by omega)) rfl rfl rfl ?_)) | refine aops_no_u rfl rfl rfl ?_ | refine aops_no_t rfl rfl rfl rfl zDec ?_ | (refine aops_guard_t rfl rfl rfl rfl (fun hg => ?_) (fun hg => ?_); case' _ => (refine aops_p (ap_bits rfl rfl rfl (by omega) (by omega)) rfl rfl rfl ?_)))
            all_goals (first | (refine aops_yes rfl rfl rfl rfl zDec ?_; (refine aops_p (ap_cmp rfl rfl rfl) rfl rfl rfl ?_)) | refine aops_no_u rfl rfl rfl ?_ | refine aops_no_t rfl rfl rfl rfl zDec ?_ | (refine aops_guard_t rfl rfl rfl rfl (fun hg => ?_) (fun hg => ?_); case' _ => (refine aops_p (ap_cmp rfl rfl rfl) rfl rfl rfl ?_)))
            all_goals (first | (refine aops_yes rfl rfl rfl rfl zDec ?_; (first | refine aops_p (ap_pick_true rfl zDec rfl) rfl rfl rfl ?_ | refine aops_p (ap_pick_false rfl zDec rfl) rfl rfl rfl ?_)) | refine aops_no_u rfl rfl rfl ?_ | refine aops_no_t rfl rfl rfl rfl zDec ?_ | (refine aops_guard_t rfl rfl rfl rfl (fun hg => ?_) (fun hg => ?_); case' _ => (first | refine aops_p (ap_pick_true rfl zDec rfl) rfl rfl rfl ?_ | refine aops_p (ap_pick_false rfl zDec rfl) rfl rfl rfl ?_)))
            all_goals (first | (refine aops_yes rfl rfl rfl rfl zDec ?_; (refine aops_p (ap_not rfl) rfl rfl rfl ?_)) | refine aops_no_u rfl rfl rfl ?_ | refine aops_no_t rfl rfl rfl rfl zDec ?_ | (refine aops_guard_t rfl rfl rfl rfl (fun hg => ?_) (fun hg => ?_); case' _ => (refine aops_p (ap_not rfl) rfl rfl rfl ?_)))
            all_goals (first | refine aops_p (ap_pick_true rfl zDec rfl) rfl rfl rfl ?_ | refine aops_p (ap_pick_false rfl zDec rfl) rfl rfl rfl ?_)
            all_goals (refine aops_p (ap_assign rfl) rfl rfl rfl ?_)
            all_goals (
              refine aops_nil ?_
              refine blockQ_n ?_
              refine seqQ_n ?_
              refine awp_region ?_
              refine aops_p (ap_arith rfl rfl rfl (by omega)) rfl rfl rfl ?_
              refine aops_p (ap_move rfl) rfl rfl rfl ?_
              refine aops_nil ?_
              refine seqQ_n ?_
              refine ⟨j + 1, _, ⟨by omega, least_step (f := fun y => (judgeC c y).splits) (by omega) (by omega) hI ?_⟩, by omega, wk zSub (by repeat (first | exact .nil | refine .cons (by first | exact .here | exact .there .here | exact .there (.there .here) | exact .there (.there (.there .here)) | exact .there (.there (.there (.there .here)))) ?_))⟩
              simp_all
              )
          · have hgej := of_decide_eq_false hc
            obtain rfl : j = k := by omega
            have hle := hI
            refine awp_exit ?_
            refine seqQ_x ?_
            refine seqQ_x ?_
            refine blockQ_x rfl ?_
            refine seqQ_n ?_
            refine awp_seq ?_
            refine awp_region ?_
            refine aops_p (ap_assign rfl) rfl rfl rfl ?_
            refine aops_nil ?_
            refine seqQ_n ?_
            refine awp_seq ?_
            refine awp_seq ?_
            refine awp_region ?_
            refine aops_p (ap_move rfl) rfl rfl rfl ?_
            first | refine aops_len rfl rfl rfl rfl (fun _ => ?_) | refine aops_p (ap_len_arr rfl zUpd rfl) rfl rfl rfl ?_ | refine aops_p (ap_len_nil rfl rfl) rfl rfl rfl ?_
            refine aops_p (ap_move rfl) rfl rfl rfl ?_
            refine aops_nil ?_
            refine seqQ_n ?_
            refine awp_block ?_
            refine awp_loop2 [6, 7, 9, 11, 16, 53, 54, 55, 106, 107] [.box b12 _ _] (fun (i : Nat) (bi : Bool) r => (18, .b bi) :: (108, .i (i : Int)) :: r) (fun (i : Nat) (bi : Bool) r => r) (fun (i : Nat) (bi : Bool) => i ≤ (leastV Vd.splits (allV c)).length ∧ (bi = true ↔ (j : Int) ∈ (leastV Vd.splits (allV c)).take i)) (fun (i : Nat) (bi : Bool) => (leastV Vd.splits (allV c)).length - i) (0) (false) zRc ⟨by omega, by simp⟩ (wk zSub (by repeat (first | exact .nil | refine .cons (by first | exact .here | exact .there .here | exact .there (.there .here) | exact .there (.there (.there .here)) | exact .there (.there (.there (.there .here)))) ?_))) ?_
            intro i bi ⟨hi, hI3⟩
            refine awp_seq ?_
            refine awp_region ?_
            refine aops_p (ap_cmp rfl rfl rfl) rfl rfl rfl ?_
            refine aops_nil ?_
            refine seqQ_n ?_
            refine awp_seq ?_
            refine awp_cond rfl (fun hc => ?_) (fun hc => ?_)
            · have hltj := of_decide_eq_true hc
              obtain ⟨y, hy, _⟩ := drop_cons (l := (leastV Vd.splits (allV c))) (k := i) (by omega)
              have hx' := getMap D.i hy
              refine awp_skip ?_
              refine seqQ_n ?_
              refine awp_seq ?_
              refine awp_block ?_
              refine awp_seq ?_
              refine awp_region ?_
              first | refine aops_p (ap_index rfl rfl rfl rfl (by decide) rfl zAss) rfl rfl rfl ?_ | refine aops_p (ap_index rfl rfl rfl rfl (by decide) (by omega) zAss) rfl rfl rfl ?_ | refine aops_p (ap_index_own rfl rfl rfl rfl rfl (by first | omega | (simp only [List.length_map, List.length_set, avs_len]; omega))) rfl rfl rfl ?_
              first | refine aops_q (aq_load1 rfl zUpd List.not_mem_nil rfl zRc) rfl rfl rfl ?_ | refine aops_q (aq_load_el1 rfl rfl zScal (fun _ h => absurd h List.not_mem_nil)) rfl rfl rfl ?_ | refine aops_q (aq_load_el1' rfl rfl zScal (fun _ h => absurd h List.not_mem_nil)) rfl rfl rfl ?_ | refine aops_q (aq_load_own1 rfl zUpd List.not_mem_nil rfl zAss zScal) rfl rfl rfl ?_
              refine aops_p (ap_assign rfl) rfl rfl rfl ?_
              refine aops_nil ?_
              refine seqQ_n ?_
              refine awp_region ?_
              refine aops_p (ap_move rfl) rfl rfl rfl ?_
              refine aops_p (ap_move rfl) rfl rfl rfl ?_
              all_goals (first | (refine aops_yes rfl rfl rfl rfl zDec ?_; (refine aops_p (ap_move rfl) rfl rfl rfl ?_)) | refine aops_no_u rfl rfl rfl ?_ | refine aops_no_f rfl rfl rfl rfl zDec ?_ | (refine aops_guard_f rfl rfl rfl rfl (fun hg => ?_) (fun hg => ?_); case' _ => (refine aops_p (ap_move rfl) rfl rfl rfl ?_)))
              all_goals (first | (refine aops_yes rfl rfl rfl rfl zDec ?_; (refine aops_p (ap_move rfl) rfl rfl rfl ?_)) | refine aops_no_u rfl rfl rfl ?_ | refine aops_no_f rfl rfl rfl rfl zDec ?_ | (refine aops_guard_f rfl rfl rfl rfl (fun hg => ?_) (fun hg => ?_); case' _ => (refine aops_p (ap_move rfl) rfl rfl rfl ?_)))
              all_goals (first | (refine aops_yes rfl rfl rfl rfl zDec ?_; (refine aops_p (ap_cmp rfl rfl rfl) rfl rfl rfl ?_)) | refine aops_no_u rfl rfl rfl ?_ | refine aops_no_f rfl rfl rfl rfl zDec ?_ | (refine aops_guard_f rfl rfl rfl rfl (fun hg => ?_) (fun hg => ?_); case' _ => (refine aops_p (ap_cmp rfl rfl rfl) rfl rfl rfl ?_)))
              all_goals (first | refine aops_p (ap_pick_true rfl zDec rfl) rfl rfl rfl ?_ | refine aops_p (ap_pick_false rfl zDec rfl) rfl rfl rfl ?_)
              all_goals (refine aops_p (ap_assign rfl) rfl rfl rfl ?_)
              all_goals (
                refine aops_nil ?_
                refine blockQ_n ?_
                refine seqQ_n ?_
                refine awp_region ?_
                refine aops_p (ap_arith rfl rfl rfl (by omega)) rfl rfl rfl ?_
                refine aops_p (ap_move rfl) rfl rfl rfl ?_
                refine aops_nil ?_
                refine seqQ_n ?_
                refine ⟨i + 1, _, ⟨by omega, in_step hy hI3 ?_⟩, by omega, wk zSub (by repeat (first | exact .nil | refine .cons (by first | exact .here | exact .there .here | exact .there (.there .here) | exact .there (.there (.there .here)) | exact .there (.there (.there (.there .here)))) ?_))⟩
                simp_all
                )
            · have hgej := of_decide_eq_false hc
              have hei : le = bi := by rw [Bool.eq_iff_iff, hle, hI3, List.take_of_length_le (by omega)]; exact (in_iff hok.len.2 hkN).symm
              refine awp_exit ?_
              refine seqQ_x ?_
              refine seqQ_x ?_
              refine blockQ_x rfl ?_
              refine seqQ_n ?_
              refine awp_seq ?_
              refine awp_region ?_
              refine aops_p (ap_move rfl) rfl rfl rfl ?_
              refine aops_p (ap_move rfl) rfl rfl rfl ?_
              refine aops_p (ap_neb rfl rfl rfl) rfl rfl rfl ?_
              refine aops_nil ?_
              refine seqQ_n ?_
              refine awp_cond_f rfl (by rw [hei]; simp) ?_
              refine awp_skip ?_
              refine blockQ_n ?_
              refine seqQ_n ?_
              refine awp_region ?_
              refine aops_p (ap_arith rfl rfl rfl (by omega)) rfl rfl rfl ?_
              refine aops_p (ap_move rfl) rfl rfl rfl ?_
              refine aops_nil ?_
              refine seqQ_n ?_
              exact ⟨j + 1, by omega, by omega, wk zSub (by repeat (first | exact .nil | refine .cons (by first | exact .here | exact .there .here | exact .there (.there .here) | exact .there (.there (.there .here)) | exact .there (.there (.there (.there .here)))) ?_))⟩
          )
    · have hge := of_decide_eq_false hc
      refine awp_exit ?_
      refine seqQ_x ?_
      refine seqQ_x ?_
      refine blockQ_x rfl ?_
      refine seqQ_n ?_
      refine awp_seq ?_
      refine awp_region ?_
      refine aops_call_v zRc (sane43_con) rfl rfl ?_
      refine aops_p (ap_assign rfl) rfl rfl rfl ?_
      refine aops_nil ?_
      refine seqQ_n ?_
      refine awp_ret ?_
      exact post_is (.tmp rfl .nil) (by repeat (first | exact .nil | refine .cons (by first | exact .here | exact .there .here | exact .there (.there .here) | exact .there (.there (.there .here)) | exact .there (.there (.there (.there .here)))) ?_)) rfl
    )
end Go.Proofs.Ytkgcehimmfkikaa
