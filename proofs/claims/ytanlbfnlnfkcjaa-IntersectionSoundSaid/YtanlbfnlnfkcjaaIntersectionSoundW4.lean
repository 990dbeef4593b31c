/- The walks of: most_con, group_con, Trust2_con. Each says what one function of the program answers, for the arguments that its statement names. No condition beyond what each theorem says. -/
import Derived.Test.YtanlbfnlnfkcjaaIntersectionSoundW3
import Derived.Test.YtanlbfnlnfkcjaaProg
import Derived.KernelRfl
import Derived.Tactics
import Derived.Tactics2
import Derived.StillTactics
set_option linter.unusedVariables false
set_option linter.unusedSimpArgs false
set_option linter.unnecessarySimpa false
set_option maxRecDepth 4000
namespace Go.Proofs.Ytanlbfnlnfkcjaa
open Go Go.Av Go.Tq
theorem most_con (b n : Nat) (l : List Int) (hn : 1 ≤ n ∧ n ≤ 10) (a : Nat) : Con Try.prog 76 [.p b 0, .i n] [.box b 104 [.sl 1 (l.map .i), .i ((a : Nat) : Int)]] (fun d H => ∃ (t : Trust) (a' : Nat), d = av t ∧ OKT n t ∧ H = [.box b 104 [.sl 1 (l.map .i), .i ((a' : Nat) : Int)]]) := by
  have hcap : capB = 140737488355328 := rfl
  refine con_intro Try.func76 rfl Try.call76 rfl ?_
  refine awp_seq ?_
  refine awp_region ?_
  refine aops_alloc rfl (by repeat constructor) rfl rfl (fun b4 => ?_)
  refine aops_nil ?_
  refine seqQ_n ?_
  refine awp_seq ?_
  refine awp_region ?_
  refine aops_p (ap_build (by kernel_rfl) rfl (by repeat constructor) (by repeat (first | exact .nil | apply FillL.cons rfl (by first | exact .agg | exact .sl | exact .v rfl | exact .v (by assumption)) rfl (by repeat constructor)))) rfl rfl rfl ?_
  refine aops_alloc rfl (by repeat constructor) rfl rfl (fun b5 => ?_)
  first | refine aops_store rfl rfl (by first | exact .agg | exact .sl | exact .v rfl | exact .v (by assumption)) (by repeat (first | exact .here | apply UpdF.there)) rfl (by repeat constructor) ?_ | refine aops_store_own1 rfl rfl (by first | exact .sl | exact .v rfl | exact .v (by assumption)) (by repeat (first | exact .here | apply UpdF.there)) rfl (by simp only [List.length_set, List.length_map]; omega) ?_
  refine aops_nil ?_
  refine seqQ_n ?_
  refine awp_seq ?_
  refine awp_seq ?_
  refine awp_region ?_
  refine aops_p (ap_assign rfl) rfl rfl rfl ?_
  refine aops_nil ?_
  refine seqQ_n ?_
  refine awp_block ?_
  refine awp_loop4 [0, 1, 4, 5] [.box b4 _ _] (fun (k : Nat) (v : Value) (q : List Int) (a : Nat) r => (6, .i (k : Int)) :: r) (fun (k : Nat) (v : Value) (q : List Int) (a : Nat) r => .box b5 27 [.i 0, .v v, .nil] :: .arr v 3 1 (q.map .i) :: .box b 104 [.sl 1 (l.map .i), .i ((a : Nat) : Int)] :: r) (fun (k : Nat) (v : Value) (q : List Int) (a : Nat) => k ≤ n ∧ q.length ≤ k ∧ (∀ x ∈ q, 0 ≤ x ∧ x < (k : Int)) ∧ q.Nodup) (fun (k : Nat) (v : Value) (q : List Int) (a : Nat) => n - k) (0) (.slice none 0 0) ([]) (a) (by repeat constructor) ⟨by omega, by simp, by simp, by simp⟩ ((wk_own 3 1 rfl).trans (wk (by repeat (first | exact .nil | refine .cons rfl ?_)) (by repeat (first | exact .nil | refine .cons (by first | exact .here | exact .there .here | exact .there (.there .here) | exact .there (.there (.there .here)) | exact .there (.there (.there (.there .here)))) ?_)))) ?_
  intro k v q a ⟨hk, hql, hqm, hqd⟩
  have hml : (q.map D.i).length = q.length := by simp
  refine awp_seq ?_
  refine awp_seq ?_
  refine awp_region ?_
  refine aops_p (ap_move rfl) rfl rfl rfl ?_
  refine aops_p (ap_move rfl) rfl rfl rfl ?_
  refine aops_p (ap_cmp rfl rfl rfl) rfl rfl rfl ?_
  refine aops_nil ?_
  refine seqQ_n ?_
  refine awp_cond rfl (fun hc => ?_) (fun hc => ?_)
  · have hlt := of_decide_eq_true hc
    refine awp_skip ?_
    refine seqQ_n ?_
    refine awp_seq ?_
    refine awp_block ?_
    refine awp_seq ?_
    refine awp_region ?_
    refine aops_p (ap_move rfl) rfl rfl rfl ?_
    (refine aops_call (by repeat constructor) (N_con _ _ _ _ (by omega)) (by repeat (first | exact .nil | exact Split.none _ | apply Split.left | apply Split.right)) rfl rfl ?_; rintro _ _ ⟨r14, a14, rfl, hr14, rfl⟩)
    refine aops_p (ap_cmp rfl rfl rfl) rfl rfl rfl ?_
    refine aops_nil ?_
    refine seqQ_n ?_
    refine awp_cond rfl (fun hc => ?_) (fun hc => ?_)
    · refine awp_region ?_
      first | refine aops_p (ap_fieldAddr (off := 1) (sz := 1) (g := false) rfl rfl) rfl rfl rfl ?_ | refine aops_p (ap_fieldAddr_el (off := 1) (sz := 1) (g := false) rfl rfl (by repeat constructor)) rfl rfl rfl ?_
      first | refine aops_q (aq_load1 rfl (by repeat (first | exact .here | apply UpdF.there)) List.not_mem_nil rfl (by repeat constructor)) rfl rfl rfl ?_ | refine aops_q (aq_load_el1 rfl rfl (by first | exact .sl | exact .v rfl | exact .v (by assumption)) (fun _ h => absurd h List.not_mem_nil)) rfl rfl rfl ?_ | refine aops_q (aq_load_el1' rfl rfl (by first | exact .sl | exact .v rfl | exact .v (by assumption)) (fun _ h => absurd h List.not_mem_nil)) rfl rfl rfl ?_ | refine aops_q (aq_load_own1 rfl (by repeat (first | exact .here | apply UpdF.there)) List.not_mem_nil rfl (by first | with_reducible assumption | assumption | rfl) (by first | exact .sl | exact .v rfl | exact .v (by assumption))) rfl rfl rfl ?_
      refine aops_p (ap_move rfl) rfl rfl rfl ?_
      refine aops_lit (e := 3) (sz := 1) (by_ := 8) rfl rfl (by repeat constructor) rfl rfl rfl rfl ?_
      first | refine aops_append (e := 3) (sz := 1) (by_ := 8) rfl (by repeat (first | exact .here | apply UpdF.there)) rfl rfl rfl rfl rfl (by simp only [List.length_cons, List.length_nil, List.length_append, List.length_map, avs_len]; omega) (fun v20 hv20 => ?_) | refine aops_append_nil (e := 3) (sz := 1) (by_ := 8) rfl rfl rfl rfl rfl rfl (by simp only [List.length_cons, List.length_nil, List.length_append, List.length_map, avs_len]; omega) (fun v20 hv20 => ?_)
      first | refine aops_p (ap_fieldAddr (off := 1) (sz := 1) (g := false) rfl rfl) rfl rfl rfl ?_ | refine aops_p (ap_fieldAddr_el (off := 1) (sz := 1) (g := false) rfl rfl (by repeat constructor)) rfl rfl rfl ?_
      first | refine aops_store rfl rfl (by first | exact .agg | exact .sl | exact .v rfl | exact .v (by assumption)) (by repeat (first | exact .here | apply UpdF.there)) rfl (by repeat constructor) ?_ | refine aops_store_own1 rfl rfl (by first | exact .sl | exact .v rfl | exact .v (by assumption)) (by repeat (first | exact .here | apply UpdF.there)) rfl (by simp only [List.length_set, List.length_map]; omega) ?_
      refine aops_nil ?_
      refine blockQ_n ?_
      refine seqQ_n ?_
      refine awp_region ?_
      refine aops_p (ap_move rfl) rfl rfl rfl ?_
      refine aops_p (ap_arith rfl rfl rfl (by omega)) rfl rfl rfl ?_
      refine aops_p (ap_assign rfl) rfl rfl rfl ?_
      refine aops_nil ?_
      refine seqQ_n ?_
      first | (rw [mapi_snoc]; refine ⟨k + 1, _, q ++ [(k : Int)], _, ⟨by omega, by simp only [List.length_append, List.length_cons, List.length_nil]; omega, snoc_mem (fun y hy => by have := hqm y hy; omega) (by omega), nodup_snoc hqd (fun y hy => (hqm y hy).2) (by omega)⟩, by omega, wk (by repeat (first | exact .nil | refine .cons rfl ?_)) (by repeat (first | exact .nil | refine .cons (by first | exact .here | exact .there .here | exact .there (.there .here) | exact .there (.there (.there .here)) | exact .there (.there (.there (.there .here)))) ?_))⟩) | refine ⟨k + 1, _, q, _, ⟨by omega, by omega, fun y hy => by have := hqm y hy; omega, hqd⟩, by omega, wk (by repeat (first | exact .nil | refine .cons rfl ?_)) (by repeat (first | exact .nil | refine .cons (by first | exact .here | exact .there .here | exact .there (.there .here) | exact .there (.there (.there .here)) | exact .there (.there (.there (.there .here)))) ?_))⟩
    · refine awp_skip ?_
      refine blockQ_n ?_
      refine seqQ_n ?_
      refine awp_region ?_
      refine aops_p (ap_move rfl) rfl rfl rfl ?_
      refine aops_p (ap_arith rfl rfl rfl (by omega)) rfl rfl rfl ?_
      refine aops_p (ap_assign rfl) rfl rfl rfl ?_
      refine aops_nil ?_
      refine seqQ_n ?_
      first | (rw [mapi_snoc]; refine ⟨k + 1, _, q ++ [(k : Int)], _, ⟨by omega, by simp only [List.length_append, List.length_cons, List.length_nil]; omega, snoc_mem (fun y hy => by have := hqm y hy; omega) (by omega), nodup_snoc hqd (fun y hy => (hqm y hy).2) (by omega)⟩, by omega, wk (by repeat (first | exact .nil | refine .cons rfl ?_)) (by repeat (first | exact .nil | refine .cons (by first | exact .here | exact .there .here | exact .there (.there .here) | exact .there (.there (.there .here)) | exact .there (.there (.there (.there .here)))) ?_))⟩) | refine ⟨k + 1, _, q, _, ⟨by omega, by omega, fun y hy => by have := hqm y hy; omega, hqd⟩, by omega, wk (by repeat (first | exact .nil | refine .cons rfl ?_)) (by repeat (first | exact .nil | refine .cons (by first | exact .here | exact .there .here | exact .there (.there .here) | exact .there (.there (.there .here)) | exact .there (.there (.there (.there .here)))) ?_))⟩
  · refine awp_exit ?_
    refine seqQ_x ?_
    refine seqQ_x ?_
    refine blockQ_x rfl ?_
    refine seqQ_n ?_
    refine awp_seq ?_
    refine awp_seq ?_
    refine awp_region ?_
    first | refine aops_p (ap_fieldAddr (off := 1) (sz := 1) (g := false) rfl rfl) rfl rfl rfl ?_ | refine aops_p (ap_fieldAddr_el (off := 1) (sz := 1) (g := false) rfl rfl (by repeat constructor)) rfl rfl rfl ?_
    first | refine aops_q (aq_load1 rfl (by repeat (first | exact .here | apply UpdF.there)) List.not_mem_nil rfl (by repeat constructor)) rfl rfl rfl ?_ | refine aops_q (aq_load_el1 rfl rfl (by first | exact .sl | exact .v rfl | exact .v (by assumption)) (fun _ h => absurd h List.not_mem_nil)) rfl rfl rfl ?_ | refine aops_q (aq_load_el1' rfl rfl (by first | exact .sl | exact .v rfl | exact .v (by assumption)) (fun _ h => absurd h List.not_mem_nil)) rfl rfl rfl ?_ | refine aops_q (aq_load_own1 rfl (by repeat (first | exact .here | apply UpdF.there)) List.not_mem_nil rfl (by first | with_reducible assumption | assumption | rfl) (by first | exact .sl | exact .v rfl | exact .v (by assumption))) rfl rfl rfl ?_
    first | refine aops_len rfl rfl rfl rfl (fun _ => ?_) | refine aops_p (ap_len_arr rfl (by repeat (first | exact .here | apply UpdF.there)) rfl) rfl rfl rfl ?_ | refine aops_p (ap_len_nil rfl rfl) rfl rfl rfl ?_
    refine aops_p (ap_cmp rfl rfl rfl) rfl rfl rfl ?_
    refine aops_nil ?_
    refine seqQ_n ?_
    refine awp_cond rfl (fun hc => ?_) (fun hc => ?_)
    rotate_left
    case' _ =>
      obtain ⟨p, hp⟩ : ∃ p : List Int, p = q := ⟨_, rfl⟩
      have hpl : 1 ≤ p.length ∧ p.length ≤ 10 := by have := of_decide_eq_false hc; rw [hp]; omega
      have hpd : p.Nodup := by rw [hp]; exact hqd
      have hpm : ∀ x ∈ p, 0 ≤ x ∧ x < (n : Int) := fun y hy => by have := hqm y (hp ▸ hy); omega
      refine awp_skip ?_
    rotate_right
    case' _ =>
      obtain ⟨p, hp⟩ : ∃ p : List Int, p = [0] := ⟨_, rfl⟩
      have hpl : 1 ≤ p.length ∧ p.length ≤ 10 := by rw [hp]; simp
      have hpd : p.Nodup := by rw [hp]; simp
      have hpm : ∀ x ∈ p, 0 ≤ x ∧ x < (n : Int) := by rw [hp]; simp; omega
      refine awp_region ?_
      refine aops_lit (e := 3) (sz := 1) (by_ := 8) rfl rfl (by repeat constructor) rfl rfl rfl rfl ?_
      first | refine aops_p (ap_fieldAddr (off := 1) (sz := 1) (g := false) rfl rfl) rfl rfl rfl ?_ | refine aops_p (ap_fieldAddr_el (off := 1) (sz := 1) (g := false) rfl rfl (by repeat constructor)) rfl rfl rfl ?_
      first | refine aops_store rfl rfl (by first | exact .agg | exact .sl | exact .v rfl | exact .v (by assumption)) (by repeat (first | exact .here | apply UpdF.there)) rfl (by repeat constructor) ?_ | refine aops_store_own1 rfl rfl (by first | exact .sl | exact .v rfl | exact .v (by assumption)) (by repeat (first | exact .here | apply UpdF.there)) rfl (by simp only [List.length_set, List.length_map]; omega) ?_
      refine aops_nil ?_
    all_goals (
      refine seqQ_n ?_
      refine awp_seq ?_
      refine awp_freeze v [0,4,5] (by repeat (first | exact .here | apply Rem.there)) (by repeat (first | exact .nil | apply SelC.cons rfl (by first | exact Cv.fz | (apply Cv.agg; repeat (first | exact CvL.nil | apply CvL.cons (by first | exact Cv.fz | exact Cv.same))) | exact Cv.same))) (by repeat (first | exact .nil | apply HeapA.box (by repeat (first | exact CvL.nil | apply CvL.cons (by first | exact Cv.fz | exact Cv.same))) | apply HeapA.arr)) ?_
      first | (rw [show [D.i 0] = p.map D.i from by rw [hp]; rfl]) | rw [← hp]
      have hml2 : (p.map D.i).length = p.length := by simp
      refine awp_draw (Hm := [.box b5 _ _, .box b _ _]) (by kernel_rfl) (by repeat (first | exact .nil | exact Split.none _ | apply Split.left | apply Split.right)) ?_
      first | refine aany_take 0 rfl (.none rfl) (by kernel_rfl) (by kernel_rfl) (by kernel_rfl) (AP.ar (ap_fieldAddr (off := 1) (sz := 1) (g := false) rfl rfl)) rfl rfl ?_ | refine aany_take 0 rfl (.none rfl) (by kernel_rfl) (by kernel_rfl) (by kernel_rfl) (AP.ar (ap_fieldAddr_el (off := 1) (sz := 1) (g := false) rfl rfl (by repeat constructor))) rfl rfl ?_
      first | refine aany_take 3 rfl (.none rfl) (by kernel_rfl) (by kernel_rfl) (by kernel_rfl) (AP.ar (ap_fieldAddr (off := 1) (sz := 1) (g := false) rfl rfl)) rfl rfl ?_ | refine aany_take 3 rfl (.none rfl) (by kernel_rfl) (by kernel_rfl) (by kernel_rfl) (AP.ar (ap_fieldAddr_el (off := 1) (sz := 1) (g := false) rfl rfl (by repeat constructor))) rfl rfl ?_
      refine aany_take 9 rfl (.none rfl) (by kernel_rfl) (by kernel_rfl) (by kernel_rfl) (AP.ar (ap_move rfl)) rfl rfl ?_
      refine aany_each3 1 4 10 (by kernel_rfl) (cho rfl (.none rfl) ?_) (cho rfl (.none rfl) ?_) (cho rfl (.none rfl) ?_)
      rotate_left 2
      case' _ =>
        refine aops_lit (e := 3) (sz := 1) (by_ := 8) rfl rfl (by repeat constructor) rfl rfl rfl rfl ?_
        refine aops_nil ?_
        refine aany_each3 1 4 11 (by kernel_rfl) (cho rfl (.none rfl) ?_) (cho rfl (.none rfl) ?_) (cho rfl (.none rfl) ?_)
        rotate_left 2
        case' _ =>
          (refine aops_call (by repeat constructor) (Pick_con _ _ _ [0,0,0,1,-1] (by decide)) (by repeat (first | exact .nil | exact Split.none _ | apply Split.left | apply Split.right)) rfl rfl ?_; rintro _ _ ⟨r39, a39, rfl, hr39, rfl⟩; have hrb : -1 ≤ r39 ∧ r39 ≤ 1 := (by simp at hr39; omega))
          refine aops_nil ?_
          refine aany_each2 1 4 (by kernel_rfl) rfl (.none rfl) ?_ rfl (.none rfl) ?_
          rotate_left
          case' _ =>
            first | refine aops_q (aq_load1 rfl (by repeat (first | exact .here | apply UpdF.there)) List.not_mem_nil rfl (by repeat constructor)) rfl rfl rfl ?_ | refine aops_q (aq_load_el1 rfl rfl (by first | exact .sl | exact .v rfl | exact .v (by assumption)) (fun _ h => absurd h List.not_mem_nil)) rfl rfl rfl ?_ | refine aops_q (aq_load_el1' rfl rfl (by first | exact .sl | exact .v rfl | exact .v (by assumption)) (fun _ h => absurd h List.not_mem_nil)) rfl rfl rfl ?_ | refine aops_q (aq_load_own1 rfl (by repeat (first | exact .here | apply UpdF.there)) List.not_mem_nil rfl (by first | with_reducible assumption | assumption | rfl) (by first | exact .sl | exact .v rfl | exact .v (by assumption))) rfl rfl rfl ?_
            refine aops_nil ?_
            first | refine aany_take 5 rfl (.none rfl) (by kernel_rfl) (by kernel_rfl) (by kernel_rfl) (AP.ar (ap_len rfl rfl)) rfl rfl ?_ | refine aany_take 5 rfl (.none rfl) (by kernel_rfl) (by kernel_rfl) (by kernel_rfl) (ar_len_arr rfl (by repeat (first | exact .here | apply UpdF.there)) rfl) rfl rfl ?_ | refine aany_take 5 rfl (.none rfl) (by kernel_rfl) (by kernel_rfl) (by kernel_rfl) (AP.ar (ap_len_nil rfl rfl)) rfl rfl ?_
            refine aany_take 6 rfl (.none rfl) (by kernel_rfl) (by kernel_rfl) (by kernel_rfl) (AP.ar (ap_arith rfl rfl rfl (by omega))) rfl rfl ?_
            refine aany_take 7 rfl (.none rfl) (by kernel_rfl) (by kernel_rfl) (by kernel_rfl) (AP.ar (ap_arith rfl rfl rfl (by omega))) rfl rfl ?_
            refine aany_take 8 rfl (.none rfl) (by kernel_rfl) (by kernel_rfl) (by kernel_rfl) (AP.ar (ap_quon rfl rfl (by omega))) rfl rfl ?_
            refine aany_take 12 rfl (.none rfl) (by kernel_rfl) (by kernel_rfl) (by kernel_rfl) (AP.ar (ap_arith rfl rfl rfl (by omega))) rfl rfl ?_
            refine aany_take 13 rfl (.none rfl) (by kernel_rfl) (by kernel_rfl) (by kernel_rfl) (AP.ar (ap_max rfl rfl)) rfl rfl ?_
            refine aany_one 1 (by kernel_rfl) rfl (.none rfl) ?_
            first | refine aops_q (aq_load1 rfl (by repeat (first | exact .here | apply UpdF.there)) List.not_mem_nil rfl (by repeat constructor)) rfl rfl rfl ?_ | refine aops_q (aq_load_el1 rfl rfl (by first | exact .sl | exact .v rfl | exact .v (by assumption)) (fun _ h => absurd h List.not_mem_nil)) rfl rfl rfl ?_ | refine aops_q (aq_load_el1' rfl rfl (by first | exact .sl | exact .v rfl | exact .v (by assumption)) (fun _ h => absurd h List.not_mem_nil)) rfl rfl rfl ?_ | refine aops_q (aq_load_own1 rfl (by repeat (first | exact .here | apply UpdF.there)) List.not_mem_nil rfl (by first | with_reducible assumption | assumption | rfl) (by first | exact .sl | exact .v rfl | exact .v (by assumption))) rfl rfl rfl ?_
            refine aops_nil ?_
            first | refine aany_take 2 rfl (.none rfl) (by kernel_rfl) (by kernel_rfl) (by kernel_rfl) (AP.ar (ap_len rfl rfl)) rfl rfl ?_ | refine aany_take 2 rfl (.none rfl) (by kernel_rfl) (by kernel_rfl) (by kernel_rfl) (ar_len_arr rfl (by repeat (first | exact .here | apply UpdF.there)) rfl) rfl rfl ?_ | refine aany_take 2 rfl (.none rfl) (by kernel_rfl) (by kernel_rfl) (by kernel_rfl) (AP.ar (ap_len_nil rfl rfl)) rfl rfl ?_
            refine aany_take 14 rfl (.none rfl) (by kernel_rfl) (by kernel_rfl) (by kernel_rfl) (AP.ar (ap_min rfl rfl)) rfl rfl ?_
            first | refine aany_take 15 rfl (.none rfl) (by kernel_rfl) (by kernel_rfl) (by kernel_rfl) (AP.ar (ap_fieldAddr (off := 0) (sz := 1) (g := false) rfl rfl)) rfl rfl ?_ | refine aany_take 15 rfl (.none rfl) (by kernel_rfl) (by kernel_rfl) (by kernel_rfl) (AP.ar (ap_fieldAddr_el (off := 0) (sz := 1) (g := false) rfl rfl (by repeat constructor))) rfl rfl ?_
            refine aany_one 16 (by kernel_rfl) rfl (.none rfl) ?_
            first | refine aops_store rfl rfl (by first | exact .agg | exact .sl | exact .v rfl | exact .v (by assumption)) (by repeat (first | exact .here | apply UpdF.there)) rfl (by repeat constructor) ?_ | refine aops_store_own1 rfl rfl (by first | exact .sl | exact .v rfl | exact .v (by assumption)) (by repeat (first | exact .here | apply UpdF.there)) rfl (by simp only [List.length_set, List.length_map]; omega) ?_
            refine aops_nil ?_
            refine aany_nil (by kernel_rfl) ?_
          rotate_right
          case' _ =>
            first | refine aops_q (aq_load1 rfl (by repeat (first | exact .here | apply UpdF.there)) List.not_mem_nil rfl (by repeat constructor)) rfl rfl rfl ?_ | refine aops_q (aq_load_el1 rfl rfl (by first | exact .sl | exact .v rfl | exact .v (by assumption)) (fun _ h => absurd h List.not_mem_nil)) rfl rfl rfl ?_ | refine aops_q (aq_load_el1' rfl rfl (by first | exact .sl | exact .v rfl | exact .v (by assumption)) (fun _ h => absurd h List.not_mem_nil)) rfl rfl rfl ?_ | refine aops_q (aq_load_own1 rfl (by repeat (first | exact .here | apply UpdF.there)) List.not_mem_nil rfl (by first | with_reducible assumption | assumption | rfl) (by first | exact .sl | exact .v rfl | exact .v (by assumption))) rfl rfl rfl ?_
            refine aops_nil ?_
            first | refine aany_take 2 rfl (.none rfl) (by kernel_rfl) (by kernel_rfl) (by kernel_rfl) (AP.ar (ap_len rfl rfl)) rfl rfl ?_ | refine aany_take 2 rfl (.none rfl) (by kernel_rfl) (by kernel_rfl) (by kernel_rfl) (ar_len_arr rfl (by repeat (first | exact .here | apply UpdF.there)) rfl) rfl rfl ?_ | refine aany_take 2 rfl (.none rfl) (by kernel_rfl) (by kernel_rfl) (by kernel_rfl) (AP.ar (ap_len_nil rfl rfl)) rfl rfl ?_
            refine aany_one 4 (by kernel_rfl) rfl (.none rfl) ?_
            first | refine aops_q (aq_load1 rfl (by repeat (first | exact .here | apply UpdF.there)) List.not_mem_nil rfl (by repeat constructor)) rfl rfl rfl ?_ | refine aops_q (aq_load_el1 rfl rfl (by first | exact .sl | exact .v rfl | exact .v (by assumption)) (fun _ h => absurd h List.not_mem_nil)) rfl rfl rfl ?_ | refine aops_q (aq_load_el1' rfl rfl (by first | exact .sl | exact .v rfl | exact .v (by assumption)) (fun _ h => absurd h List.not_mem_nil)) rfl rfl rfl ?_ | refine aops_q (aq_load_own1 rfl (by repeat (first | exact .here | apply UpdF.there)) List.not_mem_nil rfl (by first | with_reducible assumption | assumption | rfl) (by first | exact .sl | exact .v rfl | exact .v (by assumption))) rfl rfl rfl ?_
            refine aops_nil ?_
            first | refine aany_take 5 rfl (.none rfl) (by kernel_rfl) (by kernel_rfl) (by kernel_rfl) (AP.ar (ap_len rfl rfl)) rfl rfl ?_ | refine aany_take 5 rfl (.none rfl) (by kernel_rfl) (by kernel_rfl) (by kernel_rfl) (ar_len_arr rfl (by repeat (first | exact .here | apply UpdF.there)) rfl) rfl rfl ?_ | refine aany_take 5 rfl (.none rfl) (by kernel_rfl) (by kernel_rfl) (by kernel_rfl) (AP.ar (ap_len_nil rfl rfl)) rfl rfl ?_
            refine aany_take 6 rfl (.none rfl) (by kernel_rfl) (by kernel_rfl) (by kernel_rfl) (AP.ar (ap_arith rfl rfl rfl (by omega))) rfl rfl ?_
            refine aany_take 7 rfl (.none rfl) (by kernel_rfl) (by kernel_rfl) (by kernel_rfl) (AP.ar (ap_arith rfl rfl rfl (by omega))) rfl rfl ?_
            refine aany_take 8 rfl (.none rfl) (by kernel_rfl) (by kernel_rfl) (by kernel_rfl) (AP.ar (ap_quon rfl rfl (by omega))) rfl rfl ?_
            refine aany_take 12 rfl (.none rfl) (by kernel_rfl) (by kernel_rfl) (by kernel_rfl) (AP.ar (ap_arith rfl rfl rfl (by omega))) rfl rfl ?_
            refine aany_take 13 rfl (.none rfl) (by kernel_rfl) (by kernel_rfl) (by kernel_rfl) (AP.ar (ap_max rfl rfl)) rfl rfl ?_
            refine aany_take 14 rfl (.none rfl) (by kernel_rfl) (by kernel_rfl) (by kernel_rfl) (AP.ar (ap_min rfl rfl)) rfl rfl ?_
            first | refine aany_take 15 rfl (.none rfl) (by kernel_rfl) (by kernel_rfl) (by kernel_rfl) (AP.ar (ap_fieldAddr (off := 0) (sz := 1) (g := false) rfl rfl)) rfl rfl ?_ | refine aany_take 15 rfl (.none rfl) (by kernel_rfl) (by kernel_rfl) (by kernel_rfl) (AP.ar (ap_fieldAddr_el (off := 0) (sz := 1) (g := false) rfl rfl (by repeat constructor))) rfl rfl ?_
            refine aany_one 16 (by kernel_rfl) rfl (.none rfl) ?_
            first | refine aops_store rfl rfl (by first | exact .agg | exact .sl | exact .v rfl | exact .v (by assumption)) (by repeat (first | exact .here | apply UpdF.there)) rfl (by repeat constructor) ?_ | refine aops_store_own1 rfl rfl (by first | exact .sl | exact .v rfl | exact .v (by assumption)) (by repeat (first | exact .here | apply UpdF.there)) rfl (by simp only [List.length_set, List.length_map]; omega) ?_
            refine aops_nil ?_
            refine aany_nil (by kernel_rfl) ?_
        rotate_right
        case' _ =>
          first | refine aops_q (aq_load1 rfl (by repeat (first | exact .here | apply UpdF.there)) List.not_mem_nil rfl (by repeat constructor)) rfl rfl rfl ?_ | refine aops_q (aq_load_el1 rfl rfl (by first | exact .sl | exact .v rfl | exact .v (by assumption)) (fun _ h => absurd h List.not_mem_nil)) rfl rfl rfl ?_ | refine aops_q (aq_load_el1' rfl rfl (by first | exact .sl | exact .v rfl | exact .v (by assumption)) (fun _ h => absurd h List.not_mem_nil)) rfl rfl rfl ?_ | refine aops_q (aq_load_own1 rfl (by repeat (first | exact .here | apply UpdF.there)) List.not_mem_nil rfl (by first | with_reducible assumption | assumption | rfl) (by first | exact .sl | exact .v rfl | exact .v (by assumption))) rfl rfl rfl ?_
          refine aops_nil ?_
          first | refine aany_take 5 rfl (.none rfl) (by kernel_rfl) (by kernel_rfl) (by kernel_rfl) (AP.ar (ap_len rfl rfl)) rfl rfl ?_ | refine aany_take 5 rfl (.none rfl) (by kernel_rfl) (by kernel_rfl) (by kernel_rfl) (ar_len_arr rfl (by repeat (first | exact .here | apply UpdF.there)) rfl) rfl rfl ?_ | refine aany_take 5 rfl (.none rfl) (by kernel_rfl) (by kernel_rfl) (by kernel_rfl) (AP.ar (ap_len_nil rfl rfl)) rfl rfl ?_
          refine aany_take 6 rfl (.none rfl) (by kernel_rfl) (by kernel_rfl) (by kernel_rfl) (AP.ar (ap_arith rfl rfl rfl (by omega))) rfl rfl ?_
          refine aany_take 7 rfl (.none rfl) (by kernel_rfl) (by kernel_rfl) (by kernel_rfl) (AP.ar (ap_arith rfl rfl rfl (by omega))) rfl rfl ?_
          refine aany_take 8 rfl (.none rfl) (by kernel_rfl) (by kernel_rfl) (by kernel_rfl) (AP.ar (ap_quon rfl rfl (by omega))) rfl rfl ?_
          refine aany_each2 1 11 (by kernel_rfl) rfl (.none rfl) ?_ rfl (.none rfl) ?_
          rotate_left
          case' _ =>
            (refine aops_call (by repeat constructor) (Pick_con _ _ _ [0,0,0,1,-1] (by decide)) (by repeat (first | exact .nil | exact Split.none _ | apply Split.left | apply Split.right)) rfl rfl ?_; rintro _ _ ⟨r39, a39, rfl, hr39, rfl⟩; have hrb : -1 ≤ r39 ∧ r39 ≤ 1 := (by simp at hr39; omega))
            refine aops_nil ?_
            refine aany_take 12 rfl (.none rfl) (by kernel_rfl) (by kernel_rfl) (by kernel_rfl) (AP.ar (ap_arith rfl rfl rfl (by omega))) rfl rfl ?_
            refine aany_take 13 rfl (.none rfl) (by kernel_rfl) (by kernel_rfl) (by kernel_rfl) (AP.ar (ap_max rfl rfl)) rfl rfl ?_
            refine aany_one 1 (by kernel_rfl) rfl (.none rfl) ?_
            first | refine aops_q (aq_load1 rfl (by repeat (first | exact .here | apply UpdF.there)) List.not_mem_nil rfl (by repeat constructor)) rfl rfl rfl ?_ | refine aops_q (aq_load_el1 rfl rfl (by first | exact .sl | exact .v rfl | exact .v (by assumption)) (fun _ h => absurd h List.not_mem_nil)) rfl rfl rfl ?_ | refine aops_q (aq_load_el1' rfl rfl (by first | exact .sl | exact .v rfl | exact .v (by assumption)) (fun _ h => absurd h List.not_mem_nil)) rfl rfl rfl ?_ | refine aops_q (aq_load_own1 rfl (by repeat (first | exact .here | apply UpdF.there)) List.not_mem_nil rfl (by first | with_reducible assumption | assumption | rfl) (by first | exact .sl | exact .v rfl | exact .v (by assumption))) rfl rfl rfl ?_
            refine aops_nil ?_
            first | refine aany_take 2 rfl (.none rfl) (by kernel_rfl) (by kernel_rfl) (by kernel_rfl) (AP.ar (ap_len rfl rfl)) rfl rfl ?_ | refine aany_take 2 rfl (.none rfl) (by kernel_rfl) (by kernel_rfl) (by kernel_rfl) (ar_len_arr rfl (by repeat (first | exact .here | apply UpdF.there)) rfl) rfl rfl ?_ | refine aany_take 2 rfl (.none rfl) (by kernel_rfl) (by kernel_rfl) (by kernel_rfl) (AP.ar (ap_len_nil rfl rfl)) rfl rfl ?_
            refine aany_take 14 rfl (.none rfl) (by kernel_rfl) (by kernel_rfl) (by kernel_rfl) (AP.ar (ap_min rfl rfl)) rfl rfl ?_
            first | refine aany_take 15 rfl (.none rfl) (by kernel_rfl) (by kernel_rfl) (by kernel_rfl) (AP.ar (ap_fieldAddr (off := 0) (sz := 1) (g := false) rfl rfl)) rfl rfl ?_ | refine aany_take 15 rfl (.none rfl) (by kernel_rfl) (by kernel_rfl) (by kernel_rfl) (AP.ar (ap_fieldAddr_el (off := 0) (sz := 1) (g := false) rfl rfl (by repeat constructor))) rfl rfl ?_
            refine aany_one 16 (by kernel_rfl) rfl (.none rfl) ?_
            first | refine aops_store rfl rfl (by first | exact .agg | exact .sl | exact .v rfl | exact .v (by assumption)) (by repeat (first | exact .here | apply UpdF.there)) rfl (by repeat constructor) ?_ | refine aops_store_own1 rfl rfl (by first | exact .sl | exact .v rfl | exact .v (by assumption)) (by repeat (first | exact .here | apply UpdF.there)) rfl (by simp only [List.length_set, List.length_map]; omega) ?_
            refine aops_nil ?_
            refine aany_nil (by kernel_rfl) ?_
          rotate_right
          case' _ =>
            first | refine aops_q (aq_load1 rfl (by repeat (first | exact .here | apply UpdF.there)) List.not_mem_nil rfl (by repeat constructor)) rfl rfl rfl ?_ | refine aops_q (aq_load_el1 rfl rfl (by first | exact .sl | exact .v rfl | exact .v (by assumption)) (fun _ h => absurd h List.not_mem_nil)) rfl rfl rfl ?_ | refine aops_q (aq_load_el1' rfl rfl (by first | exact .sl | exact .v rfl | exact .v (by assumption)) (fun _ h => absurd h List.not_mem_nil)) rfl rfl rfl ?_ | refine aops_q (aq_load_own1 rfl (by repeat (first | exact .here | apply UpdF.there)) List.not_mem_nil rfl (by first | with_reducible assumption | assumption | rfl) (by first | exact .sl | exact .v rfl | exact .v (by assumption))) rfl rfl rfl ?_
            refine aops_nil ?_
            first | refine aany_take 2 rfl (.none rfl) (by kernel_rfl) (by kernel_rfl) (by kernel_rfl) (AP.ar (ap_len rfl rfl)) rfl rfl ?_ | refine aany_take 2 rfl (.none rfl) (by kernel_rfl) (by kernel_rfl) (by kernel_rfl) (ar_len_arr rfl (by repeat (first | exact .here | apply UpdF.there)) rfl) rfl rfl ?_ | refine aany_take 2 rfl (.none rfl) (by kernel_rfl) (by kernel_rfl) (by kernel_rfl) (AP.ar (ap_len_nil rfl rfl)) rfl rfl ?_
            refine aany_one 11 (by kernel_rfl) rfl (.none rfl) ?_
            (refine aops_call (by repeat constructor) (Pick_con _ _ _ [0,0,0,1,-1] (by decide)) (by repeat (first | exact .nil | exact Split.none _ | apply Split.left | apply Split.right)) rfl rfl ?_; rintro _ _ ⟨r39, a39, rfl, hr39, rfl⟩; have hrb : -1 ≤ r39 ∧ r39 ≤ 1 := (by simp at hr39; omega))
            refine aops_nil ?_
            refine aany_take 12 rfl (.none rfl) (by kernel_rfl) (by kernel_rfl) (by kernel_rfl) (AP.ar (ap_arith rfl rfl rfl (by omega))) rfl rfl ?_
            refine aany_take 13 rfl (.none rfl) (by kernel_rfl) (by kernel_rfl) (by kernel_rfl) (AP.ar (ap_max rfl rfl)) rfl rfl ?_
            refine aany_take 14 rfl (.none rfl) (by kernel_rfl) (by kernel_rfl) (by kernel_rfl) (AP.ar (ap_min rfl rfl)) rfl rfl ?_
            first | refine aany_take 15 rfl (.none rfl) (by kernel_rfl) (by kernel_rfl) (by kernel_rfl) (AP.ar (ap_fieldAddr (off := 0) (sz := 1) (g := false) rfl rfl)) rfl rfl ?_ | refine aany_take 15 rfl (.none rfl) (by kernel_rfl) (by kernel_rfl) (by kernel_rfl) (AP.ar (ap_fieldAddr_el (off := 0) (sz := 1) (g := false) rfl rfl (by repeat constructor))) rfl rfl ?_
            refine aany_one 16 (by kernel_rfl) rfl (.none rfl) ?_
            first | refine aops_store rfl rfl (by first | exact .agg | exact .sl | exact .v rfl | exact .v (by assumption)) (by repeat (first | exact .here | apply UpdF.there)) rfl (by repeat constructor) ?_ | refine aops_store_own1 rfl rfl (by first | exact .sl | exact .v rfl | exact .v (by assumption)) (by repeat (first | exact .here | apply UpdF.there)) rfl (by simp only [List.length_set, List.length_map]; omega) ?_
            refine aops_nil ?_
            refine aany_nil (by kernel_rfl) ?_
        rotate_right
        case' _ =>
          first | refine aops_q (aq_load1 rfl (by repeat (first | exact .here | apply UpdF.there)) List.not_mem_nil rfl (by repeat constructor)) rfl rfl rfl ?_ | refine aops_q (aq_load_el1 rfl rfl (by first | exact .sl | exact .v rfl | exact .v (by assumption)) (fun _ h => absurd h List.not_mem_nil)) rfl rfl rfl ?_ | refine aops_q (aq_load_el1' rfl rfl (by first | exact .sl | exact .v rfl | exact .v (by assumption)) (fun _ h => absurd h List.not_mem_nil)) rfl rfl rfl ?_ | refine aops_q (aq_load_own1 rfl (by repeat (first | exact .here | apply UpdF.there)) List.not_mem_nil rfl (by first | with_reducible assumption | assumption | rfl) (by first | exact .sl | exact .v rfl | exact .v (by assumption))) rfl rfl rfl ?_
          refine aops_nil ?_
          first | refine aany_take 2 rfl (.none rfl) (by kernel_rfl) (by kernel_rfl) (by kernel_rfl) (AP.ar (ap_len rfl rfl)) rfl rfl ?_ | refine aany_take 2 rfl (.none rfl) (by kernel_rfl) (by kernel_rfl) (by kernel_rfl) (ar_len_arr rfl (by repeat (first | exact .here | apply UpdF.there)) rfl) rfl rfl ?_ | refine aany_take 2 rfl (.none rfl) (by kernel_rfl) (by kernel_rfl) (by kernel_rfl) (AP.ar (ap_len_nil rfl rfl)) rfl rfl ?_
          refine aany_each2 4 11 (by kernel_rfl) rfl (.none rfl) ?_ rfl (.none rfl) ?_
          rotate_left
          case' _ =>
            (refine aops_call (by repeat constructor) (Pick_con _ _ _ [0,0,0,1,-1] (by decide)) (by repeat (first | exact .nil | exact Split.none _ | apply Split.left | apply Split.right)) rfl rfl ?_; rintro _ _ ⟨r39, a39, rfl, hr39, rfl⟩; have hrb : -1 ≤ r39 ∧ r39 ≤ 1 := (by simp at hr39; omega))
            refine aops_nil ?_
            refine aany_one 4 (by kernel_rfl) rfl (.none rfl) ?_
            first | refine aops_q (aq_load1 rfl (by repeat (first | exact .here | apply UpdF.there)) List.not_mem_nil rfl (by repeat constructor)) rfl rfl rfl ?_ | refine aops_q (aq_load_el1 rfl rfl (by first | exact .sl | exact .v rfl | exact .v (by assumption)) (fun _ h => absurd h List.not_mem_nil)) rfl rfl rfl ?_ | refine aops_q (aq_load_el1' rfl rfl (by first | exact .sl | exact .v rfl | exact .v (by assumption)) (fun _ h => absurd h List.not_mem_nil)) rfl rfl rfl ?_ | refine aops_q (aq_load_own1 rfl (by repeat (first | exact .here | apply UpdF.there)) List.not_mem_nil rfl (by first | with_reducible assumption | assumption | rfl) (by first | exact .sl | exact .v rfl | exact .v (by assumption))) rfl rfl rfl ?_
            refine aops_nil ?_
            first | refine aany_take 5 rfl (.none rfl) (by kernel_rfl) (by kernel_rfl) (by kernel_rfl) (AP.ar (ap_len rfl rfl)) rfl rfl ?_ | refine aany_take 5 rfl (.none rfl) (by kernel_rfl) (by kernel_rfl) (by kernel_rfl) (ar_len_arr rfl (by repeat (first | exact .here | apply UpdF.there)) rfl) rfl rfl ?_ | refine aany_take 5 rfl (.none rfl) (by kernel_rfl) (by kernel_rfl) (by kernel_rfl) (AP.ar (ap_len_nil rfl rfl)) rfl rfl ?_
            refine aany_take 6 rfl (.none rfl) (by kernel_rfl) (by kernel_rfl) (by kernel_rfl) (AP.ar (ap_arith rfl rfl rfl (by omega))) rfl rfl ?_
            refine aany_take 7 rfl (.none rfl) (by kernel_rfl) (by kernel_rfl) (by kernel_rfl) (AP.ar (ap_arith rfl rfl rfl (by omega))) rfl rfl ?_
            refine aany_take 8 rfl (.none rfl) (by kernel_rfl) (by kernel_rfl) (by kernel_rfl) (AP.ar (ap_quon rfl rfl (by omega))) rfl rfl ?_
            refine aany_take 12 rfl (.none rfl) (by kernel_rfl) (by kernel_rfl) (by kernel_rfl) (AP.ar (ap_arith rfl rfl rfl (by omega))) rfl rfl ?_
            refine aany_take 13 rfl (.none rfl) (by kernel_rfl) (by kernel_rfl) (by kernel_rfl) (AP.ar (ap_max rfl rfl)) rfl rfl ?_
            refine aany_take 14 rfl (.none rfl) (by kernel_rfl) (by kernel_rfl) (by kernel_rfl) (AP.ar (ap_min rfl rfl)) rfl rfl ?_
            first | refine aany_take 15 rfl (.none rfl) (by kernel_rfl) (by kernel_rfl) (by kernel_rfl) (AP.ar (ap_fieldAddr (off := 0) (sz := 1) (g := false) rfl rfl)) rfl rfl ?_ | refine aany_take 15 rfl (.none rfl) (by kernel_rfl) (by kernel_rfl) (by kernel_rfl) (AP.ar (ap_fieldAddr_el (off := 0) (sz := 1) (g := false) rfl rfl (by repeat constructor))) rfl rfl ?_
            refine aany_one 16 (by kernel_rfl) rfl (.none rfl) ?_
            first | refine aops_store rfl rfl (by first | exact .agg | exact .sl | exact .v rfl | exact .v (by assumption)) (by repeat (first | exact .here | apply UpdF.there)) rfl (by repeat constructor) ?_ | refine aops_store_own1 rfl rfl (by first | exact .sl | exact .v rfl | exact .v (by assumption)) (by repeat (first | exact .here | apply UpdF.there)) rfl (by simp only [List.length_set, List.length_map]; omega) ?_
            refine aops_nil ?_
            refine aany_nil (by kernel_rfl) ?_
          rotate_right
          case' _ =>
            first | refine aops_q (aq_load1 rfl (by repeat (first | exact .here | apply UpdF.there)) List.not_mem_nil rfl (by repeat constructor)) rfl rfl rfl ?_ | refine aops_q (aq_load_el1 rfl rfl (by first | exact .sl | exact .v rfl | exact .v (by assumption)) (fun _ h => absurd h List.not_mem_nil)) rfl rfl rfl ?_ | refine aops_q (aq_load_el1' rfl rfl (by first | exact .sl | exact .v rfl | exact .v (by assumption)) (fun _ h => absurd h List.not_mem_nil)) rfl rfl rfl ?_ | refine aops_q (aq_load_own1 rfl (by repeat (first | exact .here | apply UpdF.there)) List.not_mem_nil rfl (by first | with_reducible assumption | assumption | rfl) (by first | exact .sl | exact .v rfl | exact .v (by assumption))) rfl rfl rfl ?_
            refine aops_nil ?_
            first | refine aany_take 5 rfl (.none rfl) (by kernel_rfl) (by kernel_rfl) (by kernel_rfl) (AP.ar (ap_len rfl rfl)) rfl rfl ?_ | refine aany_take 5 rfl (.none rfl) (by kernel_rfl) (by kernel_rfl) (by kernel_rfl) (ar_len_arr rfl (by repeat (first | exact .here | apply UpdF.there)) rfl) rfl rfl ?_ | refine aany_take 5 rfl (.none rfl) (by kernel_rfl) (by kernel_rfl) (by kernel_rfl) (AP.ar (ap_len_nil rfl rfl)) rfl rfl ?_
            refine aany_take 6 rfl (.none rfl) (by kernel_rfl) (by kernel_rfl) (by kernel_rfl) (AP.ar (ap_arith rfl rfl rfl (by omega))) rfl rfl ?_
            refine aany_take 7 rfl (.none rfl) (by kernel_rfl) (by kernel_rfl) (by kernel_rfl) (AP.ar (ap_arith rfl rfl rfl (by omega))) rfl rfl ?_
            refine aany_take 8 rfl (.none rfl) (by kernel_rfl) (by kernel_rfl) (by kernel_rfl) (AP.ar (ap_quon rfl rfl (by omega))) rfl rfl ?_
            refine aany_one 11 (by kernel_rfl) rfl (.none rfl) ?_
            (refine aops_call (by repeat constructor) (Pick_con _ _ _ [0,0,0,1,-1] (by decide)) (by repeat (first | exact .nil | exact Split.none _ | apply Split.left | apply Split.right)) rfl rfl ?_; rintro _ _ ⟨r39, a39, rfl, hr39, rfl⟩; have hrb : -1 ≤ r39 ∧ r39 ≤ 1 := (by simp at hr39; omega))
            refine aops_nil ?_
            refine aany_take 12 rfl (.none rfl) (by kernel_rfl) (by kernel_rfl) (by kernel_rfl) (AP.ar (ap_arith rfl rfl rfl (by omega))) rfl rfl ?_
            refine aany_take 13 rfl (.none rfl) (by kernel_rfl) (by kernel_rfl) (by kernel_rfl) (AP.ar (ap_max rfl rfl)) rfl rfl ?_
            refine aany_take 14 rfl (.none rfl) (by kernel_rfl) (by kernel_rfl) (by kernel_rfl) (AP.ar (ap_min rfl rfl)) rfl rfl ?_
            first | refine aany_take 15 rfl (.none rfl) (by kernel_rfl) (by kernel_rfl) (by kernel_rfl) (AP.ar (ap_fieldAddr (off := 0) (sz := 1) (g := false) rfl rfl)) rfl rfl ?_ | refine aany_take 15 rfl (.none rfl) (by kernel_rfl) (by kernel_rfl) (by kernel_rfl) (AP.ar (ap_fieldAddr_el (off := 0) (sz := 1) (g := false) rfl rfl (by repeat constructor))) rfl rfl ?_
            refine aany_one 16 (by kernel_rfl) rfl (.none rfl) ?_
            first | refine aops_store rfl rfl (by first | exact .agg | exact .sl | exact .v rfl | exact .v (by assumption)) (by repeat (first | exact .here | apply UpdF.there)) rfl (by repeat constructor) ?_ | refine aops_store_own1 rfl rfl (by first | exact .sl | exact .v rfl | exact .v (by assumption)) (by repeat (first | exact .here | apply UpdF.there)) rfl (by simp only [List.length_set, List.length_map]; omega) ?_
            refine aops_nil ?_
            refine aany_nil (by kernel_rfl) ?_
      rotate_right
      case' _ =>
        first | refine aops_q (aq_load1 rfl (by repeat (first | exact .here | apply UpdF.there)) List.not_mem_nil rfl (by repeat constructor)) rfl rfl rfl ?_ | refine aops_q (aq_load_el1 rfl rfl (by first | exact .sl | exact .v rfl | exact .v (by assumption)) (fun _ h => absurd h List.not_mem_nil)) rfl rfl rfl ?_ | refine aops_q (aq_load_el1' rfl rfl (by first | exact .sl | exact .v rfl | exact .v (by assumption)) (fun _ h => absurd h List.not_mem_nil)) rfl rfl rfl ?_ | refine aops_q (aq_load_own1 rfl (by repeat (first | exact .here | apply UpdF.there)) List.not_mem_nil rfl (by first | with_reducible assumption | assumption | rfl) (by first | exact .sl | exact .v rfl | exact .v (by assumption))) rfl rfl rfl ?_
        refine aops_nil ?_
        first | refine aany_take 5 rfl (.none rfl) (by kernel_rfl) (by kernel_rfl) (by kernel_rfl) (AP.ar (ap_len rfl rfl)) rfl rfl ?_ | refine aany_take 5 rfl (.none rfl) (by kernel_rfl) (by kernel_rfl) (by kernel_rfl) (ar_len_arr rfl (by repeat (first | exact .here | apply UpdF.there)) rfl) rfl rfl ?_ | refine aany_take 5 rfl (.none rfl) (by kernel_rfl) (by kernel_rfl) (by kernel_rfl) (AP.ar (ap_len_nil rfl rfl)) rfl rfl ?_
        refine aany_take 6 rfl (.none rfl) (by kernel_rfl) (by kernel_rfl) (by kernel_rfl) (AP.ar (ap_arith rfl rfl rfl (by omega))) rfl rfl ?_
        refine aany_take 7 rfl (.none rfl) (by kernel_rfl) (by kernel_rfl) (by kernel_rfl) (AP.ar (ap_arith rfl rfl rfl (by omega))) rfl rfl ?_
        refine aany_take 8 rfl (.none rfl) (by kernel_rfl) (by kernel_rfl) (by kernel_rfl) (AP.ar (ap_quon rfl rfl (by omega))) rfl rfl ?_
        refine aany_each2 1 10 (by kernel_rfl) rfl (.none rfl) ?_ rfl (.none rfl) ?_
        rotate_left
        case' _ =>
          refine aops_lit (e := 3) (sz := 1) (by_ := 8) rfl rfl (by repeat constructor) rfl rfl rfl rfl ?_
          refine aops_nil ?_
          refine aany_each2 1 11 (by kernel_rfl) rfl (.none rfl) ?_ rfl (.none rfl) ?_
          rotate_left
          case' _ =>
            (refine aops_call (by repeat constructor) (Pick_con _ _ _ [0,0,0,1,-1] (by decide)) (by repeat (first | exact .nil | exact Split.none _ | apply Split.left | apply Split.right)) rfl rfl ?_; rintro _ _ ⟨r39, a39, rfl, hr39, rfl⟩; have hrb : -1 ≤ r39 ∧ r39 ≤ 1 := (by simp at hr39; omega))
            refine aops_nil ?_
            refine aany_take 12 rfl (.none rfl) (by kernel_rfl) (by kernel_rfl) (by kernel_rfl) (AP.ar (ap_arith rfl rfl rfl (by omega))) rfl rfl ?_
            refine aany_take 13 rfl (.none rfl) (by kernel_rfl) (by kernel_rfl) (by kernel_rfl) (AP.ar (ap_max rfl rfl)) rfl rfl ?_
            refine aany_one 1 (by kernel_rfl) rfl (.none rfl) ?_
            first | refine aops_q (aq_load1 rfl (by repeat (first | exact .here | apply UpdF.there)) List.not_mem_nil rfl (by repeat constructor)) rfl rfl rfl ?_ | refine aops_q (aq_load_el1 rfl rfl (by first | exact .sl | exact .v rfl | exact .v (by assumption)) (fun _ h => absurd h List.not_mem_nil)) rfl rfl rfl ?_ | refine aops_q (aq_load_el1' rfl rfl (by first | exact .sl | exact .v rfl | exact .v (by assumption)) (fun _ h => absurd h List.not_mem_nil)) rfl rfl rfl ?_ | refine aops_q (aq_load_own1 rfl (by repeat (first | exact .here | apply UpdF.there)) List.not_mem_nil rfl (by first | with_reducible assumption | assumption | rfl) (by first | exact .sl | exact .v rfl | exact .v (by assumption))) rfl rfl rfl ?_
            refine aops_nil ?_
            first | refine aany_take 2 rfl (.none rfl) (by kernel_rfl) (by kernel_rfl) (by kernel_rfl) (AP.ar (ap_len rfl rfl)) rfl rfl ?_ | refine aany_take 2 rfl (.none rfl) (by kernel_rfl) (by kernel_rfl) (by kernel_rfl) (ar_len_arr rfl (by repeat (first | exact .here | apply UpdF.there)) rfl) rfl rfl ?_ | refine aany_take 2 rfl (.none rfl) (by kernel_rfl) (by kernel_rfl) (by kernel_rfl) (AP.ar (ap_len_nil rfl rfl)) rfl rfl ?_
            refine aany_take 14 rfl (.none rfl) (by kernel_rfl) (by kernel_rfl) (by kernel_rfl) (AP.ar (ap_min rfl rfl)) rfl rfl ?_
            first | refine aany_take 15 rfl (.none rfl) (by kernel_rfl) (by kernel_rfl) (by kernel_rfl) (AP.ar (ap_fieldAddr (off := 0) (sz := 1) (g := false) rfl rfl)) rfl rfl ?_ | refine aany_take 15 rfl (.none rfl) (by kernel_rfl) (by kernel_rfl) (by kernel_rfl) (AP.ar (ap_fieldAddr_el (off := 0) (sz := 1) (g := false) rfl rfl (by repeat constructor))) rfl rfl ?_
            refine aany_one 16 (by kernel_rfl) rfl (.none rfl) ?_
            first | refine aops_store rfl rfl (by first | exact .agg | exact .sl | exact .v rfl | exact .v (by assumption)) (by repeat (first | exact .here | apply UpdF.there)) rfl (by repeat constructor) ?_ | refine aops_store_own1 rfl rfl (by first | exact .sl | exact .v rfl | exact .v (by assumption)) (by repeat (first | exact .here | apply UpdF.there)) rfl (by simp only [List.length_set, List.length_map]; omega) ?_
            refine aops_nil ?_
            refine aany_nil (by kernel_rfl) ?_
          rotate_right
          case' _ =>
            first | refine aops_q (aq_load1 rfl (by repeat (first | exact .here | apply UpdF.there)) List.not_mem_nil rfl (by repeat constructor)) rfl rfl rfl ?_ | refine aops_q (aq_load_el1 rfl rfl (by first | exact .sl | exact .v rfl | exact .v (by assumption)) (fun _ h => absurd h List.not_mem_nil)) rfl rfl rfl ?_ | refine aops_q (aq_load_el1' rfl rfl (by first | exact .sl | exact .v rfl | exact .v (by assumption)) (fun _ h => absurd h List.not_mem_nil)) rfl rfl rfl ?_ | refine aops_q (aq_load_own1 rfl (by repeat (first | exact .here | apply UpdF.there)) List.not_mem_nil rfl (by first | with_reducible assumption | assumption | rfl) (by first | exact .sl | exact .v rfl | exact .v (by assumption))) rfl rfl rfl ?_
            refine aops_nil ?_
            first | refine aany_take 2 rfl (.none rfl) (by kernel_rfl) (by kernel_rfl) (by kernel_rfl) (AP.ar (ap_len rfl rfl)) rfl rfl ?_ | refine aany_take 2 rfl (.none rfl) (by kernel_rfl) (by kernel_rfl) (by kernel_rfl) (ar_len_arr rfl (by repeat (first | exact .here | apply UpdF.there)) rfl) rfl rfl ?_ | refine aany_take 2 rfl (.none rfl) (by kernel_rfl) (by kernel_rfl) (by kernel_rfl) (AP.ar (ap_len_nil rfl rfl)) rfl rfl ?_
            refine aany_one 11 (by kernel_rfl) rfl (.none rfl) ?_
            (refine aops_call (by repeat constructor) (Pick_con _ _ _ [0,0,0,1,-1] (by decide)) (by repeat (first | exact .nil | exact Split.none _ | apply Split.left | apply Split.right)) rfl rfl ?_; rintro _ _ ⟨r39, a39, rfl, hr39, rfl⟩; have hrb : -1 ≤ r39 ∧ r39 ≤ 1 := (by simp at hr39; omega))
            refine aops_nil ?_
            refine aany_take 12 rfl (.none rfl) (by kernel_rfl) (by kernel_rfl) (by kernel_rfl) (AP.ar (ap_arith rfl rfl rfl (by omega))) rfl rfl ?_
            refine aany_take 13 rfl (.none rfl) (by kernel_rfl) (by kernel_rfl) (by kernel_rfl) (AP.ar (ap_max rfl rfl)) rfl rfl ?_
            refine aany_take 14 rfl (.none rfl) (by kernel_rfl) (by kernel_rfl) (by kernel_rfl) (AP.ar (ap_min rfl rfl)) rfl rfl ?_
            first | refine aany_take 15 rfl (.none rfl) (by kernel_rfl) (by kernel_rfl) (by kernel_rfl) (AP.ar (ap_fieldAddr (off := 0) (sz := 1) (g := false) rfl rfl)) rfl rfl ?_ | refine aany_take 15 rfl (.none rfl) (by kernel_rfl) (by kernel_rfl) (by kernel_rfl) (AP.ar (ap_fieldAddr_el (off := 0) (sz := 1) (g := false) rfl rfl (by repeat constructor))) rfl rfl ?_
            refine aany_one 16 (by kernel_rfl) rfl (.none rfl) ?_
            first | refine aops_store rfl rfl (by first | exact .agg | exact .sl | exact .v rfl | exact .v (by assumption)) (by repeat (first | exact .here | apply UpdF.there)) rfl (by repeat constructor) ?_ | refine aops_store_own1 rfl rfl (by first | exact .sl | exact .v rfl | exact .v (by assumption)) (by repeat (first | exact .here | apply UpdF.there)) rfl (by simp only [List.length_set, List.length_map]; omega) ?_
            refine aops_nil ?_
            refine aany_nil (by kernel_rfl) ?_
        rotate_right
        case' _ =>
          first | refine aops_q (aq_load1 rfl (by repeat (first | exact .here | apply UpdF.there)) List.not_mem_nil rfl (by repeat constructor)) rfl rfl rfl ?_ | refine aops_q (aq_load_el1 rfl rfl (by first | exact .sl | exact .v rfl | exact .v (by assumption)) (fun _ h => absurd h List.not_mem_nil)) rfl rfl rfl ?_ | refine aops_q (aq_load_el1' rfl rfl (by first | exact .sl | exact .v rfl | exact .v (by assumption)) (fun _ h => absurd h List.not_mem_nil)) rfl rfl rfl ?_ | refine aops_q (aq_load_own1 rfl (by repeat (first | exact .here | apply UpdF.there)) List.not_mem_nil rfl (by first | with_reducible assumption | assumption | rfl) (by first | exact .sl | exact .v rfl | exact .v (by assumption))) rfl rfl rfl ?_
          refine aops_nil ?_
          first | refine aany_take 2 rfl (.none rfl) (by kernel_rfl) (by kernel_rfl) (by kernel_rfl) (AP.ar (ap_len rfl rfl)) rfl rfl ?_ | refine aany_take 2 rfl (.none rfl) (by kernel_rfl) (by kernel_rfl) (by kernel_rfl) (ar_len_arr rfl (by repeat (first | exact .here | apply UpdF.there)) rfl) rfl rfl ?_ | refine aany_take 2 rfl (.none rfl) (by kernel_rfl) (by kernel_rfl) (by kernel_rfl) (AP.ar (ap_len_nil rfl rfl)) rfl rfl ?_
          refine aany_one 10 (by kernel_rfl) rfl (.none rfl) ?_
          refine aops_lit (e := 3) (sz := 1) (by_ := 8) rfl rfl (by repeat constructor) rfl rfl rfl rfl ?_
          refine aops_nil ?_
          refine aany_one 11 (by kernel_rfl) rfl (.none rfl) ?_
          (refine aops_call (by repeat constructor) (Pick_con _ _ _ [0,0,0,1,-1] (by decide)) (by repeat (first | exact .nil | exact Split.none _ | apply Split.left | apply Split.right)) rfl rfl ?_; rintro _ _ ⟨r39, a39, rfl, hr39, rfl⟩; have hrb : -1 ≤ r39 ∧ r39 ≤ 1 := (by simp at hr39; omega))
          refine aops_nil ?_
          refine aany_take 12 rfl (.none rfl) (by kernel_rfl) (by kernel_rfl) (by kernel_rfl) (AP.ar (ap_arith rfl rfl rfl (by omega))) rfl rfl ?_
          refine aany_take 13 rfl (.none rfl) (by kernel_rfl) (by kernel_rfl) (by kernel_rfl) (AP.ar (ap_max rfl rfl)) rfl rfl ?_
          refine aany_take 14 rfl (.none rfl) (by kernel_rfl) (by kernel_rfl) (by kernel_rfl) (AP.ar (ap_min rfl rfl)) rfl rfl ?_
          first | refine aany_take 15 rfl (.none rfl) (by kernel_rfl) (by kernel_rfl) (by kernel_rfl) (AP.ar (ap_fieldAddr (off := 0) (sz := 1) (g := false) rfl rfl)) rfl rfl ?_ | refine aany_take 15 rfl (.none rfl) (by kernel_rfl) (by kernel_rfl) (by kernel_rfl) (AP.ar (ap_fieldAddr_el (off := 0) (sz := 1) (g := false) rfl rfl (by repeat constructor))) rfl rfl ?_
          refine aany_one 16 (by kernel_rfl) rfl (.none rfl) ?_
          first | refine aops_store rfl rfl (by first | exact .agg | exact .sl | exact .v rfl | exact .v (by assumption)) (by repeat (first | exact .here | apply UpdF.there)) rfl (by repeat constructor) ?_ | refine aops_store_own1 rfl rfl (by first | exact .sl | exact .v rfl | exact .v (by assumption)) (by repeat (first | exact .here | apply UpdF.there)) rfl (by simp only [List.length_set, List.length_map]; omega) ?_
          refine aops_nil ?_
          refine aany_nil (by kernel_rfl) ?_
      rotate_right
      case' _ =>
        first | refine aops_q (aq_load1 rfl (by repeat (first | exact .here | apply UpdF.there)) List.not_mem_nil rfl (by repeat constructor)) rfl rfl rfl ?_ | refine aops_q (aq_load_el1 rfl rfl (by first | exact .sl | exact .v rfl | exact .v (by assumption)) (fun _ h => absurd h List.not_mem_nil)) rfl rfl rfl ?_ | refine aops_q (aq_load_el1' rfl rfl (by first | exact .sl | exact .v rfl | exact .v (by assumption)) (fun _ h => absurd h List.not_mem_nil)) rfl rfl rfl ?_ | refine aops_q (aq_load_own1 rfl (by repeat (first | exact .here | apply UpdF.there)) List.not_mem_nil rfl (by first | with_reducible assumption | assumption | rfl) (by first | exact .sl | exact .v rfl | exact .v (by assumption))) rfl rfl rfl ?_
        refine aops_nil ?_
        first | refine aany_take 2 rfl (.none rfl) (by kernel_rfl) (by kernel_rfl) (by kernel_rfl) (AP.ar (ap_len rfl rfl)) rfl rfl ?_ | refine aany_take 2 rfl (.none rfl) (by kernel_rfl) (by kernel_rfl) (by kernel_rfl) (ar_len_arr rfl (by repeat (first | exact .here | apply UpdF.there)) rfl) rfl rfl ?_ | refine aany_take 2 rfl (.none rfl) (by kernel_rfl) (by kernel_rfl) (by kernel_rfl) (AP.ar (ap_len_nil rfl rfl)) rfl rfl ?_
        refine aany_each2 4 10 (by kernel_rfl) rfl (.none rfl) ?_ rfl (.none rfl) ?_
        rotate_left
        case' _ =>
          refine aops_lit (e := 3) (sz := 1) (by_ := 8) rfl rfl (by repeat constructor) rfl rfl rfl rfl ?_
          refine aops_nil ?_
          refine aany_each2 4 11 (by kernel_rfl) rfl (.none rfl) ?_ rfl (.none rfl) ?_
          rotate_left
          case' _ =>
            (refine aops_call (by repeat constructor) (Pick_con _ _ _ [0,0,0,1,-1] (by decide)) (by repeat (first | exact .nil | exact Split.none _ | apply Split.left | apply Split.right)) rfl rfl ?_; rintro _ _ ⟨r39, a39, rfl, hr39, rfl⟩; have hrb : -1 ≤ r39 ∧ r39 ≤ 1 := (by simp at hr39; omega))
            refine aops_nil ?_
            refine aany_one 4 (by kernel_rfl) rfl (.none rfl) ?_
            first | refine aops_q (aq_load1 rfl (by repeat (first | exact .here | apply UpdF.there)) List.not_mem_nil rfl (by repeat constructor)) rfl rfl rfl ?_ | refine aops_q (aq_load_el1 rfl rfl (by first | exact .sl | exact .v rfl | exact .v (by assumption)) (fun _ h => absurd h List.not_mem_nil)) rfl rfl rfl ?_ | refine aops_q (aq_load_el1' rfl rfl (by first | exact .sl | exact .v rfl | exact .v (by assumption)) (fun _ h => absurd h List.not_mem_nil)) rfl rfl rfl ?_ | refine aops_q (aq_load_own1 rfl (by repeat (first | exact .here | apply UpdF.there)) List.not_mem_nil rfl (by first | with_reducible assumption | assumption | rfl) (by first | exact .sl | exact .v rfl | exact .v (by assumption))) rfl rfl rfl ?_
            refine aops_nil ?_
            first | refine aany_take 5 rfl (.none rfl) (by kernel_rfl) (by kernel_rfl) (by kernel_rfl) (AP.ar (ap_len rfl rfl)) rfl rfl ?_ | refine aany_take 5 rfl (.none rfl) (by kernel_rfl) (by kernel_rfl) (by kernel_rfl) (ar_len_arr rfl (by repeat (first | exact .here | apply UpdF.there)) rfl) rfl rfl ?_ | refine aany_take 5 rfl (.none rfl) (by kernel_rfl) (by kernel_rfl) (by kernel_rfl) (AP.ar (ap_len_nil rfl rfl)) rfl rfl ?_
            refine aany_take 6 rfl (.none rfl) (by kernel_rfl) (by kernel_rfl) (by kernel_rfl) (AP.ar (ap_arith rfl rfl rfl (by omega))) rfl rfl ?_
            refine aany_take 7 rfl (.none rfl) (by kernel_rfl) (by kernel_rfl) (by kernel_rfl) (AP.ar (ap_arith rfl rfl rfl (by omega))) rfl rfl ?_
            refine aany_take 8 rfl (.none rfl) (by kernel_rfl) (by kernel_rfl) (by kernel_rfl) (AP.ar (ap_quon rfl rfl (by omega))) rfl rfl ?_
            refine aany_take 12 rfl (.none rfl) (by kernel_rfl) (by kernel_rfl) (by kernel_rfl) (AP.ar (ap_arith rfl rfl rfl (by omega))) rfl rfl ?_
            refine aany_take 13 rfl (.none rfl) (by kernel_rfl) (by kernel_rfl) (by kernel_rfl) (AP.ar (ap_max rfl rfl)) rfl rfl ?_
            refine aany_take 14 rfl (.none rfl) (by kernel_rfl) (by kernel_rfl) (by kernel_rfl) (AP.ar (ap_min rfl rfl)) rfl rfl ?_
            first | refine aany_take 15 rfl (.none rfl) (by kernel_rfl) (by kernel_rfl) (by kernel_rfl) (AP.ar (ap_fieldAddr (off := 0) (sz := 1) (g := false) rfl rfl)) rfl rfl ?_ | refine aany_take 15 rfl (.none rfl) (by kernel_rfl) (by kernel_rfl) (by kernel_rfl) (AP.ar (ap_fieldAddr_el (off := 0) (sz := 1) (g := false) rfl rfl (by repeat constructor))) rfl rfl ?_
            refine aany_one 16 (by kernel_rfl) rfl (.none rfl) ?_
            first | refine aops_store rfl rfl (by first | exact .agg | exact .sl | exact .v rfl | exact .v (by assumption)) (by repeat (first | exact .here | apply UpdF.there)) rfl (by repeat constructor) ?_ | refine aops_store_own1 rfl rfl (by first | exact .sl | exact .v rfl | exact .v (by assumption)) (by repeat (first | exact .here | apply UpdF.there)) rfl (by simp only [List.length_set, List.length_map]; omega) ?_
            refine aops_nil ?_
            refine aany_nil (by kernel_rfl) ?_
          rotate_right
          case' _ =>
            first | refine aops_q (aq_load1 rfl (by repeat (first | exact .here | apply UpdF.there)) List.not_mem_nil rfl (by repeat constructor)) rfl rfl rfl ?_ | refine aops_q (aq_load_el1 rfl rfl (by first | exact .sl | exact .v rfl | exact .v (by assumption)) (fun _ h => absurd h List.not_mem_nil)) rfl rfl rfl ?_ | refine aops_q (aq_load_el1' rfl rfl (by first | exact .sl | exact .v rfl | exact .v (by assumption)) (fun _ h => absurd h List.not_mem_nil)) rfl rfl rfl ?_ | refine aops_q (aq_load_own1 rfl (by repeat (first | exact .here | apply UpdF.there)) List.not_mem_nil rfl (by first | with_reducible assumption | assumption | rfl) (by first | exact .sl | exact .v rfl | exact .v (by assumption))) rfl rfl rfl ?_
            refine aops_nil ?_
            first | refine aany_take 5 rfl (.none rfl) (by kernel_rfl) (by kernel_rfl) (by kernel_rfl) (AP.ar (ap_len rfl rfl)) rfl rfl ?_ | refine aany_take 5 rfl (.none rfl) (by kernel_rfl) (by kernel_rfl) (by kernel_rfl) (ar_len_arr rfl (by repeat (first | exact .here | apply UpdF.there)) rfl) rfl rfl ?_ | refine aany_take 5 rfl (.none rfl) (by kernel_rfl) (by kernel_rfl) (by kernel_rfl) (AP.ar (ap_len_nil rfl rfl)) rfl rfl ?_
            refine aany_take 6 rfl (.none rfl) (by kernel_rfl) (by kernel_rfl) (by kernel_rfl) (AP.ar (ap_arith rfl rfl rfl (by omega))) rfl rfl ?_
            refine aany_take 7 rfl (.none rfl) (by kernel_rfl) (by kernel_rfl) (by kernel_rfl) (AP.ar (ap_arith rfl rfl rfl (by omega))) rfl rfl ?_
            refine aany_take 8 rfl (.none rfl) (by kernel_rfl) (by kernel_rfl) (by kernel_rfl) (AP.ar (ap_quon rfl rfl (by omega))) rfl rfl ?_
            refine aany_one 11 (by kernel_rfl) rfl (.none rfl) ?_
            (refine aops_call (by repeat constructor) (Pick_con _ _ _ [0,0,0,1,-1] (by decide)) (by repeat (first | exact .nil | exact Split.none _ | apply Split.left | apply Split.right)) rfl rfl ?_; rintro _ _ ⟨r39, a39, rfl, hr39, rfl⟩; have hrb : -1 ≤ r39 ∧ r39 ≤ 1 := (by simp at hr39; omega))
            refine aops_nil ?_
            refine aany_take 12 rfl (.none rfl) (by kernel_rfl) (by kernel_rfl) (by kernel_rfl) (AP.ar (ap_arith rfl rfl rfl (by omega))) rfl rfl ?_
            refine aany_take 13 rfl (.none rfl) (by kernel_rfl) (by kernel_rfl) (by kernel_rfl) (AP.ar (ap_max rfl rfl)) rfl rfl ?_
            refine aany_take 14 rfl (.none rfl) (by kernel_rfl) (by kernel_rfl) (by kernel_rfl) (AP.ar (ap_min rfl rfl)) rfl rfl ?_
            first | refine aany_take 15 rfl (.none rfl) (by kernel_rfl) (by kernel_rfl) (by kernel_rfl) (AP.ar (ap_fieldAddr (off := 0) (sz := 1) (g := false) rfl rfl)) rfl rfl ?_ | refine aany_take 15 rfl (.none rfl) (by kernel_rfl) (by kernel_rfl) (by kernel_rfl) (AP.ar (ap_fieldAddr_el (off := 0) (sz := 1) (g := false) rfl rfl (by repeat constructor))) rfl rfl ?_
            refine aany_one 16 (by kernel_rfl) rfl (.none rfl) ?_
            first | refine aops_store rfl rfl (by first | exact .agg | exact .sl | exact .v rfl | exact .v (by assumption)) (by repeat (first | exact .here | apply UpdF.there)) rfl (by repeat constructor) ?_ | refine aops_store_own1 rfl rfl (by first | exact .sl | exact .v rfl | exact .v (by assumption)) (by repeat (first | exact .here | apply UpdF.there)) rfl (by simp only [List.length_set, List.length_map]; omega) ?_
            refine aops_nil ?_
            refine aany_nil (by kernel_rfl) ?_
        rotate_right
        case' _ =>
          first | refine aops_q (aq_load1 rfl (by repeat (first | exact .here | apply UpdF.there)) List.not_mem_nil rfl (by repeat constructor)) rfl rfl rfl ?_ | refine aops_q (aq_load_el1 rfl rfl (by first | exact .sl | exact .v rfl | exact .v (by assumption)) (fun _ h => absurd h List.not_mem_nil)) rfl rfl rfl ?_ | refine aops_q (aq_load_el1' rfl rfl (by first | exact .sl | exact .v rfl | exact .v (by assumption)) (fun _ h => absurd h List.not_mem_nil)) rfl rfl rfl ?_ | refine aops_q (aq_load_own1 rfl (by repeat (first | exact .here | apply UpdF.there)) List.not_mem_nil rfl (by first | with_reducible assumption | assumption | rfl) (by first | exact .sl | exact .v rfl | exact .v (by assumption))) rfl rfl rfl ?_
          refine aops_nil ?_
          first | refine aany_take 5 rfl (.none rfl) (by kernel_rfl) (by kernel_rfl) (by kernel_rfl) (AP.ar (ap_len rfl rfl)) rfl rfl ?_ | refine aany_take 5 rfl (.none rfl) (by kernel_rfl) (by kernel_rfl) (by kernel_rfl) (ar_len_arr rfl (by repeat (first | exact .here | apply UpdF.there)) rfl) rfl rfl ?_ | refine aany_take 5 rfl (.none rfl) (by kernel_rfl) (by kernel_rfl) (by kernel_rfl) (AP.ar (ap_len_nil rfl rfl)) rfl rfl ?_
          refine aany_take 6 rfl (.none rfl) (by kernel_rfl) (by kernel_rfl) (by kernel_rfl) (AP.ar (ap_arith rfl rfl rfl (by omega))) rfl rfl ?_
          refine aany_take 7 rfl (.none rfl) (by kernel_rfl) (by kernel_rfl) (by kernel_rfl) (AP.ar (ap_arith rfl rfl rfl (by omega))) rfl rfl ?_
          refine aany_take 8 rfl (.none rfl) (by kernel_rfl) (by kernel_rfl) (by kernel_rfl) (AP.ar (ap_quon rfl rfl (by omega))) rfl rfl ?_
          refine aany_one 10 (by kernel_rfl) rfl (.none rfl) ?_
          refine aops_lit (e := 3) (sz := 1) (by_ := 8) rfl rfl (by repeat constructor) rfl rfl rfl rfl ?_
          refine aops_nil ?_
          refine aany_one 11 (by kernel_rfl) rfl (.none rfl) ?_
          (refine aops_call (by repeat constructor) (Pick_con _ _ _ [0,0,0,1,-1] (by decide)) (by repeat (first | exact .nil | exact Split.none _ | apply Split.left | apply Split.right)) rfl rfl ?_; rintro _ _ ⟨r39, a39, rfl, hr39, rfl⟩; have hrb : -1 ≤ r39 ∧ r39 ≤ 1 := (by simp at hr39; omega))
          refine aops_nil ?_
          refine aany_take 12 rfl (.none rfl) (by kernel_rfl) (by kernel_rfl) (by kernel_rfl) (AP.ar (ap_arith rfl rfl rfl (by omega))) rfl rfl ?_
          refine aany_take 13 rfl (.none rfl) (by kernel_rfl) (by kernel_rfl) (by kernel_rfl) (AP.ar (ap_max rfl rfl)) rfl rfl ?_
          refine aany_take 14 rfl (.none rfl) (by kernel_rfl) (by kernel_rfl) (by kernel_rfl) (AP.ar (ap_min rfl rfl)) rfl rfl ?_
          first | refine aany_take 15 rfl (.none rfl) (by kernel_rfl) (by kernel_rfl) (by kernel_rfl) (AP.ar (ap_fieldAddr (off := 0) (sz := 1) (g := false) rfl rfl)) rfl rfl ?_ | refine aany_take 15 rfl (.none rfl) (by kernel_rfl) (by kernel_rfl) (by kernel_rfl) (AP.ar (ap_fieldAddr_el (off := 0) (sz := 1) (g := false) rfl rfl (by repeat constructor))) rfl rfl ?_
          refine aany_one 16 (by kernel_rfl) rfl (.none rfl) ?_
          first | refine aops_store rfl rfl (by first | exact .agg | exact .sl | exact .v rfl | exact .v (by assumption)) (by repeat (first | exact .here | apply UpdF.there)) rfl (by repeat constructor) ?_ | refine aops_store_own1 rfl rfl (by first | exact .sl | exact .v rfl | exact .v (by assumption)) (by repeat (first | exact .here | apply UpdF.there)) rfl (by simp only [List.length_set, List.length_map]; omega) ?_
          refine aops_nil ?_
          refine aany_nil (by kernel_rfl) ?_
      all_goals (
        refine seqQ_n ?_
        refine awp_seq ?_
        refine awp_region ?_
        first | refine aops_q (aq_load rfl (by repeat (first | exact .here | apply UpdF.there)) List.not_mem_nil rfl rfl (by repeat constructor)) rfl rfl rfl ?_ | refine aops_q (aq_load_el rfl rfl rfl rfl (fun _ h => absurd h List.not_mem_nil)) rfl rfl rfl ?_
        first | refine aops_store rfl rfl (by first | exact .agg | exact .sl | exact .v rfl | exact .v (by assumption)) (by repeat (first | exact .here | apply UpdF.there)) rfl (by repeat constructor) ?_ | refine aops_store_own1 rfl rfl (by first | exact .sl | exact .v rfl | exact .v (by assumption)) (by repeat (first | exact .here | apply UpdF.there)) rfl (by simp only [List.length_set, List.length_map]; omega) ?_
        refine aops_nil ?_
        refine seqQ_n ?_
        refine awp_unnil [4,5] 3 rfl (by repeat (first | exact .nil | apply SelC.cons rfl (by first | exact Cv.fz | (apply Cv.agg; repeat (first | exact CvL.nil | apply CvL.cons (by first | exact Cv.fz | exact Cv.same))) | exact Cv.same))) (by repeat (first | exact .nil | apply HeapA.box (by repeat (first | exact CvL.nil | apply CvL.cons (by first | exact Cv.fz | exact Cv.same))) | apply HeapA.arr)) ?_
        refine awp_ret ?_
        exact post_ret (.cell rfl (by repeat (first | exact .here | apply UpdF.there)) rfl rfl .nil) (by repeat (first | exact .nil | refine .cons (by first | exact .here | exact .there .here | exact .there (.there .here) | exact .there (.there (.there .here)) | exact .there (.there (.there (.there .here)))) ?_)) ⟨.mk _ p [], _, rfl, OKT_flat hn.2 (by omega) (by omega) hpm hpd hpl.2, rfl⟩
        )
      )
theorem group_con (b n k : Nat) (l : List Int) (hn : 1 ≤ n ∧ n ≤ 10) (a : Nat) : Con Try.prog 77 [.p b 0, .i n, .i k] [.box b 104 [.sl 1 (l.map .i), .i ((a : Nat) : Int)]] (fun d H => ∃ (t : Trust) (a' : Nat), d = av t ∧ OKT n t ∧ H = [.box b 104 [.sl 1 (l.map .i), .i ((a' : Nat) : Int)]]) := by
  have hcap : capB = 140737488355328 := rfl
  refine con_intro Try.func77 rfl Try.call77 rfl ?_
  refine awp_seq ?_
  refine awp_region ?_
  refine aops_alloc rfl (by repeat constructor) rfl rfl (fun b6 => ?_)
  refine aops_nil ?_
  refine seqQ_n ?_
  refine awp_seq ?_
  refine awp_region ?_
  refine aops_p (ap_assign rfl) rfl rfl rfl ?_
  refine aops_nil ?_
  refine seqQ_n ?_
  refine awp_seq ?_
  refine awp_seq ?_
  refine awp_region ?_
  refine aops_p (ap_assign rfl) rfl rfl rfl ?_
  refine aops_nil ?_
  refine seqQ_n ?_
  refine awp_block ?_
  refine awp_loop4 [0, 1, 2, 6] [.box b6 _ _] (fun (i : Nat) (v : Value) (g : List Trust) (a : Nat) r => (7, .v v) :: (8, .i (i : Int)) :: r) (fun (i : Nat) (v : Value) (g : List Trust) (a : Nat) r => .arr v 27 3 (avs g) :: .box b 104 [.sl 1 (l.map .i), .i ((a : Nat) : Int)] :: r) (fun (i : Nat) (v : Value) (g : List Trust) (a : Nat) => i ≤ 3 ∧ g.length ≤ i ∧ (1 ≤ i → 1 ≤ g.length) ∧ ∀ x ∈ g, Flat1 n x) (fun (i : Nat) (v : Value) (g : List Trust) (a : Nat) => 3 - i) (0) (.slice none 0 0) ([]) (a) (by repeat constructor) ⟨by omega, by simp, by omega, fun x h => absurd h List.not_mem_nil⟩ ((wk_own 27 3 rfl).trans (wk (by repeat (first | exact .nil | refine .cons rfl ?_)) (by repeat (first | exact .nil | refine .cons (by first | exact .here | exact .there .here | exact .there (.there .here) | exact .there (.there (.there .here)) | exact .there (.there (.there (.there .here)))) ?_)))) ?_
  intro i v g a ⟨hi, hgl, hg1, hgm⟩
  have hal : (avs g).length = g.length := avs_len _
  refine awp_seq ?_
  refine awp_seq ?_
  refine awp_region ?_
  refine aops_p (ap_move rfl) rfl rfl rfl ?_
  refine aops_p (ap_cmp rfl rfl rfl) rfl rfl rfl ?_
  refine aops_nil ?_
  refine seqQ_n ?_
  refine awp_cond rfl (fun hc => ?_) (fun hc => ?_)
  · have hlt := of_decide_eq_true hc
    refine awp_skip ?_
    refine seqQ_n ?_
    refine awp_seq ?_
    refine awp_block ?_
    refine awp_seq ?_
    refine awp_region ?_
    refine aops_p (ap_build (by kernel_rfl) rfl (by repeat constructor) (by repeat (first | exact .nil | apply FillL.cons rfl (by first | exact .agg | exact .sl | exact .v rfl | exact .v (by assumption)) rfl (by repeat constructor)))) rfl rfl rfl ?_
    refine aops_alloc rfl (by repeat constructor) rfl rfl (fun b9 => ?_)
    first | refine aops_store rfl rfl (by first | exact .agg | exact .sl | exact .v rfl | exact .v (by assumption)) (by repeat (first | exact .here | apply UpdF.there)) rfl (by repeat constructor) ?_ | refine aops_store_own1 rfl rfl (by first | exact .sl | exact .v rfl | exact .v (by assumption)) (by repeat (first | exact .here | apply UpdF.there)) rfl (by simp only [List.length_set, List.length_map]; omega) ?_
    refine aops_nil ?_
    refine seqQ_n ?_
    refine awp_seq ?_
    refine awp_seq ?_
    refine awp_region ?_
    refine aops_p (ap_move rfl) rfl rfl rfl ?_
    refine aops_p (ap_assign rfl) rfl rfl rfl ?_
    refine aops_nil ?_
    refine seqQ_n ?_
    refine awp_block ?_
    refine awp_loop3 [0, 1, 2, 6, 7, 8, 9] [.box b6 _ _, .arr v 27 3 (avs g), .box b 104 [.sl 1 (l.map .i), .i ((a : Nat) : Int)]] (fun (j : Nat) (u : Value) (q : List Int) r => (10, .i (j : Int)) :: r) (fun (j : Nat) (u : Value) (q : List Int) r => .box b9 27 [.i 1, .v u, .nil] :: .arr u 3 1 (q.map .i) :: r) (fun (j : Nat) (u : Value) (q : List Int) => j = i + 3 * q.length ∧ j ≤ n + 2 + i ∧ (∀ x ∈ q, (0 ≤ x ∧ x < (n : Int)) ∧ x < (j : Int)) ∧ q.Nodup) (fun (j : Nat) (u : Value) (q : List Int) => n + 3 - j) (i) (.slice none 0 0) ([]) (by repeat constructor) ⟨by simp, by omega, by simp, by simp⟩ ((wk_own 3 1 rfl).trans (wk (by repeat (first | exact .nil | refine .cons rfl ?_)) (by repeat (first | exact .nil | refine .cons (by first | exact .here | exact .there .here | exact .there (.there .here) | exact .there (.there (.there .here)) | exact .there (.there (.there (.there .here)))) ?_)))) ?_
    intro j u q ⟨hj, hjn, hqm, hqd⟩
    have hml : (q.map D.i).length = q.length := by simp
    refine awp_seq ?_
    refine awp_seq ?_
    refine awp_region ?_
    refine aops_p (ap_move rfl) rfl rfl rfl ?_
    refine aops_p (ap_move rfl) rfl rfl rfl ?_
    refine aops_p (ap_cmp rfl rfl rfl) rfl rfl rfl ?_
    refine aops_nil ?_
    refine seqQ_n ?_
    refine awp_cond rfl (fun hc => ?_) (fun hc => ?_)
    · have hlt2 := of_decide_eq_true hc
      refine awp_skip ?_
      refine seqQ_n ?_
      refine awp_seq ?_
      refine awp_block ?_
      refine awp_region ?_
      first | refine aops_p (ap_fieldAddr (off := 1) (sz := 1) (g := false) rfl rfl) rfl rfl rfl ?_ | refine aops_p (ap_fieldAddr_el (off := 1) (sz := 1) (g := false) rfl rfl (by repeat constructor)) rfl rfl rfl ?_
      first | refine aops_q (aq_load1 rfl (by repeat (first | exact .here | apply UpdF.there)) List.not_mem_nil rfl (by repeat constructor)) rfl rfl rfl ?_ | refine aops_q (aq_load_el1 rfl rfl (by first | exact .sl | exact .v rfl | exact .v (by assumption)) (fun _ h => absurd h List.not_mem_nil)) rfl rfl rfl ?_ | refine aops_q (aq_load_el1' rfl rfl (by first | exact .sl | exact .v rfl | exact .v (by assumption)) (fun _ h => absurd h List.not_mem_nil)) rfl rfl rfl ?_ | refine aops_q (aq_load_own1 rfl (by repeat (first | exact .here | apply UpdF.there)) List.not_mem_nil rfl (by first | with_reducible assumption | assumption | rfl) (by first | exact .sl | exact .v rfl | exact .v (by assumption))) rfl rfl rfl ?_
      refine aops_p (ap_move rfl) rfl rfl rfl ?_
      refine aops_lit (e := 3) (sz := 1) (by_ := 8) rfl rfl (by repeat constructor) rfl rfl rfl rfl ?_
      first | refine aops_append (e := 3) (sz := 1) (by_ := 8) rfl (by repeat (first | exact .here | apply UpdF.there)) rfl rfl rfl rfl rfl (by simp only [List.length_cons, List.length_nil, List.length_append, List.length_map, avs_len]; omega) (fun v26 hv26 => ?_) | refine aops_append_nil (e := 3) (sz := 1) (by_ := 8) rfl rfl rfl rfl rfl rfl (by simp only [List.length_cons, List.length_nil, List.length_append, List.length_map, avs_len]; omega) (fun v26 hv26 => ?_)
      first | refine aops_p (ap_fieldAddr (off := 1) (sz := 1) (g := false) rfl rfl) rfl rfl rfl ?_ | refine aops_p (ap_fieldAddr_el (off := 1) (sz := 1) (g := false) rfl rfl (by repeat constructor)) rfl rfl rfl ?_
      first | refine aops_store rfl rfl (by first | exact .agg | exact .sl | exact .v rfl | exact .v (by assumption)) (by repeat (first | exact .here | apply UpdF.there)) rfl (by repeat constructor) ?_ | refine aops_store_own1 rfl rfl (by first | exact .sl | exact .v rfl | exact .v (by assumption)) (by repeat (first | exact .here | apply UpdF.there)) rfl (by simp only [List.length_set, List.length_map]; omega) ?_
      refine aops_nil ?_
      refine blockQ_n ?_
      refine seqQ_n ?_
      refine awp_region ?_
      refine aops_p (ap_move rfl) rfl rfl rfl ?_
      refine aops_p (ap_arith rfl rfl rfl (by omega)) rfl rfl rfl ?_
      refine aops_p (ap_assign rfl) rfl rfl rfl ?_
      refine aops_nil ?_
      refine seqQ_n ?_
      rw [mapi_snoc]
      refine ⟨j + 3, _, q ++ [(j : Int)], ⟨by simp only [List.length_append, List.length_cons, List.length_nil]; omega, by omega, snoc_mem (fun y hy => by have := hqm y hy; omega) (by omega), nodup_snoc hqd (fun y hy => (hqm y hy).2) (by omega)⟩, by omega, wk (by repeat (first | exact .nil | refine .cons rfl ?_)) (by repeat (first | exact .nil | refine .cons (by first | exact .here | exact .there .here | exact .there (.there .here) | exact .there (.there (.there .here)) | exact .there (.there (.there (.there .here)))) ?_))⟩
    · have hge2 := of_decide_eq_false hc
      refine awp_exit ?_
      refine seqQ_x ?_
      refine seqQ_x ?_
      refine blockQ_x rfl ?_
      refine seqQ_n ?_
      refine awp_seq ?_
      refine awp_region ?_
      first | refine aops_p (ap_fieldAddr (off := 1) (sz := 1) (g := false) rfl rfl) rfl rfl rfl ?_ | refine aops_p (ap_fieldAddr_el (off := 1) (sz := 1) (g := false) rfl rfl (by repeat constructor)) rfl rfl rfl ?_
      first | refine aops_q (aq_load1 rfl (by repeat (first | exact .here | apply UpdF.there)) List.not_mem_nil rfl (by repeat constructor)) rfl rfl rfl ?_ | refine aops_q (aq_load_el1 rfl rfl (by first | exact .sl | exact .v rfl | exact .v (by assumption)) (fun _ h => absurd h List.not_mem_nil)) rfl rfl rfl ?_ | refine aops_q (aq_load_el1' rfl rfl (by first | exact .sl | exact .v rfl | exact .v (by assumption)) (fun _ h => absurd h List.not_mem_nil)) rfl rfl rfl ?_ | refine aops_q (aq_load_own1 rfl (by repeat (first | exact .here | apply UpdF.there)) List.not_mem_nil rfl (by first | with_reducible assumption | assumption | rfl) (by first | exact .sl | exact .v rfl | exact .v (by assumption))) rfl rfl rfl ?_
      first | refine aops_len rfl rfl rfl rfl (fun _ => ?_) | refine aops_p (ap_len_arr rfl (by repeat (first | exact .here | apply UpdF.there)) rfl) rfl rfl rfl ?_ | refine aops_p (ap_len_nil rfl rfl) rfl rfl rfl ?_
      refine aops_p (ap_cmp rfl rfl rfl) rfl rfl rfl ?_
      refine aops_nil ?_
      refine seqQ_n ?_
      refine awp_cond rfl (fun hc => ?_) (fun hc => ?_)
      · have hq0 := of_decide_eq_true hc
        refine awp_seq ?_
        refine awp_region ?_
        refine aops_p (ap_move rfl) rfl rfl rfl ?_
        first | refine aops_p (ap_fieldAddr (off := 1) (sz := 1) (g := false) rfl rfl) rfl rfl rfl ?_ | refine aops_p (ap_fieldAddr_el (off := 1) (sz := 1) (g := false) rfl rfl (by repeat constructor)) rfl rfl rfl ?_
        first | refine aops_q (aq_load1 rfl (by repeat (first | exact .here | apply UpdF.there)) List.not_mem_nil rfl (by repeat constructor)) rfl rfl rfl ?_ | refine aops_q (aq_load_el1 rfl rfl (by first | exact .sl | exact .v rfl | exact .v (by assumption)) (fun _ h => absurd h List.not_mem_nil)) rfl rfl rfl ?_ | refine aops_q (aq_load_el1' rfl rfl (by first | exact .sl | exact .v rfl | exact .v (by assumption)) (fun _ h => absurd h List.not_mem_nil)) rfl rfl rfl ?_ | refine aops_q (aq_load_own1 rfl (by repeat (first | exact .here | apply UpdF.there)) List.not_mem_nil rfl (by first | with_reducible assumption | assumption | rfl) (by first | exact .sl | exact .v rfl | exact .v (by assumption))) rfl rfl rfl ?_
        first | refine aops_len rfl rfl rfl rfl (fun _ => ?_) | refine aops_p (ap_len_arr rfl (by repeat (first | exact .here | apply UpdF.there)) rfl) rfl rfl rfl ?_ | refine aops_p (ap_len_nil rfl rfl) rfl rfl rfl ?_
        (refine aops_call (by repeat constructor) (Range_con _ _ _ _ _ (by omega)) (by repeat (first | exact .nil | exact Split.none _ | apply Split.left | apply Split.right)) rfl rfl ?_; rintro _ _ ⟨r36, a36, rfl, hr36, rfl⟩)
        first | refine aops_p (ap_fieldAddr (off := 0) (sz := 1) (g := false) rfl rfl) rfl rfl rfl ?_ | refine aops_p (ap_fieldAddr_el (off := 0) (sz := 1) (g := false) rfl rfl (by repeat constructor)) rfl rfl rfl ?_
        first | refine aops_store rfl rfl (by first | exact .agg | exact .sl | exact .v rfl | exact .v (by assumption)) (by repeat (first | exact .here | apply UpdF.there)) rfl (by repeat constructor) ?_ | refine aops_store_own1 rfl rfl (by first | exact .sl | exact .v rfl | exact .v (by assumption)) (by repeat (first | exact .here | apply UpdF.there)) rfl (by simp only [List.length_set, List.length_map]; omega) ?_
        refine aops_nil ?_
        refine seqQ_n ?_
        refine awp_freeze u [0,1,2,6,7,8,9] (by repeat (first | exact .here | apply Rem.there)) (by repeat (first | exact .nil | apply SelC.cons rfl (by first | exact Cv.fz | (apply Cv.agg; repeat (first | exact CvL.nil | apply CvL.cons (by first | exact Cv.fz | exact Cv.same))) | exact Cv.same))) (by repeat (first | exact .nil | apply HeapA.box (by repeat (first | exact CvL.nil | apply CvL.cons (by first | exact Cv.fz | exact Cv.same))) | apply HeapA.arr)) ?_
        refine awp_region ?_
        refine aops_p (ap_move rfl) rfl rfl rfl ?_
        first | refine aops_q (aq_load rfl (by repeat (first | exact .here | apply UpdF.there)) List.not_mem_nil rfl rfl (by repeat constructor)) rfl rfl rfl ?_ | refine aops_q (aq_load_el rfl rfl rfl rfl (fun _ h => absurd h List.not_mem_nil)) rfl rfl rfl ?_
        refine aops_unnil [0,1,2,6,7,8,9,38,39] 3 rfl rfl (by repeat (first | exact .nil | apply SelC.cons rfl (by first | exact Cv.fz | (apply Cv.agg; repeat (first | exact CvL.nil | apply CvL.cons (by first | exact Cv.fz | exact Cv.same))) | exact Cv.same))) (by repeat (first | exact .nil | apply HeapA.box (by repeat (first | exact CvL.nil | apply CvL.cons Cv.same)) | apply HeapA.arr)) ?_; refine aops_lit (e := 27) (sz := 3) (by_ := 56) rfl rfl (by repeat constructor) rfl rfl rfl rfl ?_
        first | refine aops_append (e := 27) (sz := 3) (by_ := 56) rfl (by repeat (first | exact .here | apply UpdF.there)) rfl rfl rfl rfl rfl (by simp only [List.length_cons, List.length_nil, List.length_append, List.length_map, avs_len]; omega) (fun v41 hv41 => ?_) | refine aops_append_nil (e := 27) (sz := 3) (by_ := 56) rfl rfl rfl rfl rfl rfl (by simp only [List.length_cons, List.length_nil, List.length_append, List.length_map, avs_len]; omega) (fun v41 hv41 => ?_)
        refine aops_p (ap_assign rfl) rfl rfl rfl ?_
        refine aops_nil ?_
        refine blockQ_n ?_
        refine seqQ_n ?_
        refine awp_region ?_
        refine aops_p (ap_move rfl) rfl rfl rfl ?_
        refine aops_p (ap_arith rfl rfl rfl (by omega)) rfl rfl rfl ?_
        refine aops_p (ap_assign rfl) rfl rfl rfl ?_
        refine aops_nil ?_
        refine seqQ_n ?_
        first | (rw [show D.agg [.i r36, .sl 1 (q.map .i), .sl 3 []] = av (.mk r36 q []) from rfl, avs_snoc]; refine ⟨i + 1, _, g ++ [.mk r36 q []], _, ⟨by omega, by simp only [List.length_append, List.length_cons, List.length_nil]; omega, fun _ => by simp, snoc_mem hgm (Flat1_of hn.2 (by omega) (by omega) (fun y hy => (hqm y hy).1) hqd (by omega))⟩, by omega, wk (by repeat (first | exact .nil | refine .cons rfl ?_)) (by repeat (first | exact .nil | refine .cons (by first | exact .here | exact .there .here | exact .there (.there .here) | exact .there (.there (.there .here)) | exact .there (.there (.there (.there .here)))) ?_))⟩) | refine ⟨i + 1, _, g, _, ⟨by omega, by omega, fun _ => by omega, hgm⟩, by omega, wk (by repeat (first | exact .nil | refine .cons rfl ?_)) (by repeat (first | exact .nil | refine .cons (by first | exact .here | exact .there .here | exact .there (.there .here) | exact .there (.there (.there .here)) | exact .there (.there (.there (.there .here)))) ?_))⟩
      · have hq1 := of_decide_eq_false hc
        refine awp_skip ?_
        refine blockQ_n ?_
        refine seqQ_n ?_
        refine awp_region ?_
        refine aops_p (ap_move rfl) rfl rfl rfl ?_
        refine aops_p (ap_arith rfl rfl rfl (by omega)) rfl rfl rfl ?_
        refine aops_p (ap_assign rfl) rfl rfl rfl ?_
        refine aops_nil ?_
        refine seqQ_n ?_
        first | (rw [show D.agg [.i r36, .sl 1 (q.map .i), .sl 3 []] = av (.mk r36 q []) from rfl, avs_snoc]; refine ⟨i + 1, _, g ++ [.mk r36 q []], _, ⟨by omega, by simp only [List.length_append, List.length_cons, List.length_nil]; omega, fun _ => by simp, snoc_mem hgm (Flat1_of hn.2 (by omega) (by omega) (fun y hy => (hqm y hy).1) hqd (by omega))⟩, by omega, wk (by repeat (first | exact .nil | refine .cons rfl ?_)) (by repeat (first | exact .nil | refine .cons (by first | exact .here | exact .there .here | exact .there (.there .here) | exact .there (.there (.there .here)) | exact .there (.there (.there (.there .here)))) ?_))⟩) | refine ⟨i + 1, _, g, _, ⟨by omega, by omega, fun _ => by omega, hgm⟩, by omega, wk (by repeat (first | exact .nil | refine .cons rfl ?_)) (by repeat (first | exact .nil | refine .cons (by first | exact .here | exact .there .here | exact .there (.there .here) | exact .there (.there (.there .here)) | exact .there (.there (.there (.there .here)))) ?_))⟩
  · have hge := of_decide_eq_false hc
    refine awp_exit ?_
    refine seqQ_x ?_
    refine seqQ_x ?_
    refine blockQ_x rfl ?_
    refine seqQ_n ?_
    refine awp_seq ?_
    refine awp_seq ?_
    refine awp_freeze v [0,2,6,7] (by repeat (first | exact .here | apply Rem.there)) (by repeat (first | exact .nil | apply SelC.cons rfl (by first | exact Cv.fz | (apply Cv.agg; repeat (first | exact CvL.nil | apply CvL.cons (by first | exact Cv.fz | exact Cv.same))) | exact Cv.same))) (by repeat (first | exact .nil | apply HeapA.box (by repeat (first | exact CvL.nil | apply CvL.cons (by first | exact Cv.fz | exact Cv.same))) | apply HeapA.arr)) ?_
    have hg1' := hg1 (by omega)
    refine awp_region ?_
    refine aops_p (ap_move rfl) rfl rfl rfl ?_
    (refine aops_call (by repeat constructor) (N_con _ _ _ _ (by omega)) (by repeat (first | exact .nil | exact Split.none _ | apply Split.left | apply Split.right)) rfl rfl ?_; rintro _ _ ⟨r43, a43, rfl, hr43, rfl⟩)
    refine aops_p (ap_cmp rfl rfl rfl) rfl rfl rfl ?_
    refine aops_nil ?_
    refine seqQ_n ?_
    refine awp_cond rfl (fun hc => ?_) (fun hc => ?_)
    · refine awp_seq ?_
      refine awp_region ?_
      refine aops_p (ap_move rfl) rfl rfl rfl ?_
      refine aops_p (ap_move rfl) rfl rfl rfl ?_
      refine aops_p (ap_move rfl) rfl rfl rfl ?_
      first | refine aops_len rfl rfl rfl rfl (fun _ => ?_) | refine aops_p (ap_len_arr rfl (by repeat (first | exact .here | apply UpdF.there)) rfl) rfl rfl rfl ?_ | refine aops_p (ap_len_nil rfl rfl) rfl rfl rfl ?_
      refine aops_p (ap_remn rfl rfl (by omega)) rfl rfl rfl ?_; have e49 : ((k : Int) % ((avs g).length : Int)) = ((k % g.length : Nat) : Int) := (by rw [avs_len]; exact (Int.natCast_emod _ _).symm); rw [e49]
      obtain ⟨x, hx, _⟩ := drop_cons (l := g) (k := k % g.length) (Nat.mod_lt _ (by omega)); have hx' := avs_get hx; refine aops_p (ap_index rfl rfl rfl rfl (by decide) rfl hx') rfl rfl rfl ?_
      first | refine aops_q (aq_load rfl (by repeat (first | exact .here | apply UpdF.there)) List.not_mem_nil rfl rfl (by repeat constructor)) rfl rfl rfl ?_ | refine aops_q (aq_load_el rfl rfl rfl rfl (fun _ h => absurd h List.not_mem_nil)) rfl rfl rfl ?_
      first | refine aops_store rfl rfl (by first | exact .agg | exact .sl | exact .v rfl | exact .v (by assumption)) (by repeat (first | exact .here | apply UpdF.there)) rfl (by repeat constructor) ?_ | refine aops_store_own1 rfl rfl (by first | exact .sl | exact .v rfl | exact .v (by assumption)) (by repeat (first | exact .here | apply UpdF.there)) rfl (by simp only [List.length_set, List.length_map]; omega) ?_
      refine aops_nil ?_
      refine seqQ_n ?_
      refine awp_ret ?_
      refine seqQ_r ?_
      exact post_ret (.cell rfl (by repeat (first | exact .here | apply UpdF.there)) rfl rfl .nil) (by repeat (first | exact .nil | refine .cons (by first | exact .here | exact .there .here | exact .there (.there .here) | exact .there (.there (.there .here)) | exact .there (.there (.there (.there .here)))) ?_)) ⟨x, _, rfl, (hgm x (List.mem_of_getElem? hx)).ok, rfl⟩
    · refine awp_skip ?_
      refine seqQ_n ?_
      refine awp_seq ?_
      refine awp_region ?_
      refine aops_p (ap_move rfl) rfl rfl rfl ?_
      refine aops_p (ap_move rfl) rfl rfl rfl ?_
      first | refine aops_len rfl rfl rfl rfl (fun _ => ?_) | refine aops_p (ap_len_arr rfl (by repeat (first | exact .here | apply UpdF.there)) rfl) rfl rfl rfl ?_ | refine aops_p (ap_len_nil rfl rfl) rfl rfl rfl ?_
      refine aops_p (ap_arith rfl rfl rfl (by omega)) rfl rfl rfl ?_
      refine aops_p (ap_max rfl rfl) rfl rfl rfl ?_
      refine aops_p (ap_move rfl) rfl rfl rfl ?_
      first | refine aops_len rfl rfl rfl rfl (fun _ => ?_) | refine aops_p (ap_len_arr rfl (by repeat (first | exact .here | apply UpdF.there)) rfl) rfl rfl rfl ?_ | refine aops_p (ap_len_nil rfl rfl) rfl rfl rfl ?_
      (refine aops_call (by repeat constructor) (Range_con _ _ _ _ _ (by omega)) (by repeat (first | exact .nil | exact Split.none _ | apply Split.left | apply Split.right)) rfl rfl ?_; rintro _ _ ⟨r59, a59, rfl, hr59, rfl⟩)
      refine aops_p (ap_move rfl) rfl rfl rfl ?_
      refine aops_p (ap_build (by kernel_rfl) rfl (by repeat constructor) (by repeat (first | exact .nil | apply FillL.cons rfl (by first | exact .agg | exact .sl | exact .v rfl | exact .v (by assumption)) rfl (by repeat constructor)))) rfl rfl rfl ?_
      first | refine aops_store rfl rfl (by first | exact .agg | exact .sl | exact .v rfl | exact .v (by assumption)) (by repeat (first | exact .here | apply UpdF.there)) rfl (by repeat constructor) ?_ | refine aops_store_own1 rfl rfl (by first | exact .sl | exact .v rfl | exact .v (by assumption)) (by repeat (first | exact .here | apply UpdF.there)) rfl (by simp only [List.length_set, List.length_map]; omega) ?_
      refine aops_nil ?_
      refine seqQ_n ?_
      refine awp_unnil [6] 1 rfl (by repeat (first | exact .nil | apply SelC.cons rfl (by first | exact Cv.fz | (apply Cv.agg; repeat (first | exact CvL.nil | apply CvL.cons (by first | exact Cv.fz | exact Cv.same))) | exact Cv.same))) (by repeat (first | exact .nil | apply HeapA.box (by repeat (first | exact CvL.nil | apply CvL.cons (by first | exact Cv.fz | exact Cv.same))) | apply HeapA.arr)) ?_
      refine awp_ret ?_
      exact post_ret (.cell rfl (by repeat (first | exact .here | apply UpdF.there)) rfl rfl .nil) (by repeat (first | exact .nil | refine .cons (by first | exact .here | exact .there .here | exact .there (.there .here) | exact .there (.there (.there .here)) | exact .there (.there (.there (.there .here)))) ?_)) ⟨.mk _ [] g, _, rfl, OKT_two (by omega) (by omega) hgm (by omega), rfl⟩
theorem Trust2_con (b n : Nat) (l : List Int) (hn : 1 ≤ n ∧ n ≤ 10) (a : Nat) : Con Try.prog 13 [.p b 0, .i n, .i 2] [.box b 104 [.sl 1 (l.map .i), .i ((a : Nat) : Int)]] (fun d H => ∃ (t : Trust) (a' : Nat), d = av t ∧ OKT n t ∧ H = [.box b 104 [.sl 1 (l.map .i), .i ((a' : Nat) : Int)]]) := Trust_con b n 1 l hn (by omega) a
end Go.Proofs.Ytanlbfnlnfkcjaa
