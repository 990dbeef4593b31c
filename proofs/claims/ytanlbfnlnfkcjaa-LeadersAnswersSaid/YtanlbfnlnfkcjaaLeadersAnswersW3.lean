/- The walks of: trust_con, Trust_con, most_con. Each says what one function of the program answers, for the arguments that its statement names. No condition beyond what each theorem says. -/
import Derived.Test.YtanlbfnlnfkcjaaLeadersAnswersW2
import Derived.Test.YtanlbfnlnfkcjaaProg
import Derived.KernelRfl
import Derived.Tactics
import Derived.Tactics2
import Derived.StillTactics
set_option linter.unusedVariables false
set_option linter.unusedSimpArgs false
set_option linter.unnecessarySimpa false
set_option maxRecDepth 4000
namespace Go.Proofs.Ytanlbfnlnfkcjaa
open Go Go.Av Go.Tq
theorem trust_con (b n : Nat) (l : List Int) (hn : 1 ≤ n ∧ n ≤ 10) : ∀ (m a : Nat), m ≤ 5 → Con Try.prog 71 [.p b 0, .i n, .i ((m : Int) + 1)] [.box b 104 [.sl 1 (l.map .i), .i ((a : Nat) : Int)]] (fun d H => ∃ (t : Trust) (a' : Nat), d = av t ∧ GT n m t ∧ H = [.box b 104 [.sl 1 (l.map .i), .i ((a' : Nat) : Int)]]) := by
  have hcap : capB = 140737488355328 := rfl
  intro m
  induction m with
  | zero =>
    intro a hm
    exact trust0_con b n l hn a
  | succ m ih =>
    intro a hm
    refine con_intro Try.func71 rfl Try.call71 rfl ?_
    refine awp_seq ?_
    refine awp_region ?_
    refine aops_alloc rfl (by repeat constructor) rfl rfl (fun b6 => ?_)
    refine aops_nil ?_
    refine seqQ_n ?_
    refine awp_seq ?_
    refine awp_region ?_
    refine aops_alloc rfl (by repeat constructor) rfl rfl (fun b7 => ?_)
    refine aops_nil ?_
    refine seqQ_n ?_
    refine awp_seq ?_
    refine awp_region ?_
    refine aops_p (ap_move rfl) rfl rfl rfl ?_
    refine aops_p (ap_move rfl) rfl rfl rfl ?_
    (refine aops_call (by repeat constructor) (Order_con _ _ _ n (by omega)) (by repeat (first | exact .nil | exact Split.none _ | apply Split.left | apply Split.right)) rfl rfl ?_; rintro _ _ ⟨ql, a14, rfl, hqp, rfl⟩)
    refine aops_p (ap_assign rfl) rfl rfl rfl ?_
    refine aops_nil ?_
    refine seqQ_n ?_
    refine awp_seq ?_
    refine awp_seq ?_
    refine awp_region ?_
    refine aops_p (ap_move rfl) rfl rfl rfl ?_
    refine aops_p (ap_move rfl) rfl rfl rfl ?_
    refine aops_p (ap_move rfl) rfl rfl rfl ?_
    refine aops_p (ap_min rfl rfl) rfl rfl rfl ?_
    (refine aops_call (by repeat constructor) (Range_con _ _ _ _ _ (by omega)) (by repeat (first | exact .nil | exact Split.none _ | apply Split.left | apply Split.right)) rfl rfl ?_; rintro _ _ ⟨r19, a19, rfl, hr19, rfl⟩)
    obtain ⟨j, rfl⟩ := Int.eq_ofNat_of_zero_le (show 0 ≤ r19 by omega); have hqll : ql.length = n := (by rw [hqp.length_eq, upTo_len]); refine aops_p (ap_slice_to (k := j) rfl rfl rfl rfl rfl (by simp only [List.length_map]; omega)) rfl rfl rfl ?_; rw [← List.map_take]; obtain ⟨qs, hqs⟩ : ∃ qs, qs = ql.take j := ⟨_, rfl⟩; rw [← hqs]; have hqsl : qs.length = j := (by rw [hqs]; simp; omega)
    first | refine aops_len rfl rfl rfl rfl (fun _ => ?_) | refine aops_p (ap_len_arr rfl (by repeat (first | exact .here | apply UpdF.there)) rfl) rfl rfl rfl ?_ | refine aops_p (ap_len_nil rfl rfl) rfl rfl rfl ?_
    refine aops_p (ap_move rfl) rfl rfl rfl ?_
    refine aops_nil ?_
    refine seqQ_n ?_
    refine awp_block ?_
    refine awp_loop3 [0, 1, 2, 6, 7, 20, 21] [.box b6 _ _, .arr (.slice none 0 0) 27 3 [], .box b _ _] (fun (k : Nat) (v : Value) (q : List Int) r => (22, .i (k : Int)) :: r) (fun (k : Nat) (v : Value) (q : List Int) r => .box b7 27 [.i 0, .v v, .nil] :: .arr v 3 1 (q.map .i) :: r) (fun (k : Nat) (v : Value) (q : List Int) => k ≤ j ∧ q = qs.take k) (fun (k : Nat) (v : Value) (q : List Int) => j - k) (0) (.slice none 0 0) ([]) (by repeat constructor) ⟨by omega, by simp⟩ ((wk_own 3 1 rfl).trans ((wk_own 27 3 rfl).trans (wk (by repeat (first | exact .nil | refine .cons rfl ?_)) (by repeat (first | exact .nil | refine .cons (by first | exact .here | exact .there .here | exact .there (.there .here) | exact .there (.there (.there .here)) | exact .there (.there (.there (.there .here)))) ?_))))) ?_
    intro k v q ⟨hk, hI⟩
    have hql : q.length = k := by rw [hI]; simp; omega
    refine awp_seq ?_
    refine awp_region ?_
    refine aops_p (ap_cmp rfl rfl rfl) rfl rfl rfl ?_
    refine aops_nil ?_
    refine seqQ_n ?_
    refine awp_seq ?_
    refine awp_cond rfl (fun hc => ?_) (fun hc => ?_)
    · have hlt : k < qs.length := by have := of_decide_eq_true hc; simp only [List.length_map] at this; omega
      obtain ⟨x, hx, hd⟩ := drop_cons hlt
      have hx' := getMap D.i hx
      refine awp_skip ?_
      refine seqQ_n ?_
      refine awp_seq ?_
      refine awp_block ?_
      refine awp_seq ?_
      refine awp_region ?_
      first | refine aops_p (ap_index rfl rfl rfl rfl (by decide) rfl (by first | with_reducible assumption | assumption | rfl)) rfl rfl rfl ?_ | refine aops_p (ap_index rfl rfl rfl rfl (by decide) (by omega) (by first | with_reducible assumption | assumption | rfl)) rfl rfl rfl ?_ | refine aops_p (ap_index_own rfl rfl rfl rfl rfl (by first | omega | (simp only [List.length_map, List.length_set, avs_len]; omega))) rfl rfl rfl ?_
      first | refine aops_q (aq_load1 rfl (by repeat (first | exact .here | apply UpdF.there)) List.not_mem_nil rfl (by repeat constructor)) rfl rfl rfl ?_ | refine aops_q (aq_load_el1 rfl rfl (by first | exact .sl | exact .v rfl | exact .v (by assumption)) (fun _ h => absurd h List.not_mem_nil)) rfl rfl rfl ?_ | refine aops_q (aq_load_el1' rfl rfl (by first | exact .sl | exact .v rfl | exact .v (by assumption)) (fun _ h => absurd h List.not_mem_nil)) rfl rfl rfl ?_ | refine aops_q (aq_load_own1 rfl (by repeat (first | exact .here | apply UpdF.there)) List.not_mem_nil rfl (by first | with_reducible assumption | assumption | rfl) (by first | exact .sl | exact .v rfl | exact .v (by assumption))) rfl rfl rfl ?_
      refine aops_p (ap_assign rfl) rfl rfl rfl ?_
      refine aops_nil ?_
      refine seqQ_n ?_
      refine awp_region ?_
      first | refine aops_p (ap_fieldAddr (off := 1) (sz := 1) (g := false) rfl rfl) rfl rfl rfl ?_ | refine aops_p (ap_fieldAddr_el (off := 1) (sz := 1) (g := false) rfl rfl (by repeat constructor)) rfl rfl rfl ?_
      first | refine aops_q (aq_load1 rfl (by repeat (first | exact .here | apply UpdF.there)) List.not_mem_nil rfl (by repeat constructor)) rfl rfl rfl ?_ | refine aops_q (aq_load_el1 rfl rfl (by first | exact .sl | exact .v rfl | exact .v (by assumption)) (fun _ h => absurd h List.not_mem_nil)) rfl rfl rfl ?_ | refine aops_q (aq_load_el1' rfl rfl (by first | exact .sl | exact .v rfl | exact .v (by assumption)) (fun _ h => absurd h List.not_mem_nil)) rfl rfl rfl ?_ | refine aops_q (aq_load_own1 rfl (by repeat (first | exact .here | apply UpdF.there)) List.not_mem_nil rfl (by first | with_reducible assumption | assumption | rfl) (by first | exact .sl | exact .v rfl | exact .v (by assumption))) rfl rfl rfl ?_
      refine aops_p (ap_move rfl) rfl rfl rfl ?_
      refine aops_lit (e := 3) (sz := 1) (by_ := 8) rfl rfl (by repeat constructor) rfl rfl rfl rfl ?_
      first | refine aops_append (e := 3) (sz := 1) (by_ := 8) rfl (by repeat (first | exact .here | apply UpdF.there)) rfl rfl rfl rfl rfl (by simp only [List.length_cons, List.length_nil, List.length_append, List.length_map, avs_len]; omega) (fun v30 hv30 => ?_) | refine aops_append_nil (e := 3) (sz := 1) (by_ := 8) rfl rfl rfl rfl rfl rfl (by simp only [List.length_cons, List.length_nil, List.length_append, List.length_map, avs_len]; omega) (fun v30 hv30 => ?_)
      first | refine aops_p (ap_fieldAddr (off := 1) (sz := 1) (g := false) rfl rfl) rfl rfl rfl ?_ | refine aops_p (ap_fieldAddr_el (off := 1) (sz := 1) (g := false) rfl rfl (by repeat constructor)) rfl rfl rfl ?_
      first | refine aops_store rfl rfl (by first | exact .agg | exact .sl | exact .v rfl | exact .v (by assumption)) (by repeat (first | exact .here | apply UpdF.there)) rfl (by repeat constructor) ?_ | refine aops_store_own1 rfl rfl (by first | exact .sl | exact .v rfl | exact .v (by assumption)) (by repeat (first | exact .here | apply UpdF.there)) rfl (by simp only [List.length_set, List.length_map]; omega) ?_
      refine aops_nil ?_
      refine blockQ_n ?_
      refine seqQ_n ?_
      refine awp_region ?_
      refine aops_p (ap_arith rfl rfl rfl (by omega)) rfl rfl rfl ?_
      refine aops_p (ap_move rfl) rfl rfl rfl ?_
      refine aops_nil ?_
      refine seqQ_n ?_
      rw [mapi_snoc]
      refine ⟨k + 1, _, _, ⟨by omega, ?_⟩, by omega, wk (by repeat (first | exact .nil | refine .cons rfl ?_)) (by repeat (first | exact .nil | refine .cons (by first | exact .here | exact .there .here | exact .there (.there .here) | exact .there (.there (.there .here)) | exact .there (.there (.there (.there .here)))) ?_))⟩
      rw [hI, List.take_add_one, hx]; rfl
    · have hge : j ≤ k := by have := of_decide_eq_false hc; simp only [List.length_map] at this; omega
      obtain rfl : q = qs := by rw [hI]; exact List.take_of_length_le (by omega)
      have hqm : ∀ k ∈ q, 0 ≤ k ∧ k < (n : Int) := fun k hk => upTo_mem (hqp.subset (by rw [hqs] at hk; exact List.mem_of_mem_take hk))
      refine awp_exit ?_
      refine seqQ_x ?_
      refine seqQ_x ?_
      refine blockQ_x rfl ?_
      refine seqQ_n ?_
      refine awp_seq ?_
      refine awp_seq ?_
      refine awp_region ?_
      refine aops_p (ap_move rfl) rfl rfl rfl ?_
      refine aops_p (ap_cmp rfl rfl rfl) rfl rfl rfl ?_
      refine aops_nil ?_
      refine seqQ_n ?_
      refine awp_cond_t rfl (decide_eq_true (by omega)) ?_
      refine awp_seq ?_
      refine awp_seq ?_
      refine awp_region ?_
      refine aops_p (ap_move rfl) rfl rfl rfl ?_
      refine aops_lit (e := 3) (sz := 1) (by_ := 8) rfl rfl (by repeat constructor) rfl rfl rfl rfl ?_
      (refine aops_call (by repeat constructor) (Pick_con _ _ _ [0,0,1,1,2,3] (by decide)) (by repeat (first | exact .nil | exact Split.none _ | apply Split.left | apply Split.right)) rfl rfl ?_; rintro _ _ ⟨r37, a37, rfl, hr37, rfl⟩)
      refine aops_p (ap_assign rfl) rfl rfl rfl ?_
      have hr37b : 0 ≤ r37 ∧ r37 ≤ 3 := by simp at hr37; omega
      refine aops_nil ?_
      refine seqQ_n ?_
      refine awp_block ?_
      refine awp_loop4 [0, 1, 2, 6, 7] [.box b6 _ _, .arr v 3 1 (q.map .i)] (fun (i : Int) (v2 : Value) (q2 : List Trust) (a : Nat) r => (11, .i i) :: r) (fun (i : Int) (v2 : Value) (q2 : List Trust) (a : Nat) r => .box b7 27 [.i 0, .v v, .v v2] :: .arr v2 27 3 (avs q2) :: .box b 104 [.sl 1 (l.map .i), .i ((a : Nat) : Int)] :: r) (fun (i : Int) (v2 : Value) (q2 : List Trust) (a : Nat) => (0 ≤ i ∧ q2.length + i ≤ 3) ∧ ∀ x ∈ q2, GT n m x) (fun (i : Int) (v2 : Value) (q2 : List Trust) (a : Nat) => i.toNat) (r37) (.slice none 0 0) ([]) (a37) (by repeat constructor) ⟨by simp; omega, by simp⟩ (wk (by repeat (first | exact .nil | refine .cons rfl ?_)) (by repeat (first | exact .nil | refine .cons (by first | exact .here | exact .there .here | exact .there (.there .here) | exact .there (.there (.there .here)) | exact .there (.there (.there (.there .here)))) ?_))) ?_
      intro i v2 q2 a ⟨hi, hI⟩
      have hal : (avs q2).length = q2.length := avs_len _
      have hml : (q.map D.i).length = q.length := by simp
      refine awp_seq ?_
      refine awp_seq ?_
      refine awp_region ?_
      refine aops_p (ap_move rfl) rfl rfl rfl ?_
      refine aops_p (ap_cmp rfl rfl rfl) rfl rfl rfl ?_
      refine aops_nil ?_
      refine seqQ_n ?_
      refine awp_cond rfl (fun hc => ?_) (fun hc => ?_)
      · have hpos := of_decide_eq_true hc
        refine awp_skip ?_
        refine seqQ_n ?_
        refine awp_seq ?_
        refine awp_block ?_
        refine awp_draw (Hm := [.box b7 _ _, .arr v2 _ _ _, .box b _ _]) (by kernel_rfl) (by repeat (first | exact .nil | exact Split.none _ | apply Split.left | apply Split.right)) ?_
        first | refine aany_take 0 rfl (.none rfl) (by kernel_rfl) (by kernel_rfl) (by kernel_rfl) (AP.ar (ap_fieldAddr (off := 2) (sz := 1) (g := false) rfl rfl)) rfl rfl ?_ | refine aany_take 0 rfl (.none rfl) (by kernel_rfl) (by kernel_rfl) (by kernel_rfl) (AP.ar (ap_fieldAddr_el (off := 2) (sz := 1) (g := false) rfl rfl (by repeat constructor))) rfl rfl ?_
        refine aany_take 2 rfl (.none rfl) (by kernel_rfl) (by kernel_rfl) (by kernel_rfl) (AP.ar (ap_move rfl)) rfl rfl ?_
        refine aany_take 3 rfl (.none rfl) (by kernel_rfl) (by kernel_rfl) (by kernel_rfl) (AP.ar (ap_move rfl)) rfl rfl ?_
        refine aany_take 4 rfl (.none rfl) (by kernel_rfl) (by kernel_rfl) (by kernel_rfl) (AP.ar (ap_move rfl)) rfl rfl ?_
        refine aany_take 5 rfl (.none rfl) (by kernel_rfl) (by kernel_rfl) (by kernel_rfl) (AP.ar (ap_arith (m := (m : Int) + 1) rfl rfl (by simp only [addI, Option.some.injEq]; omega) (by omega))) rfl rfl ?_
        refine aany_each2 1 6 (by kernel_rfl) rfl (.none rfl) ?_ rfl (.none rfl) ?_
        rotate_left
        case' _ =>
          (refine aops_call (by repeat constructor) (ih _ (by omega)) (by repeat (first | exact .nil | exact Split.none _ | apply Split.left | apply Split.right)) rfl rfl ?_; rintro _ _ ⟨tx, a48, rfl, htx, rfl⟩)
          refine aops_nil ?_
          refine aany_each2 1 7 (by kernel_rfl) rfl (.none rfl) ?_ rfl (.none rfl) ?_
          rotate_left
          case' _ =>
            refine aops_lit (e := 27) (sz := 3) (by_ := 56) rfl rfl (by repeat constructor) rfl rfl rfl rfl ?_
            refine aops_nil ?_
            refine aany_one 1 (by kernel_rfl) rfl (.none rfl) ?_
            first | refine aops_q (aq_load1 rfl (by repeat (first | exact .here | apply UpdF.there)) List.not_mem_nil rfl (by repeat constructor)) rfl rfl rfl ?_ | refine aops_q (aq_load_el1 rfl rfl (by first | exact .sl | exact .v rfl | exact .v (by assumption)) (fun _ h => absurd h List.not_mem_nil)) rfl rfl rfl ?_ | refine aops_q (aq_load_el1' rfl rfl (by first | exact .sl | exact .v rfl | exact .v (by assumption)) (fun _ h => absurd h List.not_mem_nil)) rfl rfl rfl ?_ | refine aops_q (aq_load_own1 rfl (by repeat (first | exact .here | apply UpdF.there)) List.not_mem_nil rfl (by first | with_reducible assumption | assumption | rfl) (by first | exact .sl | exact .v rfl | exact .v (by assumption))) rfl rfl rfl ?_
            refine aops_nil ?_
            refine aany_one 8 (by kernel_rfl) rfl (.none rfl) ?_
            first | refine aops_append (e := 27) (sz := 3) (by_ := 56) rfl (by repeat (first | exact .here | apply UpdF.there)) rfl rfl rfl rfl rfl (by simp only [List.length_cons, List.length_nil, List.length_append, List.length_map, avs_len]; omega) (fun v50 hv50 => ?_) | refine aops_append_nil (e := 27) (sz := 3) (by_ := 56) rfl rfl rfl rfl rfl rfl (by simp only [List.length_cons, List.length_nil, List.length_append, List.length_map, avs_len]; omega) (fun v50 hv50 => ?_)
            refine aops_nil ?_
            first | refine aany_take 9 rfl (.none rfl) (by kernel_rfl) (by kernel_rfl) (by kernel_rfl) (AP.ar (ap_fieldAddr (off := 2) (sz := 1) (g := false) rfl rfl)) rfl rfl ?_ | refine aany_take 9 rfl (.none rfl) (by kernel_rfl) (by kernel_rfl) (by kernel_rfl) (AP.ar (ap_fieldAddr_el (off := 2) (sz := 1) (g := false) rfl rfl (by repeat constructor))) rfl rfl ?_
            refine aany_one 10 (by kernel_rfl) rfl (.none rfl) ?_
            first | refine aops_store rfl rfl (by first | exact .agg | exact .sl | exact .v rfl | exact .v (by assumption)) (by repeat (first | exact .here | apply UpdF.there)) rfl (by repeat constructor) ?_ | refine aops_store_own1 rfl rfl (by first | exact .sl | exact .v rfl | exact .v (by assumption)) (by repeat (first | exact .here | apply UpdF.there)) rfl (by simp only [List.length_set, List.length_map]; omega) ?_
            refine aops_nil ?_
            refine aany_nil (by kernel_rfl) ?_
          rotate_right
          case' _ =>
            first | refine aops_q (aq_load1 rfl (by repeat (first | exact .here | apply UpdF.there)) List.not_mem_nil rfl (by repeat constructor)) rfl rfl rfl ?_ | refine aops_q (aq_load_el1 rfl rfl (by first | exact .sl | exact .v rfl | exact .v (by assumption)) (fun _ h => absurd h List.not_mem_nil)) rfl rfl rfl ?_ | refine aops_q (aq_load_el1' rfl rfl (by first | exact .sl | exact .v rfl | exact .v (by assumption)) (fun _ h => absurd h List.not_mem_nil)) rfl rfl rfl ?_ | refine aops_q (aq_load_own1 rfl (by repeat (first | exact .here | apply UpdF.there)) List.not_mem_nil rfl (by first | with_reducible assumption | assumption | rfl) (by first | exact .sl | exact .v rfl | exact .v (by assumption))) rfl rfl rfl ?_
            refine aops_nil ?_
            refine aany_one 7 (by kernel_rfl) rfl (.none rfl) ?_
            refine aops_lit (e := 27) (sz := 3) (by_ := 56) rfl rfl (by repeat constructor) rfl rfl rfl rfl ?_
            refine aops_nil ?_
            refine aany_one 8 (by kernel_rfl) rfl (.none rfl) ?_
            first | refine aops_append (e := 27) (sz := 3) (by_ := 56) rfl (by repeat (first | exact .here | apply UpdF.there)) rfl rfl rfl rfl rfl (by simp only [List.length_cons, List.length_nil, List.length_append, List.length_map, avs_len]; omega) (fun v50 hv50 => ?_) | refine aops_append_nil (e := 27) (sz := 3) (by_ := 56) rfl rfl rfl rfl rfl rfl (by simp only [List.length_cons, List.length_nil, List.length_append, List.length_map, avs_len]; omega) (fun v50 hv50 => ?_)
            refine aops_nil ?_
            first | refine aany_take 9 rfl (.none rfl) (by kernel_rfl) (by kernel_rfl) (by kernel_rfl) (AP.ar (ap_fieldAddr (off := 2) (sz := 1) (g := false) rfl rfl)) rfl rfl ?_ | refine aany_take 9 rfl (.none rfl) (by kernel_rfl) (by kernel_rfl) (by kernel_rfl) (AP.ar (ap_fieldAddr_el (off := 2) (sz := 1) (g := false) rfl rfl (by repeat constructor))) rfl rfl ?_
            refine aany_one 10 (by kernel_rfl) rfl (.none rfl) ?_
            first | refine aops_store rfl rfl (by first | exact .agg | exact .sl | exact .v rfl | exact .v (by assumption)) (by repeat (first | exact .here | apply UpdF.there)) rfl (by repeat constructor) ?_ | refine aops_store_own1 rfl rfl (by first | exact .sl | exact .v rfl | exact .v (by assumption)) (by repeat (first | exact .here | apply UpdF.there)) rfl (by simp only [List.length_set, List.length_map]; omega) ?_
            refine aops_nil ?_
            refine aany_nil (by kernel_rfl) ?_
        rotate_right
        case' _ =>
          first | refine aops_q (aq_load1 rfl (by repeat (first | exact .here | apply UpdF.there)) List.not_mem_nil rfl (by repeat constructor)) rfl rfl rfl ?_ | refine aops_q (aq_load_el1 rfl rfl (by first | exact .sl | exact .v rfl | exact .v (by assumption)) (fun _ h => absurd h List.not_mem_nil)) rfl rfl rfl ?_ | refine aops_q (aq_load_el1' rfl rfl (by first | exact .sl | exact .v rfl | exact .v (by assumption)) (fun _ h => absurd h List.not_mem_nil)) rfl rfl rfl ?_ | refine aops_q (aq_load_own1 rfl (by repeat (first | exact .here | apply UpdF.there)) List.not_mem_nil rfl (by first | with_reducible assumption | assumption | rfl) (by first | exact .sl | exact .v rfl | exact .v (by assumption))) rfl rfl rfl ?_
          refine aops_nil ?_
          refine aany_one 6 (by kernel_rfl) rfl (.none rfl) ?_
          (refine aops_call (by repeat constructor) (ih _ (by omega)) (by repeat (first | exact .nil | exact Split.none _ | apply Split.left | apply Split.right)) rfl rfl ?_; rintro _ _ ⟨tx, a48, rfl, htx, rfl⟩)
          refine aops_nil ?_
          refine aany_one 7 (by kernel_rfl) rfl (.none rfl) ?_
          refine aops_lit (e := 27) (sz := 3) (by_ := 56) rfl rfl (by repeat constructor) rfl rfl rfl rfl ?_
          refine aops_nil ?_
          refine aany_one 8 (by kernel_rfl) rfl (.none rfl) ?_
          first | refine aops_append (e := 27) (sz := 3) (by_ := 56) rfl (by repeat (first | exact .here | apply UpdF.there)) rfl rfl rfl rfl rfl (by simp only [List.length_cons, List.length_nil, List.length_append, List.length_map, avs_len]; omega) (fun v50 hv50 => ?_) | refine aops_append_nil (e := 27) (sz := 3) (by_ := 56) rfl rfl rfl rfl rfl rfl (by simp only [List.length_cons, List.length_nil, List.length_append, List.length_map, avs_len]; omega) (fun v50 hv50 => ?_)
          refine aops_nil ?_
          first | refine aany_take 9 rfl (.none rfl) (by kernel_rfl) (by kernel_rfl) (by kernel_rfl) (AP.ar (ap_fieldAddr (off := 2) (sz := 1) (g := false) rfl rfl)) rfl rfl ?_ | refine aany_take 9 rfl (.none rfl) (by kernel_rfl) (by kernel_rfl) (by kernel_rfl) (AP.ar (ap_fieldAddr_el (off := 2) (sz := 1) (g := false) rfl rfl (by repeat constructor))) rfl rfl ?_
          refine aany_one 10 (by kernel_rfl) rfl (.none rfl) ?_
          first | refine aops_store rfl rfl (by first | exact .agg | exact .sl | exact .v rfl | exact .v (by assumption)) (by repeat (first | exact .here | apply UpdF.there)) rfl (by repeat constructor) ?_ | refine aops_store_own1 rfl rfl (by first | exact .sl | exact .v rfl | exact .v (by assumption)) (by repeat (first | exact .here | apply UpdF.there)) rfl (by simp only [List.length_set, List.length_map]; omega) ?_
          refine aops_nil ?_
          refine aany_nil (by kernel_rfl) ?_
        all_goals (
          refine blockQ_n ?_
          refine seqQ_n ?_
          refine awp_region ?_
          refine aops_p (ap_move rfl) rfl rfl rfl ?_
          refine aops_p (ap_arith rfl rfl rfl (by omega)) rfl rfl rfl ?_
          refine aops_p (ap_assign rfl) rfl rfl rfl ?_
          refine aops_nil ?_
          refine seqQ_n ?_
          rw [avs_snoc]
          refine ⟨i - 1, _, _, _, ⟨by simp only [List.length_append, List.length_cons, List.length_nil]; omega, snoc_mem hI htx⟩, by omega, wk (by repeat (first | exact .nil | refine .cons rfl ?_)) (by repeat (first | exact .nil | refine .cons (by first | exact .here | exact .there .here | exact .there (.there .here) | exact .there (.there (.there .here)) | exact .there (.there (.there (.there .here)))) ?_))⟩
          )
      · refine awp_exit ?_
        refine seqQ_x ?_
        refine seqQ_x ?_
        refine blockQ_x rfl ?_
        refine seqQ_n ?_
        refine awp_seq ?_
        refine awp_region ?_
        first | refine aops_p (ap_fieldAddr (off := 2) (sz := 1) (g := false) rfl rfl) rfl rfl rfl ?_ | refine aops_p (ap_fieldAddr_el (off := 2) (sz := 1) (g := false) rfl rfl (by repeat constructor)) rfl rfl rfl ?_
        first | refine aops_q (aq_load1 rfl (by repeat (first | exact .here | apply UpdF.there)) List.not_mem_nil rfl (by repeat constructor)) rfl rfl rfl ?_ | refine aops_q (aq_load_el1 rfl rfl (by first | exact .sl | exact .v rfl | exact .v (by assumption)) (fun _ h => absurd h List.not_mem_nil)) rfl rfl rfl ?_ | refine aops_q (aq_load_el1' rfl rfl (by first | exact .sl | exact .v rfl | exact .v (by assumption)) (fun _ h => absurd h List.not_mem_nil)) rfl rfl rfl ?_ | refine aops_q (aq_load_own1 rfl (by repeat (first | exact .here | apply UpdF.there)) List.not_mem_nil rfl (by first | with_reducible assumption | assumption | rfl) (by first | exact .sl | exact .v rfl | exact .v (by assumption))) rfl rfl rfl ?_
        first | refine aops_len rfl rfl rfl rfl (fun _ => ?_) | refine aops_p (ap_len_arr rfl (by repeat (first | exact .here | apply UpdF.there)) rfl) rfl rfl rfl ?_ | refine aops_p (ap_len_nil rfl rfl) rfl rfl rfl ?_
        refine aops_p (ap_cmp rfl rfl rfl) rfl rfl rfl ?_
        refine aops_p (ap_move rfl) rfl rfl rfl ?_
        all_goals (first | (refine aops_yes rfl rfl rfl rfl (by first | with_reducible assumption | with_reducible exact rfl | decide | (refine decide_eq_true ?_; omega) | (refine decide_eq_false ?_; omega)) ?_; (refine aops_p (ap_move rfl) rfl rfl rfl ?_)) | refine aops_no_u rfl rfl rfl ?_ | refine aops_no_t rfl rfl rfl rfl (by first | with_reducible assumption | with_reducible exact rfl | decide | (refine decide_eq_true ?_; omega) | (refine decide_eq_false ?_; omega)) ?_ | (refine aops_guard_t rfl rfl rfl rfl (fun hg => ?_) (fun hg => ?_); case' _ => (refine aops_p (ap_move rfl) rfl rfl rfl ?_)))
        all_goals (first | (refine aops_yes rfl rfl rfl rfl (by first | with_reducible assumption | with_reducible exact rfl | decide | (refine decide_eq_true ?_; omega) | (refine decide_eq_false ?_; omega)) ?_; ((refine aops_call (by repeat constructor) (N_con _ _ _ _ (by omega)) (by repeat (first | exact .nil | exact Split.none _ | apply Split.left | apply Split.right)) rfl rfl ?_; rintro _ _ ⟨r58, a58, rfl, hr58, rfl⟩))) | refine aops_no_u rfl rfl rfl ?_ | refine aops_no_t rfl rfl rfl rfl (by first | with_reducible assumption | with_reducible exact rfl | decide | (refine decide_eq_true ?_; omega) | (refine decide_eq_false ?_; omega)) ?_ | (refine aops_guard_t rfl rfl rfl rfl (fun hg => ?_) (fun hg => ?_); case' _ => ((refine aops_call (by repeat constructor) (N_con _ _ _ _ (by omega)) (by repeat (first | exact .nil | exact Split.none _ | apply Split.left | apply Split.right)) rfl rfl ?_; rintro _ _ ⟨r58, a58, rfl, hr58, rfl⟩))))
        all_goals (first | (refine aops_yes rfl rfl rfl rfl (by first | with_reducible assumption | with_reducible exact rfl | decide | (refine decide_eq_true ?_; omega) | (refine decide_eq_false ?_; omega)) ?_; (refine aops_p (ap_cmp rfl rfl rfl) rfl rfl rfl ?_)) | refine aops_no_u rfl rfl rfl ?_ | refine aops_no_t rfl rfl rfl rfl (by first | with_reducible assumption | with_reducible exact rfl | decide | (refine decide_eq_true ?_; omega) | (refine decide_eq_false ?_; omega)) ?_ | (refine aops_guard_t rfl rfl rfl rfl (fun hg => ?_) (fun hg => ?_); case' _ => (refine aops_p (ap_cmp rfl rfl rfl) rfl rfl rfl ?_)))
        all_goals (first | refine aops_p (ap_pick_true rfl (by first | with_reducible assumption | with_reducible exact rfl | decide | (refine decide_eq_true ?_; omega) | (refine decide_eq_false ?_; omega)) rfl) rfl rfl rfl ?_ | refine aops_p (ap_pick_false rfl (by first | with_reducible assumption | with_reducible exact rfl | decide | (refine decide_eq_true ?_; omega) | (refine decide_eq_false ?_; omega)) rfl) rfl rfl rfl ?_)
        all_goals ((try have hgt := of_decide_eq_true hg))
        all_goals (
          refine aops_nil ?_
          refine seqQ_n ?_
          refine awp_cond rfl (fun hc => ?_) (fun hc => ?_)
          · first
            | (exact absurd hc (by decide))
            | (refine awp_region ?_
               first | refine aops_p (ap_fieldAddr (off := 1) (sz := 1) (g := false) rfl rfl) rfl rfl rfl ?_ | refine aops_p (ap_fieldAddr_el (off := 1) (sz := 1) (g := false) rfl rfl (by repeat constructor)) rfl rfl rfl ?_
               first | refine aops_store rfl rfl (by first | exact .agg | exact .sl | exact .v rfl | exact .v (by assumption)) (by repeat (first | exact .here | apply UpdF.there)) rfl (by repeat constructor) ?_ | refine aops_store_own1 rfl rfl (by first | exact .sl | exact .v rfl | exact .v (by assumption)) (by repeat (first | exact .here | apply UpdF.there)) rfl (by simp only [List.length_set, List.length_map]; omega) ?_
               refine aops_nil ?_
               refine seqQ_n ?_
               refine awp_seq ?_
               refine awp_region ?_
               refine aops_p (ap_move rfl) rfl rfl rfl ?_
               first | refine aops_p (ap_fieldAddr (off := 1) (sz := 1) (g := false) rfl rfl) rfl rfl rfl ?_ | refine aops_p (ap_fieldAddr_el (off := 1) (sz := 1) (g := false) rfl rfl (by repeat constructor)) rfl rfl rfl ?_
               first | refine aops_q (aq_load1 rfl (by repeat (first | exact .here | apply UpdF.there)) List.not_mem_nil rfl (by repeat constructor)) rfl rfl rfl ?_ | refine aops_q (aq_load_el1 rfl rfl (by first | exact .sl | exact .v rfl | exact .v (by assumption)) (fun _ h => absurd h List.not_mem_nil)) rfl rfl rfl ?_ | refine aops_q (aq_load_el1' rfl rfl (by first | exact .sl | exact .v rfl | exact .v (by assumption)) (fun _ h => absurd h List.not_mem_nil)) rfl rfl rfl ?_ | refine aops_q (aq_load_own1 rfl (by repeat (first | exact .here | apply UpdF.there)) List.not_mem_nil rfl (by first | with_reducible assumption | assumption | rfl) (by first | exact .sl | exact .v rfl | exact .v (by assumption))) rfl rfl rfl ?_
               first | refine aops_len rfl rfl rfl rfl (fun _ => ?_) | refine aops_p (ap_len_arr rfl (by repeat (first | exact .here | apply UpdF.there)) rfl) rfl rfl rfl ?_ | refine aops_p (ap_len_nil rfl rfl) rfl rfl rfl ?_
               first | refine aops_p (ap_fieldAddr (off := 2) (sz := 1) (g := false) rfl rfl) rfl rfl rfl ?_ | refine aops_p (ap_fieldAddr_el (off := 2) (sz := 1) (g := false) rfl rfl (by repeat constructor)) rfl rfl rfl ?_
               first | refine aops_q (aq_load1 rfl (by repeat (first | exact .here | apply UpdF.there)) List.not_mem_nil rfl (by repeat constructor)) rfl rfl rfl ?_ | refine aops_q (aq_load_el1 rfl rfl (by first | exact .sl | exact .v rfl | exact .v (by assumption)) (fun _ h => absurd h List.not_mem_nil)) rfl rfl rfl ?_ | refine aops_q (aq_load_el1' rfl rfl (by first | exact .sl | exact .v rfl | exact .v (by assumption)) (fun _ h => absurd h List.not_mem_nil)) rfl rfl rfl ?_ | refine aops_q (aq_load_own1 rfl (by repeat (first | exact .here | apply UpdF.there)) List.not_mem_nil rfl (by first | with_reducible assumption | assumption | rfl) (by first | exact .sl | exact .v rfl | exact .v (by assumption))) rfl rfl rfl ?_
               first | refine aops_len rfl rfl rfl rfl (fun _ => ?_) | refine aops_p (ap_len_arr rfl (by repeat (first | exact .here | apply UpdF.there)) rfl) rfl rfl rfl ?_ | refine aops_p (ap_len_nil rfl rfl) rfl rfl rfl ?_
               refine aops_p (ap_arith rfl rfl rfl (by omega)) rfl rfl rfl ?_
               (refine aops_call (by repeat constructor) (Range_con _ _ _ _ _ (by omega)) (by repeat (first | exact .nil | exact Split.none _ | apply Split.left | apply Split.right)) rfl rfl ?_; rintro _ _ ⟨r70, a70, rfl, hr70, rfl⟩)
               first | refine aops_p (ap_fieldAddr (off := 0) (sz := 1) (g := false) rfl rfl) rfl rfl rfl ?_ | refine aops_p (ap_fieldAddr_el (off := 0) (sz := 1) (g := false) rfl rfl (by repeat constructor)) rfl rfl rfl ?_
               first | refine aops_store rfl rfl (by first | exact .agg | exact .sl | exact .v rfl | exact .v (by assumption)) (by repeat (first | exact .here | apply UpdF.there)) rfl (by repeat constructor) ?_ | refine aops_store_own1 rfl rfl (by first | exact .sl | exact .v rfl | exact .v (by assumption)) (by repeat (first | exact .here | apply UpdF.there)) rfl (by simp only [List.length_set, List.length_map]; omega) ?_
               refine aops_nil ?_
               refine seqQ_n ?_
               refine awp_seq ?_
               refine awp_region ?_
               first | refine aops_q (aq_load rfl (by repeat (first | exact .here | apply UpdF.there)) List.not_mem_nil rfl rfl (by repeat constructor)) rfl rfl rfl ?_ | refine aops_q (aq_load_el rfl rfl rfl rfl (fun _ h => absurd h List.not_mem_nil)) rfl rfl rfl ?_
               first | refine aops_store rfl rfl (by first | exact .agg | exact .sl | exact .v rfl | exact .v (by assumption)) (by repeat (first | exact .here | apply UpdF.there)) rfl (by repeat constructor) ?_ | refine aops_store_own1 rfl rfl (by first | exact .sl | exact .v rfl | exact .v (by assumption)) (by repeat (first | exact .here | apply UpdF.there)) rfl (by simp only [List.length_set, List.length_map]; omega) ?_
               refine aops_nil ?_
               refine seqQ_n ?_
               refine awp_own 3 1 rfl ?_; refine awp_freeze (.slice none 0 0) [6,7] (by repeat (first | exact .here | apply Rem.there)) (by repeat (first | exact .nil | apply SelC.cons rfl (by first | exact Cv.fz | (apply Cv.agg; repeat (first | exact CvL.nil | apply CvL.cons (by first | exact Cv.fz | exact Cv.same))) | exact Cv.same))) (by repeat (first | exact .nil | apply HeapA.box (by repeat (first | exact CvL.nil | apply CvL.cons (by first | exact Cv.fz | exact Cv.same))) | apply HeapA.arr)) ?_; refine awp_freeze v2 [6,7] (by repeat (first | exact .here | apply Rem.there)) (by repeat (first | exact .nil | apply SelC.cons rfl (by first | exact Cv.fz | (apply Cv.agg; repeat (first | exact CvL.nil | apply CvL.cons (by first | exact Cv.fz | exact Cv.same))) | exact Cv.same))) (by repeat (first | exact .nil | apply HeapA.box (by repeat (first | exact CvL.nil | apply CvL.cons (by first | exact Cv.fz | exact Cv.same))) | apply HeapA.arr)) ?_
               refine awp_ret ?_
               first | exact post_ret (.cell rfl (by repeat (first | exact .here | apply UpdF.there)) rfl rfl .nil) (by repeat (first | exact .nil | refine .cons (by first | exact .here | exact .there .here | exact .there (.there .here) | exact .there (.there (.there .here)) | exact .there (.there (.there (.there .here)))) ?_)) ⟨.mk _ q q2, _, rfl, GT_node hqm (by omega) hI (by omega), rfl⟩ | exact post_ret (.cell rfl (by repeat (first | exact .here | apply UpdF.there)) rfl rfl .nil) (by repeat (first | exact .nil | refine .cons (by first | exact .here | exact .there .here | exact .there (.there .here) | exact .there (.there (.there .here)) | exact .there (.there (.there (.there .here)))) ?_)) ⟨.mk _ [] q2, _, rfl, GT_node (fun _ h => absurd h List.not_mem_nil) (by simp) hI (by omega), rfl⟩
              )
          · first
            | (exact absurd hc (by decide))
            | (refine awp_skip ?_
               refine seqQ_n ?_
               refine awp_seq ?_
               refine awp_region ?_
               refine aops_p (ap_move rfl) rfl rfl rfl ?_
               first | refine aops_p (ap_fieldAddr (off := 1) (sz := 1) (g := false) rfl rfl) rfl rfl rfl ?_ | refine aops_p (ap_fieldAddr_el (off := 1) (sz := 1) (g := false) rfl rfl (by repeat constructor)) rfl rfl rfl ?_
               first | refine aops_q (aq_load1 rfl (by repeat (first | exact .here | apply UpdF.there)) List.not_mem_nil rfl (by repeat constructor)) rfl rfl rfl ?_ | refine aops_q (aq_load_el1 rfl rfl (by first | exact .sl | exact .v rfl | exact .v (by assumption)) (fun _ h => absurd h List.not_mem_nil)) rfl rfl rfl ?_ | refine aops_q (aq_load_el1' rfl rfl (by first | exact .sl | exact .v rfl | exact .v (by assumption)) (fun _ h => absurd h List.not_mem_nil)) rfl rfl rfl ?_ | refine aops_q (aq_load_own1 rfl (by repeat (first | exact .here | apply UpdF.there)) List.not_mem_nil rfl (by first | with_reducible assumption | assumption | rfl) (by first | exact .sl | exact .v rfl | exact .v (by assumption))) rfl rfl rfl ?_
               first | refine aops_len rfl rfl rfl rfl (fun _ => ?_) | refine aops_p (ap_len_arr rfl (by repeat (first | exact .here | apply UpdF.there)) rfl) rfl rfl rfl ?_ | refine aops_p (ap_len_nil rfl rfl) rfl rfl rfl ?_
               first | refine aops_p (ap_fieldAddr (off := 2) (sz := 1) (g := false) rfl rfl) rfl rfl rfl ?_ | refine aops_p (ap_fieldAddr_el (off := 2) (sz := 1) (g := false) rfl rfl (by repeat constructor)) rfl rfl rfl ?_
               first | refine aops_q (aq_load1 rfl (by repeat (first | exact .here | apply UpdF.there)) List.not_mem_nil rfl (by repeat constructor)) rfl rfl rfl ?_ | refine aops_q (aq_load_el1 rfl rfl (by first | exact .sl | exact .v rfl | exact .v (by assumption)) (fun _ h => absurd h List.not_mem_nil)) rfl rfl rfl ?_ | refine aops_q (aq_load_el1' rfl rfl (by first | exact .sl | exact .v rfl | exact .v (by assumption)) (fun _ h => absurd h List.not_mem_nil)) rfl rfl rfl ?_ | refine aops_q (aq_load_own1 rfl (by repeat (first | exact .here | apply UpdF.there)) List.not_mem_nil rfl (by first | with_reducible assumption | assumption | rfl) (by first | exact .sl | exact .v rfl | exact .v (by assumption))) rfl rfl rfl ?_
               first | refine aops_len rfl rfl rfl rfl (fun _ => ?_) | refine aops_p (ap_len_arr rfl (by repeat (first | exact .here | apply UpdF.there)) rfl) rfl rfl rfl ?_ | refine aops_p (ap_len_nil rfl rfl) rfl rfl rfl ?_
               refine aops_p (ap_arith rfl rfl rfl (by omega)) rfl rfl rfl ?_
               (refine aops_call (by repeat constructor) (Range_con _ _ _ _ _ (by omega)) (by repeat (first | exact .nil | exact Split.none _ | apply Split.left | apply Split.right)) rfl rfl ?_; rintro _ _ ⟨r70, a70, rfl, hr70, rfl⟩)
               first | refine aops_p (ap_fieldAddr (off := 0) (sz := 1) (g := false) rfl rfl) rfl rfl rfl ?_ | refine aops_p (ap_fieldAddr_el (off := 0) (sz := 1) (g := false) rfl rfl (by repeat constructor)) rfl rfl rfl ?_
               first | refine aops_store rfl rfl (by first | exact .agg | exact .sl | exact .v rfl | exact .v (by assumption)) (by repeat (first | exact .here | apply UpdF.there)) rfl (by repeat constructor) ?_ | refine aops_store_own1 rfl rfl (by first | exact .sl | exact .v rfl | exact .v (by assumption)) (by repeat (first | exact .here | apply UpdF.there)) rfl (by simp only [List.length_set, List.length_map]; omega) ?_
               refine aops_nil ?_
               refine seqQ_n ?_
               refine awp_seq ?_
               refine awp_region ?_
               first | refine aops_q (aq_load rfl (by repeat (first | exact .here | apply UpdF.there)) List.not_mem_nil rfl rfl (by repeat constructor)) rfl rfl rfl ?_ | refine aops_q (aq_load_el rfl rfl rfl rfl (fun _ h => absurd h List.not_mem_nil)) rfl rfl rfl ?_
               first | refine aops_store rfl rfl (by first | exact .agg | exact .sl | exact .v rfl | exact .v (by assumption)) (by repeat (first | exact .here | apply UpdF.there)) rfl (by repeat constructor) ?_ | refine aops_store_own1 rfl rfl (by first | exact .sl | exact .v rfl | exact .v (by assumption)) (by repeat (first | exact .here | apply UpdF.there)) rfl (by simp only [List.length_set, List.length_map]; omega) ?_
               refine aops_nil ?_
               refine seqQ_n ?_
               refine awp_freeze v [6,7] (by repeat (first | exact .here | apply Rem.there)) (by repeat (first | exact .nil | apply SelC.cons rfl (by first | exact Cv.fz | (apply Cv.agg; repeat (first | exact CvL.nil | apply CvL.cons (by first | exact Cv.fz | exact Cv.same))) | exact Cv.same))) (by repeat (first | exact .nil | apply HeapA.box (by repeat (first | exact CvL.nil | apply CvL.cons (by first | exact Cv.fz | exact Cv.same))) | apply HeapA.arr)) ?_; refine awp_freeze v2 [6,7] (by repeat (first | exact .here | apply Rem.there)) (by repeat (first | exact .nil | apply SelC.cons rfl (by first | exact Cv.fz | (apply Cv.agg; repeat (first | exact CvL.nil | apply CvL.cons (by first | exact Cv.fz | exact Cv.same))) | exact Cv.same))) (by repeat (first | exact .nil | apply HeapA.box (by repeat (first | exact CvL.nil | apply CvL.cons (by first | exact Cv.fz | exact Cv.same))) | apply HeapA.arr)) ?_
               refine awp_ret ?_
               first | exact post_ret (.cell rfl (by repeat (first | exact .here | apply UpdF.there)) rfl rfl .nil) (by repeat (first | exact .nil | refine .cons (by first | exact .here | exact .there .here | exact .there (.there .here) | exact .there (.there (.there .here)) | exact .there (.there (.there (.there .here)))) ?_)) ⟨.mk _ q q2, _, rfl, GT_node hqm (by omega) hI (by omega), rfl⟩ | exact post_ret (.cell rfl (by repeat (first | exact .here | apply UpdF.there)) rfl rfl .nil) (by repeat (first | exact .nil | refine .cons (by first | exact .here | exact .there .here | exact .there (.there .here) | exact .there (.there (.there .here)) | exact .there (.there (.there (.there .here)))) ?_)) ⟨.mk _ [] q2, _, rfl, GT_node (fun _ h => absurd h List.not_mem_nil) (by simp) hI (by omega), rfl⟩
              )
          )
theorem Trust_con (b n m : Nat) (l : List Int) (hn : 1 ≤ n ∧ n ≤ 10) (hm : m ≤ 5) (a : Nat) : Con Try.prog 13 [.p b 0, .i n, .i ((m : Int) + 1)] [.box b 104 [.sl 1 (l.map .i), .i ((a : Nat) : Int)]] (fun d H => ∃ (t : Trust) (a' : Nat), d = av t ∧ OKT n t ∧ H = [.box b 104 [.sl 1 (l.map .i), .i ((a' : Nat) : Int)]]) := by
  have hcap : capB = 140737488355328 := rfl
  have hp4 : 4 ^ m ≤ 4 ^ 5 := Nat.pow_le_pow_right (by omega) hm
  have hp5 : 4 ^ 5 = 1024 := by decide
  refine con_intro Try.func13 rfl Try.call13 rfl ?_
  refine awp_seq ?_
  refine awp_region ?_
  refine aops_alloc rfl (by repeat constructor) rfl rfl (fun b6 => ?_)
  refine aops_nil ?_
  refine seqQ_n ?_
  refine awp_seq ?_
  refine awp_region ?_
  refine aops_p (ap_move rfl) rfl rfl rfl ?_
  refine aops_p (ap_move rfl) rfl rfl rfl ?_
  refine aops_p (ap_move rfl) rfl rfl rfl ?_
  (refine aops_call (by repeat constructor) (trust_con _ n _ hn m _ hm) (by repeat (first | exact .nil | exact Split.none _ | apply Split.left | apply Split.right)) rfl rfl ?_; rintro _ _ ⟨t11, a11, rfl, ht11, rfl⟩)
  refine aops_alloc rfl (by repeat constructor) rfl rfl (fun b7 => ?_)
  first | refine aops_store rfl rfl (by first | exact .agg | exact .sl | exact .v rfl | exact .v (by assumption)) (by repeat (first | exact .here | apply UpdF.there)) rfl (by repeat constructor) ?_ | refine aops_store_own1 rfl rfl (by first | exact .sl | exact .v rfl | exact .v (by assumption)) (by repeat (first | exact .here | apply UpdF.there)) rfl (by simp only [List.length_set, List.length_map]; omega) ?_
  refine aops_nil ?_
  refine seqQ_n ?_
  refine awp_seq ?_
  refine awp_seq ?_
  refine awp_region ?_
  first | refine aops_q (aq_load rfl (by repeat (first | exact .here | apply UpdF.there)) List.not_mem_nil rfl rfl (by repeat constructor)) rfl rfl rfl ?_ | refine aops_q (aq_load_el rfl rfl rfl rfl (fun _ h => absurd h List.not_mem_nil)) rfl rfl rfl ?_
  refine aops_call_v (by repeat constructor) (rvalidT_con _ (by have := ht11.2.1; omega)) rfl rfl ?_
  refine aops_p (ap_cmp rfl rfl rfl) rfl rfl rfl ?_
  refine aops_nil ?_
  refine seqQ_n ?_
  refine awp_cond rfl (fun hc => ?_) (fun hc => ?_)
  · refine awp_seq ?_
    refine awp_region ?_
    refine aops_p (ap_move rfl) rfl rfl rfl ?_
    refine aops_p (ap_move rfl) rfl rfl rfl ?_
    (refine aops_call (by repeat constructor) (N_con _ _ _ _ (by omega)) (by repeat (first | exact .nil | exact Split.none _ | apply Split.left | apply Split.right)) rfl rfl ?_; rintro _ _ ⟨r17, a17, rfl, hr17, rfl⟩)
    refine aops_lit (e := 3) (sz := 1) (by_ := 8) rfl rfl (by repeat constructor) rfl rfl rfl rfl ?_
    refine aops_p (ap_build (by kernel_rfl) rfl (by repeat constructor) (by repeat (first | exact .nil | apply FillL.cons rfl (by first | exact .agg | exact .sl | exact .v rfl | exact .v (by assumption)) rfl (by repeat constructor)))) rfl rfl rfl ?_
    first | refine aops_store rfl rfl (by first | exact .agg | exact .sl | exact .v rfl | exact .v (by assumption)) (by repeat (first | exact .here | apply UpdF.there)) rfl (by repeat constructor) ?_ | refine aops_store_own1 rfl rfl (by first | exact .sl | exact .v rfl | exact .v (by assumption)) (by repeat (first | exact .here | apply UpdF.there)) rfl (by simp only [List.length_set, List.length_map]; omega) ?_
    refine aops_nil ?_
    refine seqQ_n ?_
    refine awp_unnil [6] 3 rfl (by repeat (first | exact .nil | apply SelC.cons rfl (by first | exact Cv.fz | (apply Cv.agg; repeat (first | exact CvL.nil | apply CvL.cons (by first | exact Cv.fz | exact Cv.same))) | exact Cv.same))) (by repeat (first | exact .nil | apply HeapA.box (by repeat (first | exact CvL.nil | apply CvL.cons (by first | exact Cv.fz | exact Cv.same))) | apply HeapA.arr)) ?_
    refine awp_ret ?_
    refine seqQ_r ?_
    exact post_ret (.cell rfl (by repeat (first | exact .here | apply UpdF.there)) rfl rfl .nil) (by repeat (first | exact .nil | refine .cons (by first | exact .here | exact .there .here | exact .there (.there .here) | exact .there (.there (.there .here)) | exact .there (.there (.there (.there .here)))) ?_)) ⟨.mk 1 [r17] [], _, rfl, OKT_leaf hn.2 hr17, rfl⟩
  · have hok : validT t11 = 0 := by simpa using hc
    refine awp_skip ?_
    refine seqQ_n ?_
    refine awp_seq ?_
    refine awp_region ?_
    first | refine aops_q (aq_load rfl (by repeat (first | exact .here | apply UpdF.there)) List.not_mem_nil rfl rfl (by repeat constructor)) rfl rfl rfl ?_ | refine aops_q (aq_load_el rfl rfl rfl rfl (fun _ h => absurd h List.not_mem_nil)) rfl rfl rfl ?_
    first | refine aops_store rfl rfl (by first | exact .agg | exact .sl | exact .v rfl | exact .v (by assumption)) (by repeat (first | exact .here | apply UpdF.there)) rfl (by repeat constructor) ?_ | refine aops_store_own1 rfl rfl (by first | exact .sl | exact .v rfl | exact .v (by assumption)) (by repeat (first | exact .here | apply UpdF.there)) rfl (by simp only [List.length_set, List.length_map]; omega) ?_
    refine aops_nil ?_
    refine seqQ_n ?_
    refine awp_ret ?_
    refine post_ret (.cell rfl (by repeat (first | exact .here | apply UpdF.there)) rfl rfl .nil) (by repeat (first | exact .nil | refine .cons (by first | exact .here | exact .there .here | exact .there (.there .here) | exact .there (.there (.there .here)) | exact .there (.there (.there (.there .here)))) ?_)) ⟨t11, _, rfl, OKT_of ht11.1 hok, rfl⟩
def tx : Trust := .mk 2 [0, 1] [.mk 1 [2, 3] []]
theorem not_t {c : Bool} (h : (!c) = true) : c = false := by simpa using h
theorem most_con (b n : Nat) (l : List Int) (hn : 1 ≤ n ∧ n ≤ 10) (a : Nat) : Con Try.prog 76 [.p b 0, .i n] [.box b 104 [.sl 1 (l.map .i), .i ((a : Nat) : Int)]] (fun d H => ∃ (t : Trust) (a' : Nat), d = av t ∧ OKT n t ∧ H = [.box b 104 [.sl 1 (l.map .i), .i ((a' : Nat) : Int)]]) := by
  have hcap : capB = 140737488355328 := rfl
  refine con_intro Try.func76 rfl Try.call76 rfl ?_
  refine awp_seq ?_
  refine awp_region ?_
  refine aops_alloc rfl (by repeat constructor) rfl rfl (fun b4 => ?_)
  refine aops_nil ?_
  refine seqQ_n ?_
  refine awp_seq ?_
  refine awp_region ?_
  refine aops_p (ap_build (by kernel_rfl) rfl (by repeat constructor) (by repeat (first | exact .nil | apply FillL.cons rfl (by first | exact .agg | exact .sl | exact .v rfl | exact .v (by assumption)) rfl (by repeat constructor)))) rfl rfl rfl ?_
  refine aops_alloc rfl (by repeat constructor) rfl rfl (fun b5 => ?_)
  first | refine aops_store rfl rfl (by first | exact .agg | exact .sl | exact .v rfl | exact .v (by assumption)) (by repeat (first | exact .here | apply UpdF.there)) rfl (by repeat constructor) ?_ | refine aops_store_own1 rfl rfl (by first | exact .sl | exact .v rfl | exact .v (by assumption)) (by repeat (first | exact .here | apply UpdF.there)) rfl (by simp only [List.length_set, List.length_map]; omega) ?_
  refine aops_nil ?_
  refine seqQ_n ?_
  refine awp_seq ?_
  refine awp_seq ?_
  refine awp_region ?_
  refine aops_p (ap_assign rfl) rfl rfl rfl ?_
  refine aops_nil ?_
  refine seqQ_n ?_
  refine awp_block ?_
  refine awp_loop4 [0, 1, 4, 5] [.box b4 _ _] (fun (k : Nat) (v : Value) (q : List Int) (a : Nat) r => (6, .i (k : Int)) :: r) (fun (k : Nat) (v : Value) (q : List Int) (a : Nat) r => .box b5 27 [.i 0, .v v, .nil] :: .arr v 3 1 (q.map .i) :: .box b 104 [.sl 1 (l.map .i), .i ((a : Nat) : Int)] :: r) (fun (k : Nat) (v : Value) (q : List Int) (a : Nat) => k ≤ n ∧ q.length ≤ k ∧ (∀ x ∈ q, 0 ≤ x ∧ x < (k : Int)) ∧ q.Nodup) (fun (k : Nat) (v : Value) (q : List Int) (a : Nat) => n - k) (0) (.slice none 0 0) ([]) (a) (by repeat constructor) ⟨by omega, by simp, by simp, by simp⟩ ((wk_own 3 1 rfl).trans (wk (by repeat (first | exact .nil | refine .cons rfl ?_)) (by repeat (first | exact .nil | refine .cons (by first | exact .here | exact .there .here | exact .there (.there .here) | exact .there (.there (.there .here)) | exact .there (.there (.there (.there .here)))) ?_)))) ?_
  intro k v q a ⟨hk, hql, hqm, hqd⟩
  have hml : (q.map D.i).length = q.length := by simp
  refine awp_seq ?_
  refine awp_seq ?_
  refine awp_region ?_
  refine aops_p (ap_move rfl) rfl rfl rfl ?_
  refine aops_p (ap_move rfl) rfl rfl rfl ?_
  refine aops_p (ap_cmp rfl rfl rfl) rfl rfl rfl ?_
  refine aops_nil ?_
  refine seqQ_n ?_
  refine awp_cond rfl (fun hc => ?_) (fun hc => ?_)
  · have hlt := of_decide_eq_true hc
    refine awp_skip ?_
    refine seqQ_n ?_
    refine awp_seq ?_
    refine awp_block ?_
    refine awp_seq ?_
    refine awp_region ?_
    refine aops_p (ap_move rfl) rfl rfl rfl ?_
    (refine aops_call (by repeat constructor) (N_con _ _ _ _ (by omega)) (by repeat (first | exact .nil | exact Split.none _ | apply Split.left | apply Split.right)) rfl rfl ?_; rintro _ _ ⟨r14, a14, rfl, hr14, rfl⟩)
    refine aops_p (ap_cmp rfl rfl rfl) rfl rfl rfl ?_
    refine aops_nil ?_
    refine seqQ_n ?_
    refine awp_cond rfl (fun hc => ?_) (fun hc => ?_)
    · refine awp_region ?_
      first | refine aops_p (ap_fieldAddr (off := 1) (sz := 1) (g := false) rfl rfl) rfl rfl rfl ?_ | refine aops_p (ap_fieldAddr_el (off := 1) (sz := 1) (g := false) rfl rfl (by repeat constructor)) rfl rfl rfl ?_
      first | refine aops_q (aq_load1 rfl (by repeat (first | exact .here | apply UpdF.there)) List.not_mem_nil rfl (by repeat constructor)) rfl rfl rfl ?_ | refine aops_q (aq_load_el1 rfl rfl (by first | exact .sl | exact .v rfl | exact .v (by assumption)) (fun _ h => absurd h List.not_mem_nil)) rfl rfl rfl ?_ | refine aops_q (aq_load_el1' rfl rfl (by first | exact .sl | exact .v rfl | exact .v (by assumption)) (fun _ h => absurd h List.not_mem_nil)) rfl rfl rfl ?_ | refine aops_q (aq_load_own1 rfl (by repeat (first | exact .here | apply UpdF.there)) List.not_mem_nil rfl (by first | with_reducible assumption | assumption | rfl) (by first | exact .sl | exact .v rfl | exact .v (by assumption))) rfl rfl rfl ?_
      refine aops_p (ap_move rfl) rfl rfl rfl ?_
      refine aops_lit (e := 3) (sz := 1) (by_ := 8) rfl rfl (by repeat constructor) rfl rfl rfl rfl ?_
      first | refine aops_append (e := 3) (sz := 1) (by_ := 8) rfl (by repeat (first | exact .here | apply UpdF.there)) rfl rfl rfl rfl rfl (by simp only [List.length_cons, List.length_nil, List.length_append, List.length_map, avs_len]; omega) (fun v20 hv20 => ?_) | refine aops_append_nil (e := 3) (sz := 1) (by_ := 8) rfl rfl rfl rfl rfl rfl (by simp only [List.length_cons, List.length_nil, List.length_append, List.length_map, avs_len]; omega) (fun v20 hv20 => ?_)
      first | refine aops_p (ap_fieldAddr (off := 1) (sz := 1) (g := false) rfl rfl) rfl rfl rfl ?_ | refine aops_p (ap_fieldAddr_el (off := 1) (sz := 1) (g := false) rfl rfl (by repeat constructor)) rfl rfl rfl ?_
      first | refine aops_store rfl rfl (by first | exact .agg | exact .sl | exact .v rfl | exact .v (by assumption)) (by repeat (first | exact .here | apply UpdF.there)) rfl (by repeat constructor) ?_ | refine aops_store_own1 rfl rfl (by first | exact .sl | exact .v rfl | exact .v (by assumption)) (by repeat (first | exact .here | apply UpdF.there)) rfl (by simp only [List.length_set, List.length_map]; omega) ?_
      refine aops_nil ?_
      refine blockQ_n ?_
      refine seqQ_n ?_
      refine awp_region ?_
      refine aops_p (ap_move rfl) rfl rfl rfl ?_
      refine aops_p (ap_arith rfl rfl rfl (by omega)) rfl rfl rfl ?_
      refine aops_p (ap_assign rfl) rfl rfl rfl ?_
      refine aops_nil ?_
      refine seqQ_n ?_
      first | (rw [mapi_snoc]; refine ⟨k + 1, _, q ++ [(k : Int)], _, ⟨by omega, by simp only [List.length_append, List.length_cons, List.length_nil]; omega, snoc_mem (fun y hy => by have := hqm y hy; omega) (by omega), nodup_snoc hqd (fun y hy => (hqm y hy).2) (by omega)⟩, by omega, wk (by repeat (first | exact .nil | refine .cons rfl ?_)) (by repeat (first | exact .nil | refine .cons (by first | exact .here | exact .there .here | exact .there (.there .here) | exact .there (.there (.there .here)) | exact .there (.there (.there (.there .here)))) ?_))⟩) | refine ⟨k + 1, _, q, _, ⟨by omega, by omega, fun y hy => by have := hqm y hy; omega, hqd⟩, by omega, wk (by repeat (first | exact .nil | refine .cons rfl ?_)) (by repeat (first | exact .nil | refine .cons (by first | exact .here | exact .there .here | exact .there (.there .here) | exact .there (.there (.there .here)) | exact .there (.there (.there (.there .here)))) ?_))⟩
    · refine awp_skip ?_
      refine blockQ_n ?_
      refine seqQ_n ?_
      refine awp_region ?_
      refine aops_p (ap_move rfl) rfl rfl rfl ?_
      refine aops_p (ap_arith rfl rfl rfl (by omega)) rfl rfl rfl ?_
      refine aops_p (ap_assign rfl) rfl rfl rfl ?_
      refine aops_nil ?_
      refine seqQ_n ?_
      first | (rw [mapi_snoc]; refine ⟨k + 1, _, q ++ [(k : Int)], _, ⟨by omega, by simp only [List.length_append, List.length_cons, List.length_nil]; omega, snoc_mem (fun y hy => by have := hqm y hy; omega) (by omega), nodup_snoc hqd (fun y hy => (hqm y hy).2) (by omega)⟩, by omega, wk (by repeat (first | exact .nil | refine .cons rfl ?_)) (by repeat (first | exact .nil | refine .cons (by first | exact .here | exact .there .here | exact .there (.there .here) | exact .there (.there (.there .here)) | exact .there (.there (.there (.there .here)))) ?_))⟩) | refine ⟨k + 1, _, q, _, ⟨by omega, by omega, fun y hy => by have := hqm y hy; omega, hqd⟩, by omega, wk (by repeat (first | exact .nil | refine .cons rfl ?_)) (by repeat (first | exact .nil | refine .cons (by first | exact .here | exact .there .here | exact .there (.there .here) | exact .there (.there (.there .here)) | exact .there (.there (.there (.there .here)))) ?_))⟩
  · refine awp_exit ?_
    refine seqQ_x ?_
    refine seqQ_x ?_
    refine blockQ_x rfl ?_
    refine seqQ_n ?_
    refine awp_seq ?_
    refine awp_seq ?_
    refine awp_region ?_
    first | refine aops_p (ap_fieldAddr (off := 1) (sz := 1) (g := false) rfl rfl) rfl rfl rfl ?_ | refine aops_p (ap_fieldAddr_el (off := 1) (sz := 1) (g := false) rfl rfl (by repeat constructor)) rfl rfl rfl ?_
    first | refine aops_q (aq_load1 rfl (by repeat (first | exact .here | apply UpdF.there)) List.not_mem_nil rfl (by repeat constructor)) rfl rfl rfl ?_ | refine aops_q (aq_load_el1 rfl rfl (by first | exact .sl | exact .v rfl | exact .v (by assumption)) (fun _ h => absurd h List.not_mem_nil)) rfl rfl rfl ?_ | refine aops_q (aq_load_el1' rfl rfl (by first | exact .sl | exact .v rfl | exact .v (by assumption)) (fun _ h => absurd h List.not_mem_nil)) rfl rfl rfl ?_ | refine aops_q (aq_load_own1 rfl (by repeat (first | exact .here | apply UpdF.there)) List.not_mem_nil rfl (by first | with_reducible assumption | assumption | rfl) (by first | exact .sl | exact .v rfl | exact .v (by assumption))) rfl rfl rfl ?_
    first | refine aops_len rfl rfl rfl rfl (fun _ => ?_) | refine aops_p (ap_len_arr rfl (by repeat (first | exact .here | apply UpdF.there)) rfl) rfl rfl rfl ?_ | refine aops_p (ap_len_nil rfl rfl) rfl rfl rfl ?_
    refine aops_p (ap_cmp rfl rfl rfl) rfl rfl rfl ?_
    refine aops_nil ?_
    refine seqQ_n ?_
    refine awp_cond rfl (fun hc => ?_) (fun hc => ?_)
    rotate_left
    case' _ =>
      obtain ⟨p, hp⟩ : ∃ p : List Int, p = q := ⟨_, rfl⟩
      have hpl : 1 ≤ p.length ∧ p.length ≤ 10 := by have := of_decide_eq_false hc; rw [hp]; omega
      have hpd : p.Nodup := by rw [hp]; exact hqd
      have hpm : ∀ x ∈ p, 0 ≤ x ∧ x < (n : Int) := fun y hy => by have := hqm y (hp ▸ hy); omega
      refine awp_skip ?_
    rotate_right
    case' _ =>
      obtain ⟨p, hp⟩ : ∃ p : List Int, p = [0] := ⟨_, rfl⟩
      have hpl : 1 ≤ p.length ∧ p.length ≤ 10 := by rw [hp]; simp
      have hpd : p.Nodup := by rw [hp]; simp
      have hpm : ∀ x ∈ p, 0 ≤ x ∧ x < (n : Int) := by rw [hp]; simp; omega
      refine awp_region ?_
      refine aops_lit (e := 3) (sz := 1) (by_ := 8) rfl rfl (by repeat constructor) rfl rfl rfl rfl ?_
      first | refine aops_p (ap_fieldAddr (off := 1) (sz := 1) (g := false) rfl rfl) rfl rfl rfl ?_ | refine aops_p (ap_fieldAddr_el (off := 1) (sz := 1) (g := false) rfl rfl (by repeat constructor)) rfl rfl rfl ?_
      first | refine aops_store rfl rfl (by first | exact .agg | exact .sl | exact .v rfl | exact .v (by assumption)) (by repeat (first | exact .here | apply UpdF.there)) rfl (by repeat constructor) ?_ | refine aops_store_own1 rfl rfl (by first | exact .sl | exact .v rfl | exact .v (by assumption)) (by repeat (first | exact .here | apply UpdF.there)) rfl (by simp only [List.length_set, List.length_map]; omega) ?_
      refine aops_nil ?_
    all_goals (
      refine seqQ_n ?_
      refine awp_seq ?_
      refine awp_freeze v [0,4,5] (by repeat (first | exact .here | apply Rem.there)) (by repeat (first | exact .nil | apply SelC.cons rfl (by first | exact Cv.fz | (apply Cv.agg; repeat (first | exact CvL.nil | apply CvL.cons (by first | exact Cv.fz | exact Cv.same))) | exact Cv.same))) (by repeat (first | exact .nil | apply HeapA.box (by repeat (first | exact CvL.nil | apply CvL.cons (by first | exact Cv.fz | exact Cv.same))) | apply HeapA.arr)) ?_
      first | (rw [show [D.i 0] = p.map D.i from by rw [hp]; rfl]) | rw [← hp]
      have hml2 : (p.map D.i).length = p.length := by simp
      refine awp_draw (Hm := [.box b5 _ _, .box b _ _]) (by kernel_rfl) (by repeat (first | exact .nil | exact Split.none _ | apply Split.left | apply Split.right)) ?_
      first | refine aany_take 0 rfl (.none rfl) (by kernel_rfl) (by kernel_rfl) (by kernel_rfl) (AP.ar (ap_fieldAddr (off := 1) (sz := 1) (g := false) rfl rfl)) rfl rfl ?_ | refine aany_take 0 rfl (.none rfl) (by kernel_rfl) (by kernel_rfl) (by kernel_rfl) (AP.ar (ap_fieldAddr_el (off := 1) (sz := 1) (g := false) rfl rfl (by repeat constructor))) rfl rfl ?_
      first | refine aany_take 3 rfl (.none rfl) (by kernel_rfl) (by kernel_rfl) (by kernel_rfl) (AP.ar (ap_fieldAddr (off := 1) (sz := 1) (g := false) rfl rfl)) rfl rfl ?_ | refine aany_take 3 rfl (.none rfl) (by kernel_rfl) (by kernel_rfl) (by kernel_rfl) (AP.ar (ap_fieldAddr_el (off := 1) (sz := 1) (g := false) rfl rfl (by repeat constructor))) rfl rfl ?_
      refine aany_take 9 rfl (.none rfl) (by kernel_rfl) (by kernel_rfl) (by kernel_rfl) (AP.ar (ap_move rfl)) rfl rfl ?_
      refine aany_each3 1 4 10 (by kernel_rfl) (cho rfl (.none rfl) ?_) (cho rfl (.none rfl) ?_) (cho rfl (.none rfl) ?_)
      rotate_left 2
      case' _ =>
        refine aops_lit (e := 3) (sz := 1) (by_ := 8) rfl rfl (by repeat constructor) rfl rfl rfl rfl ?_
        refine aops_nil ?_
        refine aany_each3 1 4 11 (by kernel_rfl) (cho rfl (.none rfl) ?_) (cho rfl (.none rfl) ?_) (cho rfl (.none rfl) ?_)
        rotate_left 2
        case' _ =>
          (refine aops_call (by repeat constructor) (Pick_con _ _ _ [0,0,0,1,-1] (by decide)) (by repeat (first | exact .nil | exact Split.none _ | apply Split.left | apply Split.right)) rfl rfl ?_; rintro _ _ ⟨r39, a39, rfl, hr39, rfl⟩; have hrb : -1 ≤ r39 ∧ r39 ≤ 1 := (by simp at hr39; omega))
          refine aops_nil ?_
          refine aany_each2 1 4 (by kernel_rfl) rfl (.none rfl) ?_ rfl (.none rfl) ?_
          rotate_left
          case' _ =>
            first | refine aops_q (aq_load1 rfl (by repeat (first | exact .here | apply UpdF.there)) List.not_mem_nil rfl (by repeat constructor)) rfl rfl rfl ?_ | refine aops_q (aq_load_el1 rfl rfl (by first | exact .sl | exact .v rfl | exact .v (by assumption)) (fun _ h => absurd h List.not_mem_nil)) rfl rfl rfl ?_ | refine aops_q (aq_load_el1' rfl rfl (by first | exact .sl | exact .v rfl | exact .v (by assumption)) (fun _ h => absurd h List.not_mem_nil)) rfl rfl rfl ?_ | refine aops_q (aq_load_own1 rfl (by repeat (first | exact .here | apply UpdF.there)) List.not_mem_nil rfl (by first | with_reducible assumption | assumption | rfl) (by first | exact .sl | exact .v rfl | exact .v (by assumption))) rfl rfl rfl ?_
            refine aops_nil ?_
            first | refine aany_take 5 rfl (.none rfl) (by kernel_rfl) (by kernel_rfl) (by kernel_rfl) (AP.ar (ap_len rfl rfl)) rfl rfl ?_ | refine aany_take 5 rfl (.none rfl) (by kernel_rfl) (by kernel_rfl) (by kernel_rfl) (ar_len_arr rfl (by repeat (first | exact .here | apply UpdF.there)) rfl) rfl rfl ?_ | refine aany_take 5 rfl (.none rfl) (by kernel_rfl) (by kernel_rfl) (by kernel_rfl) (AP.ar (ap_len_nil rfl rfl)) rfl rfl ?_
            refine aany_take 6 rfl (.none rfl) (by kernel_rfl) (by kernel_rfl) (by kernel_rfl) (AP.ar (ap_arith rfl rfl rfl (by omega))) rfl rfl ?_
            refine aany_take 7 rfl (.none rfl) (by kernel_rfl) (by kernel_rfl) (by kernel_rfl) (AP.ar (ap_arith rfl rfl rfl (by omega))) rfl rfl ?_
            refine aany_take 8 rfl (.none rfl) (by kernel_rfl) (by kernel_rfl) (by kernel_rfl) (AP.ar (ap_quon rfl rfl (by omega))) rfl rfl ?_
            refine aany_take 12 rfl (.none rfl) (by kernel_rfl) (by kernel_rfl) (by kernel_rfl) (AP.ar (ap_arith rfl rfl rfl (by omega))) rfl rfl ?_
            refine aany_take 13 rfl (.none rfl) (by kernel_rfl) (by kernel_rfl) (by kernel_rfl) (AP.ar (ap_max rfl rfl)) rfl rfl ?_
            refine aany_one 1 (by kernel_rfl) rfl (.none rfl) ?_
            first | refine aops_q (aq_load1 rfl (by repeat (first | exact .here | apply UpdF.there)) List.not_mem_nil rfl (by repeat constructor)) rfl rfl rfl ?_ | refine aops_q (aq_load_el1 rfl rfl (by first | exact .sl | exact .v rfl | exact .v (by assumption)) (fun _ h => absurd h List.not_mem_nil)) rfl rfl rfl ?_ | refine aops_q (aq_load_el1' rfl rfl (by first | exact .sl | exact .v rfl | exact .v (by assumption)) (fun _ h => absurd h List.not_mem_nil)) rfl rfl rfl ?_ | refine aops_q (aq_load_own1 rfl (by repeat (first | exact .here | apply UpdF.there)) List.not_mem_nil rfl (by first | with_reducible assumption | assumption | rfl) (by first | exact .sl | exact .v rfl | exact .v (by assumption))) rfl rfl rfl ?_
            refine aops_nil ?_
            first | refine aany_take 2 rfl (.none rfl) (by kernel_rfl) (by kernel_rfl) (by kernel_rfl) (AP.ar (ap_len rfl rfl)) rfl rfl ?_ | refine aany_take 2 rfl (.none rfl) (by kernel_rfl) (by kernel_rfl) (by kernel_rfl) (ar_len_arr rfl (by repeat (first | exact .here | apply UpdF.there)) rfl) rfl rfl ?_ | refine aany_take 2 rfl (.none rfl) (by kernel_rfl) (by kernel_rfl) (by kernel_rfl) (AP.ar (ap_len_nil rfl rfl)) rfl rfl ?_
            refine aany_take 14 rfl (.none rfl) (by kernel_rfl) (by kernel_rfl) (by kernel_rfl) (AP.ar (ap_min rfl rfl)) rfl rfl ?_
            first | refine aany_take 15 rfl (.none rfl) (by kernel_rfl) (by kernel_rfl) (by kernel_rfl) (AP.ar (ap_fieldAddr (off := 0) (sz := 1) (g := false) rfl rfl)) rfl rfl ?_ | refine aany_take 15 rfl (.none rfl) (by kernel_rfl) (by kernel_rfl) (by kernel_rfl) (AP.ar (ap_fieldAddr_el (off := 0) (sz := 1) (g := false) rfl rfl (by repeat constructor))) rfl rfl ?_
            refine aany_one 16 (by kernel_rfl) rfl (.none rfl) ?_
            first | refine aops_store rfl rfl (by first | exact .agg | exact .sl | exact .v rfl | exact .v (by assumption)) (by repeat (first | exact .here | apply UpdF.there)) rfl (by repeat constructor) ?_ | refine aops_store_own1 rfl rfl (by first | exact .sl | exact .v rfl | exact .v (by assumption)) (by repeat (first | exact .here | apply UpdF.there)) rfl (by simp only [List.length_set, List.length_map]; omega) ?_
            refine aops_nil ?_
            refine aany_nil (by kernel_rfl) ?_
          rotate_right
          case' _ =>
            first | refine aops_q (aq_load1 rfl (by repeat (first | exact .here | apply UpdF.there)) List.not_mem_nil rfl (by repeat constructor)) rfl rfl rfl ?_ | refine aops_q (aq_load_el1 rfl rfl (by first | exact .sl | exact .v rfl | exact .v (by assumption)) (fun _ h => absurd h List.not_mem_nil)) rfl rfl rfl ?_ | refine aops_q (aq_load_el1' rfl rfl (by first | exact .sl | exact .v rfl | exact .v (by assumption)) (fun _ h => absurd h List.not_mem_nil)) rfl rfl rfl ?_ | refine aops_q (aq_load_own1 rfl (by repeat (first | exact .here | apply UpdF.there)) List.not_mem_nil rfl (by first | with_reducible assumption | assumption | rfl) (by first | exact .sl | exact .v rfl | exact .v (by assumption))) rfl rfl rfl ?_
            refine aops_nil ?_
            first | refine aany_take 2 rfl (.none rfl) (by kernel_rfl) (by kernel_rfl) (by kernel_rfl) (AP.ar (ap_len rfl rfl)) rfl rfl ?_ | refine aany_take 2 rfl (.none rfl) (by kernel_rfl) (by kernel_rfl) (by kernel_rfl) (ar_len_arr rfl (by repeat (first | exact .here | apply UpdF.there)) rfl) rfl rfl ?_ | refine aany_take 2 rfl (.none rfl) (by kernel_rfl) (by kernel_rfl) (by kernel_rfl) (AP.ar (ap_len_nil rfl rfl)) rfl rfl ?_
            refine aany_one 4 (by kernel_rfl) rfl (.none rfl) ?_
            first | refine aops_q (aq_load1 rfl (by repeat (first | exact .here | apply UpdF.there)) List.not_mem_nil rfl (by repeat constructor)) rfl rfl rfl ?_ | refine aops_q (aq_load_el1 rfl rfl (by first | exact .sl | exact .v rfl | exact .v (by assumption)) (fun _ h => absurd h List.not_mem_nil)) rfl rfl rfl ?_ | refine aops_q (aq_load_el1' rfl rfl (by first | exact .sl | exact .v rfl | exact .v (by assumption)) (fun _ h => absurd h List.not_mem_nil)) rfl rfl rfl ?_ | refine aops_q (aq_load_own1 rfl (by repeat (first | exact .here | apply UpdF.there)) List.not_mem_nil rfl (by first | with_reducible assumption | assumption | rfl) (by first | exact .sl | exact .v rfl | exact .v (by assumption))) rfl rfl rfl ?_
            refine aops_nil ?_
            first | refine aany_take 5 rfl (.none rfl) (by kernel_rfl) (by kernel_rfl) (by kernel_rfl) (AP.ar (ap_len rfl rfl)) rfl rfl ?_ | refine aany_take 5 rfl (.none rfl) (by kernel_rfl) (by kernel_rfl) (by kernel_rfl) (ar_len_arr rfl (by repeat (first | exact .here | apply UpdF.there)) rfl) rfl rfl ?_ | refine aany_take 5 rfl (.none rfl) (by kernel_rfl) (by kernel_rfl) (by kernel_rfl) (AP.ar (ap_len_nil rfl rfl)) rfl rfl ?_
            refine aany_take 6 rfl (.none rfl) (by kernel_rfl) (by kernel_rfl) (by kernel_rfl) (AP.ar (ap_arith rfl rfl rfl (by omega))) rfl rfl ?_
            refine aany_take 7 rfl (.none rfl) (by kernel_rfl) (by kernel_rfl) (by kernel_rfl) (AP.ar (ap_arith rfl rfl rfl (by omega))) rfl rfl ?_
            refine aany_take 8 rfl (.none rfl) (by kernel_rfl) (by kernel_rfl) (by kernel_rfl) (AP.ar (ap_quon rfl rfl (by omega))) rfl rfl ?_
            refine aany_take 12 rfl (.none rfl) (by kernel_rfl) (by kernel_rfl) (by kernel_rfl) (AP.ar (ap_arith rfl rfl rfl (by omega))) rfl rfl ?_
            refine aany_take 13 rfl (.none rfl) (by kernel_rfl) (by kernel_rfl) (by kernel_rfl) (AP.ar (ap_max rfl rfl)) rfl rfl ?_
            refine aany_take 14 rfl (.none rfl) (by kernel_rfl) (by kernel_rfl) (by kernel_rfl) (AP.ar (ap_min rfl rfl)) rfl rfl ?_
            first | refine aany_take 15 rfl (.none rfl) (by kernel_rfl) (by kernel_rfl) (by kernel_rfl) (AP.ar (ap_fieldAddr (off := 0) (sz := 1) (g := false) rfl rfl)) rfl rfl ?_ | refine aany_take 15 rfl (.none rfl) (by kernel_rfl) (by kernel_rfl) (by kernel_rfl) (AP.ar (ap_fieldAddr_el (off := 0) (sz := 1) (g := false) rfl rfl (by repeat constructor))) rfl rfl ?_
            refine aany_one 16 (by kernel_rfl) rfl (.none rfl) ?_
            first | refine aops_store rfl rfl (by first | exact .agg | exact .sl | exact .v rfl | exact .v (by assumption)) (by repeat (first | exact .here | apply UpdF.there)) rfl (by repeat constructor) ?_ | refine aops_store_own1 rfl rfl (by first | exact .sl | exact .v rfl | exact .v (by assumption)) (by repeat (first | exact .here | apply UpdF.there)) rfl (by simp only [List.length_set, List.length_map]; omega) ?_
            refine aops_nil ?_
            refine aany_nil (by kernel_rfl) ?_
        rotate_right
        case' _ =>
          first | refine aops_q (aq_load1 rfl (by repeat (first | exact .here | apply UpdF.there)) List.not_mem_nil rfl (by repeat constructor)) rfl rfl rfl ?_ | refine aops_q (aq_load_el1 rfl rfl (by first | exact .sl | exact .v rfl | exact .v (by assumption)) (fun _ h => absurd h List.not_mem_nil)) rfl rfl rfl ?_ | refine aops_q (aq_load_el1' rfl rfl (by first | exact .sl | exact .v rfl | exact .v (by assumption)) (fun _ h => absurd h List.not_mem_nil)) rfl rfl rfl ?_ | refine aops_q (aq_load_own1 rfl (by repeat (first | exact .here | apply UpdF.there)) List.not_mem_nil rfl (by first | with_reducible assumption | assumption | rfl) (by first | exact .sl | exact .v rfl | exact .v (by assumption))) rfl rfl rfl ?_
          refine aops_nil ?_
          first | refine aany_take 5 rfl (.none rfl) (by kernel_rfl) (by kernel_rfl) (by kernel_rfl) (AP.ar (ap_len rfl rfl)) rfl rfl ?_ | refine aany_take 5 rfl (.none rfl) (by kernel_rfl) (by kernel_rfl) (by kernel_rfl) (ar_len_arr rfl (by repeat (first | exact .here | apply UpdF.there)) rfl) rfl rfl ?_ | refine aany_take 5 rfl (.none rfl) (by kernel_rfl) (by kernel_rfl) (by kernel_rfl) (AP.ar (ap_len_nil rfl rfl)) rfl rfl ?_
          refine aany_take 6 rfl (.none rfl) (by kernel_rfl) (by kernel_rfl) (by kernel_rfl) (AP.ar (ap_arith rfl rfl rfl (by omega))) rfl rfl ?_
          refine aany_take 7 rfl (.none rfl) (by kernel_rfl) (by kernel_rfl) (by kernel_rfl) (AP.ar (ap_arith rfl rfl rfl (by omega))) rfl rfl ?_
          refine aany_take 8 rfl (.none rfl) (by kernel_rfl) (by kernel_rfl) (by kernel_rfl) (AP.ar (ap_quon rfl rfl (by omega))) rfl rfl ?_
          refine aany_each2 1 11 (by kernel_rfl) rfl (.none rfl) ?_ rfl (.none rfl) ?_
          rotate_left
          case' _ =>
            (refine aops_call (by repeat constructor) (Pick_con _ _ _ [0,0,0,1,-1] (by decide)) (by repeat (first | exact .nil | exact Split.none _ | apply Split.left | apply Split.right)) rfl rfl ?_; rintro _ _ ⟨r39, a39, rfl, hr39, rfl⟩; have hrb : -1 ≤ r39 ∧ r39 ≤ 1 := (by simp at hr39; omega))
            refine aops_nil ?_
            refine aany_take 12 rfl (.none rfl) (by kernel_rfl) (by kernel_rfl) (by kernel_rfl) (AP.ar (ap_arith rfl rfl rfl (by omega))) rfl rfl ?_
            refine aany_take 13 rfl (.none rfl) (by kernel_rfl) (by kernel_rfl) (by kernel_rfl) (AP.ar (ap_max rfl rfl)) rfl rfl ?_
            refine aany_one 1 (by kernel_rfl) rfl (.none rfl) ?_
            first | refine aops_q (aq_load1 rfl (by repeat (first | exact .here | apply UpdF.there)) List.not_mem_nil rfl (by repeat constructor)) rfl rfl rfl ?_ | refine aops_q (aq_load_el1 rfl rfl (by first | exact .sl | exact .v rfl | exact .v (by assumption)) (fun _ h => absurd h List.not_mem_nil)) rfl rfl rfl ?_ | refine aops_q (aq_load_el1' rfl rfl (by first | exact .sl | exact .v rfl | exact .v (by assumption)) (fun _ h => absurd h List.not_mem_nil)) rfl rfl rfl ?_ | refine aops_q (aq_load_own1 rfl (by repeat (first | exact .here | apply UpdF.there)) List.not_mem_nil rfl (by first | with_reducible assumption | assumption | rfl) (by first | exact .sl | exact .v rfl | exact .v (by assumption))) rfl rfl rfl ?_
            refine aops_nil ?_
            first | refine aany_take 2 rfl (.none rfl) (by kernel_rfl) (by kernel_rfl) (by kernel_rfl) (AP.ar (ap_len rfl rfl)) rfl rfl ?_ | refine aany_take 2 rfl (.none rfl) (by kernel_rfl) (by kernel_rfl) (by kernel_rfl) (ar_len_arr rfl (by repeat (first | exact .here | apply UpdF.there)) rfl) rfl rfl ?_ | refine aany_take 2 rfl (.none rfl) (by kernel_rfl) (by kernel_rfl) (by kernel_rfl) (AP.ar (ap_len_nil rfl rfl)) rfl rfl ?_
            refine aany_take 14 rfl (.none rfl) (by kernel_rfl) (by kernel_rfl) (by kernel_rfl) (AP.ar (ap_min rfl rfl)) rfl rfl ?_
            first | refine aany_take 15 rfl (.none rfl) (by kernel_rfl) (by kernel_rfl) (by kernel_rfl) (AP.ar (ap_fieldAddr (off := 0) (sz := 1) (g := false) rfl rfl)) rfl rfl ?_ | refine aany_take 15 rfl (.none rfl) (by kernel_rfl) (by kernel_rfl) (by kernel_rfl) (AP.ar (ap_fieldAddr_el (off := 0) (sz := 1) (g := false) rfl rfl (by repeat constructor))) rfl rfl ?_
            refine aany_one 16 (by kernel_rfl) rfl (.none rfl) ?_
            first | refine aops_store rfl rfl (by first | exact .agg | exact .sl | exact .v rfl | exact .v (by assumption)) (by repeat (first | exact .here | apply UpdF.there)) rfl (by repeat constructor) ?_ | refine aops_store_own1 rfl rfl (by first | exact .sl | exact .v rfl | exact .v (by assumption)) (by repeat (first | exact .here | apply UpdF.there)) rfl (by simp only [List.length_set, List.length_map]; omega) ?_
            refine aops_nil ?_
            refine aany_nil (by kernel_rfl) ?_
          rotate_right
          case' _ =>
            first | refine aops_q (aq_load1 rfl (by repeat (first | exact .here | apply UpdF.there)) List.not_mem_nil rfl (by repeat constructor)) rfl rfl rfl ?_ | refine aops_q (aq_load_el1 rfl rfl (by first | exact .sl | exact .v rfl | exact .v (by assumption)) (fun _ h => absurd h List.not_mem_nil)) rfl rfl rfl ?_ | refine aops_q (aq_load_el1' rfl rfl (by first | exact .sl | exact .v rfl | exact .v (by assumption)) (fun _ h => absurd h List.not_mem_nil)) rfl rfl rfl ?_ | refine aops_q (aq_load_own1 rfl (by repeat (first | exact .here | apply UpdF.there)) List.not_mem_nil rfl (by first | with_reducible assumption | assumption | rfl) (by first | exact .sl | exact .v rfl | exact .v (by assumption))) rfl rfl rfl ?_
            refine aops_nil ?_
            first | refine aany_take 2 rfl (.none rfl) (by kernel_rfl) (by kernel_rfl) (by kernel_rfl) (AP.ar (ap_len rfl rfl)) rfl rfl ?_ | refine aany_take 2 rfl (.none rfl) (by kernel_rfl) (by kernel_rfl) (by kernel_rfl) (ar_len_arr rfl (by repeat (first | exact .here | apply UpdF.there)) rfl) rfl rfl ?_ | refine aany_take 2 rfl (.none rfl) (by kernel_rfl) (by kernel_rfl) (by kernel_rfl) (AP.ar (ap_len_nil rfl rfl)) rfl rfl ?_
            refine aany_one 11 (by kernel_rfl) rfl (.none rfl) ?_
            (refine aops_call (by repeat constructor) (Pick_con _ _ _ [0,0,0,1,-1] (by decide)) (by repeat (first | exact .nil | exact Split.none _ | apply Split.left | apply Split.right)) rfl rfl ?_; rintro _ _ ⟨r39, a39, rfl, hr39, rfl⟩; have hrb : -1 ≤ r39 ∧ r39 ≤ 1 := (by simp at hr39; omega))
            refine aops_nil ?_
            refine aany_take 12 rfl (.none rfl) (by kernel_rfl) (by kernel_rfl) (by kernel_rfl) (AP.ar (ap_arith rfl rfl rfl (by omega))) rfl rfl ?_
            refine aany_take 13 rfl (.none rfl) (by kernel_rfl) (by kernel_rfl) (by kernel_rfl) (AP.ar (ap_max rfl rfl)) rfl rfl ?_
            refine aany_take 14 rfl (.none rfl) (by kernel_rfl) (by kernel_rfl) (by kernel_rfl) (AP.ar (ap_min rfl rfl)) rfl rfl ?_
            first | refine aany_take 15 rfl (.none rfl) (by kernel_rfl) (by kernel_rfl) (by kernel_rfl) (AP.ar (ap_fieldAddr (off := 0) (sz := 1) (g := false) rfl rfl)) rfl rfl ?_ | refine aany_take 15 rfl (.none rfl) (by kernel_rfl) (by kernel_rfl) (by kernel_rfl) (AP.ar (ap_fieldAddr_el (off := 0) (sz := 1) (g := false) rfl rfl (by repeat constructor))) rfl rfl ?_
            refine aany_one 16 (by kernel_rfl) rfl (.none rfl) ?_
            first | refine aops_store rfl rfl (by first | exact .agg | exact .sl | exact .v rfl | exact .v (by assumption)) (by repeat (first | exact .here | apply UpdF.there)) rfl (by repeat constructor) ?_ | refine aops_store_own1 rfl rfl (by first | exact .sl | exact .v rfl | exact .v (by assumption)) (by repeat (first | exact .here | apply UpdF.there)) rfl (by simp only [List.length_set, List.length_map]; omega) ?_
            refine aops_nil ?_
            refine aany_nil (by kernel_rfl) ?_
        rotate_right
        case' _ =>
          first | refine aops_q (aq_load1 rfl (by repeat (first | exact .here | apply UpdF.there)) List.not_mem_nil rfl (by repeat constructor)) rfl rfl rfl ?_ | refine aops_q (aq_load_el1 rfl rfl (by first | exact .sl | exact .v rfl | exact .v (by assumption)) (fun _ h => absurd h List.not_mem_nil)) rfl rfl rfl ?_ | refine aops_q (aq_load_el1' rfl rfl (by first | exact .sl | exact .v rfl | exact .v (by assumption)) (fun _ h => absurd h List.not_mem_nil)) rfl rfl rfl ?_ | refine aops_q (aq_load_own1 rfl (by repeat (first | exact .here | apply UpdF.there)) List.not_mem_nil rfl (by first | with_reducible assumption | assumption | rfl) (by first | exact .sl | exact .v rfl | exact .v (by assumption))) rfl rfl rfl ?_
          refine aops_nil ?_
          first | refine aany_take 2 rfl (.none rfl) (by kernel_rfl) (by kernel_rfl) (by kernel_rfl) (AP.ar (ap_len rfl rfl)) rfl rfl ?_ | refine aany_take 2 rfl (.none rfl) (by kernel_rfl) (by kernel_rfl) (by kernel_rfl) (ar_len_arr rfl (by repeat (first | exact .here | apply UpdF.there)) rfl) rfl rfl ?_ | refine aany_take 2 rfl (.none rfl) (by kernel_rfl) (by kernel_rfl) (by kernel_rfl) (AP.ar (ap_len_nil rfl rfl)) rfl rfl ?_
          refine aany_each2 4 11 (by kernel_rfl) rfl (.none rfl) ?_ rfl (.none rfl) ?_
          rotate_left
          case' _ =>
            (refine aops_call (by repeat constructor) (Pick_con _ _ _ [0,0,0,1,-1] (by decide)) (by repeat (first | exact .nil | exact Split.none _ | apply Split.left | apply Split.right)) rfl rfl ?_; rintro _ _ ⟨r39, a39, rfl, hr39, rfl⟩; have hrb : -1 ≤ r39 ∧ r39 ≤ 1 := (by simp at hr39; omega))
            refine aops_nil ?_
            refine aany_one 4 (by kernel_rfl) rfl (.none rfl) ?_
            first | refine aops_q (aq_load1 rfl (by repeat (first | exact .here | apply UpdF.there)) List.not_mem_nil rfl (by repeat constructor)) rfl rfl rfl ?_ | refine aops_q (aq_load_el1 rfl rfl (by first | exact .sl | exact .v rfl | exact .v (by assumption)) (fun _ h => absurd h List.not_mem_nil)) rfl rfl rfl ?_ | refine aops_q (aq_load_el1' rfl rfl (by first | exact .sl | exact .v rfl | exact .v (by assumption)) (fun _ h => absurd h List.not_mem_nil)) rfl rfl rfl ?_ | refine aops_q (aq_load_own1 rfl (by repeat (first | exact .here | apply UpdF.there)) List.not_mem_nil rfl (by first | with_reducible assumption | assumption | rfl) (by first | exact .sl | exact .v rfl | exact .v (by assumption))) rfl rfl rfl ?_
            refine aops_nil ?_
            first | refine aany_take 5 rfl (.none rfl) (by kernel_rfl) (by kernel_rfl) (by kernel_rfl) (AP.ar (ap_len rfl rfl)) rfl rfl ?_ | refine aany_take 5 rfl (.none rfl) (by kernel_rfl) (by kernel_rfl) (by kernel_rfl) (ar_len_arr rfl (by repeat (first | exact .here | apply UpdF.there)) rfl) rfl rfl ?_ | refine aany_take 5 rfl (.none rfl) (by kernel_rfl) (by kernel_rfl) (by kernel_rfl) (AP.ar (ap_len_nil rfl rfl)) rfl rfl ?_
            refine aany_take 6 rfl (.none rfl) (by kernel_rfl) (by kernel_rfl) (by kernel_rfl) (AP.ar (ap_arith rfl rfl rfl (by omega))) rfl rfl ?_
            refine aany_take 7 rfl (.none rfl) (by kernel_rfl) (by kernel_rfl) (by kernel_rfl) (AP.ar (ap_arith rfl rfl rfl (by omega))) rfl rfl ?_
            refine aany_take 8 rfl (.none rfl) (by kernel_rfl) (by kernel_rfl) (by kernel_rfl) (AP.ar (ap_quon rfl rfl (by omega))) rfl rfl ?_
            refine aany_take 12 rfl (.none rfl) (by kernel_rfl) (by kernel_rfl) (by kernel_rfl) (AP.ar (ap_arith rfl rfl rfl (by omega))) rfl rfl ?_
            refine aany_take 13 rfl (.none rfl) (by kernel_rfl) (by kernel_rfl) (by kernel_rfl) (AP.ar (ap_max rfl rfl)) rfl rfl ?_
            refine aany_take 14 rfl (.none rfl) (by kernel_rfl) (by kernel_rfl) (by kernel_rfl) (AP.ar (ap_min rfl rfl)) rfl rfl ?_
            first | refine aany_take 15 rfl (.none rfl) (by kernel_rfl) (by kernel_rfl) (by kernel_rfl) (AP.ar (ap_fieldAddr (off := 0) (sz := 1) (g := false) rfl rfl)) rfl rfl ?_ | refine aany_take 15 rfl (.none rfl) (by kernel_rfl) (by kernel_rfl) (by kernel_rfl) (AP.ar (ap_fieldAddr_el (off := 0) (sz := 1) (g := false) rfl rfl (by repeat constructor))) rfl rfl ?_
            refine aany_one 16 (by kernel_rfl) rfl (.none rfl) ?_
            first | refine aops_store rfl rfl (by first | exact .agg | exact .sl | exact .v rfl | exact .v (by assumption)) (by repeat (first | exact .here | apply UpdF.there)) rfl (by repeat constructor) ?_ | refine aops_store_own1 rfl rfl (by first | exact .sl | exact .v rfl | exact .v (by assumption)) (by repeat (first | exact .here | apply UpdF.there)) rfl (by simp only [List.length_set, List.length_map]; omega) ?_
            refine aops_nil ?_
            refine aany_nil (by kernel_rfl) ?_
          rotate_right
          case' _ =>
            first | refine aops_q (aq_load1 rfl (by repeat (first | exact .here | apply UpdF.there)) List.not_mem_nil rfl (by repeat constructor)) rfl rfl rfl ?_ | refine aops_q (aq_load_el1 rfl rfl (by first | exact .sl | exact .v rfl | exact .v (by assumption)) (fun _ h => absurd h List.not_mem_nil)) rfl rfl rfl ?_ | refine aops_q (aq_load_el1' rfl rfl (by first | exact .sl | exact .v rfl | exact .v (by assumption)) (fun _ h => absurd h List.not_mem_nil)) rfl rfl rfl ?_ | refine aops_q (aq_load_own1 rfl (by repeat (first | exact .here | apply UpdF.there)) List.not_mem_nil rfl (by first | with_reducible assumption | assumption | rfl) (by first | exact .sl | exact .v rfl | exact .v (by assumption))) rfl rfl rfl ?_
            refine aops_nil ?_
            first | refine aany_take 5 rfl (.none rfl) (by kernel_rfl) (by kernel_rfl) (by kernel_rfl) (AP.ar (ap_len rfl rfl)) rfl rfl ?_ | refine aany_take 5 rfl (.none rfl) (by kernel_rfl) (by kernel_rfl) (by kernel_rfl) (ar_len_arr rfl (by repeat (first | exact .here | apply UpdF.there)) rfl) rfl rfl ?_ | refine aany_take 5 rfl (.none rfl) (by kernel_rfl) (by kernel_rfl) (by kernel_rfl) (AP.ar (ap_len_nil rfl rfl)) rfl rfl ?_
            refine aany_take 6 rfl (.none rfl) (by kernel_rfl) (by kernel_rfl) (by kernel_rfl) (AP.ar (ap_arith rfl rfl rfl (by omega))) rfl rfl ?_
            refine aany_take 7 rfl (.none rfl) (by kernel_rfl) (by kernel_rfl) (by kernel_rfl) (AP.ar (ap_arith rfl rfl rfl (by omega))) rfl rfl ?_
            refine aany_take 8 rfl (.none rfl) (by kernel_rfl) (by kernel_rfl) (by kernel_rfl) (AP.ar (ap_quon rfl rfl (by omega))) rfl rfl ?_
            refine aany_one 11 (by kernel_rfl) rfl (.none rfl) ?_
            (refine aops_call (by repeat constructor) (Pick_con _ _ _ [0,0,0,1,-1] (by decide)) (by repeat (first | exact .nil | exact Split.none _ | apply Split.left | apply Split.right)) rfl rfl ?_; rintro _ _ ⟨r39, a39, rfl, hr39, rfl⟩; have hrb : -1 ≤ r39 ∧ r39 ≤ 1 := (by simp at hr39; omega))
            refine aops_nil ?_
            refine aany_take 12 rfl (.none rfl) (by kernel_rfl) (by kernel_rfl) (by kernel_rfl) (AP.ar (ap_arith rfl rfl rfl (by omega))) rfl rfl ?_
            refine aany_take 13 rfl (.none rfl) (by kernel_rfl) (by kernel_rfl) (by kernel_rfl) (AP.ar (ap_max rfl rfl)) rfl rfl ?_
            refine aany_take 14 rfl (.none rfl) (by kernel_rfl) (by kernel_rfl) (by kernel_rfl) (AP.ar (ap_min rfl rfl)) rfl rfl ?_
            first | refine aany_take 15 rfl (.none rfl) (by kernel_rfl) (by kernel_rfl) (by kernel_rfl) (AP.ar (ap_fieldAddr (off := 0) (sz := 1) (g := false) rfl rfl)) rfl rfl ?_ | refine aany_take 15 rfl (.none rfl) (by kernel_rfl) (by kernel_rfl) (by kernel_rfl) (AP.ar (ap_fieldAddr_el (off := 0) (sz := 1) (g := false) rfl rfl (by repeat constructor))) rfl rfl ?_
            refine aany_one 16 (by kernel_rfl) rfl (.none rfl) ?_
            first | refine aops_store rfl rfl (by first | exact .agg | exact .sl | exact .v rfl | exact .v (by assumption)) (by repeat (first | exact .here | apply UpdF.there)) rfl (by repeat constructor) ?_ | refine aops_store_own1 rfl rfl (by first | exact .sl | exact .v rfl | exact .v (by assumption)) (by repeat (first | exact .here | apply UpdF.there)) rfl (by simp only [List.length_set, List.length_map]; omega) ?_
            refine aops_nil ?_
            refine aany_nil (by kernel_rfl) ?_
      rotate_right
      case' _ =>
        first | refine aops_q (aq_load1 rfl (by repeat (first | exact .here | apply UpdF.there)) List.not_mem_nil rfl (by repeat constructor)) rfl rfl rfl ?_ | refine aops_q (aq_load_el1 rfl rfl (by first | exact .sl | exact .v rfl | exact .v (by assumption)) (fun _ h => absurd h List.not_mem_nil)) rfl rfl rfl ?_ | refine aops_q (aq_load_el1' rfl rfl (by first | exact .sl | exact .v rfl | exact .v (by assumption)) (fun _ h => absurd h List.not_mem_nil)) rfl rfl rfl ?_ | refine aops_q (aq_load_own1 rfl (by repeat (first | exact .here | apply UpdF.there)) List.not_mem_nil rfl (by first | with_reducible assumption | assumption | rfl) (by first | exact .sl | exact .v rfl | exact .v (by assumption))) rfl rfl rfl ?_
        refine aops_nil ?_
        first | refine aany_take 5 rfl (.none rfl) (by kernel_rfl) (by kernel_rfl) (by kernel_rfl) (AP.ar (ap_len rfl rfl)) rfl rfl ?_ | refine aany_take 5 rfl (.none rfl) (by kernel_rfl) (by kernel_rfl) (by kernel_rfl) (ar_len_arr rfl (by repeat (first | exact .here | apply UpdF.there)) rfl) rfl rfl ?_ | refine aany_take 5 rfl (.none rfl) (by kernel_rfl) (by kernel_rfl) (by kernel_rfl) (AP.ar (ap_len_nil rfl rfl)) rfl rfl ?_
        refine aany_take 6 rfl (.none rfl) (by kernel_rfl) (by kernel_rfl) (by kernel_rfl) (AP.ar (ap_arith rfl rfl rfl (by omega))) rfl rfl ?_
        refine aany_take 7 rfl (.none rfl) (by kernel_rfl) (by kernel_rfl) (by kernel_rfl) (AP.ar (ap_arith rfl rfl rfl (by omega))) rfl rfl ?_
        refine aany_take 8 rfl (.none rfl) (by kernel_rfl) (by kernel_rfl) (by kernel_rfl) (AP.ar (ap_quon rfl rfl (by omega))) rfl rfl ?_
        refine aany_each2 1 10 (by kernel_rfl) rfl (.none rfl) ?_ rfl (.none rfl) ?_
        rotate_left
        case' _ =>
          refine aops_lit (e := 3) (sz := 1) (by_ := 8) rfl rfl (by repeat constructor) rfl rfl rfl rfl ?_
          refine aops_nil ?_
          refine aany_each2 1 11 (by kernel_rfl) rfl (.none rfl) ?_ rfl (.none rfl) ?_
          rotate_left
          case' _ =>
            (refine aops_call (by repeat constructor) (Pick_con _ _ _ [0,0,0,1,-1] (by decide)) (by repeat (first | exact .nil | exact Split.none _ | apply Split.left | apply Split.right)) rfl rfl ?_; rintro _ _ ⟨r39, a39, rfl, hr39, rfl⟩; have hrb : -1 ≤ r39 ∧ r39 ≤ 1 := (by simp at hr39; omega))
            refine aops_nil ?_
            refine aany_take 12 rfl (.none rfl) (by kernel_rfl) (by kernel_rfl) (by kernel_rfl) (AP.ar (ap_arith rfl rfl rfl (by omega))) rfl rfl ?_
            refine aany_take 13 rfl (.none rfl) (by kernel_rfl) (by kernel_rfl) (by kernel_rfl) (AP.ar (ap_max rfl rfl)) rfl rfl ?_
            refine aany_one 1 (by kernel_rfl) rfl (.none rfl) ?_
            first | refine aops_q (aq_load1 rfl (by repeat (first | exact .here | apply UpdF.there)) List.not_mem_nil rfl (by repeat constructor)) rfl rfl rfl ?_ | refine aops_q (aq_load_el1 rfl rfl (by first | exact .sl | exact .v rfl | exact .v (by assumption)) (fun _ h => absurd h List.not_mem_nil)) rfl rfl rfl ?_ | refine aops_q (aq_load_el1' rfl rfl (by first | exact .sl | exact .v rfl | exact .v (by assumption)) (fun _ h => absurd h List.not_mem_nil)) rfl rfl rfl ?_ | refine aops_q (aq_load_own1 rfl (by repeat (first | exact .here | apply UpdF.there)) List.not_mem_nil rfl (by first | with_reducible assumption | assumption | rfl) (by first | exact .sl | exact .v rfl | exact .v (by assumption))) rfl rfl rfl ?_
            refine aops_nil ?_
            first | refine aany_take 2 rfl (.none rfl) (by kernel_rfl) (by kernel_rfl) (by kernel_rfl) (AP.ar (ap_len rfl rfl)) rfl rfl ?_ | refine aany_take 2 rfl (.none rfl) (by kernel_rfl) (by kernel_rfl) (by kernel_rfl) (ar_len_arr rfl (by repeat (first | exact .here | apply UpdF.there)) rfl) rfl rfl ?_ | refine aany_take 2 rfl (.none rfl) (by kernel_rfl) (by kernel_rfl) (by kernel_rfl) (AP.ar (ap_len_nil rfl rfl)) rfl rfl ?_
            refine aany_take 14 rfl (.none rfl) (by kernel_rfl) (by kernel_rfl) (by kernel_rfl) (AP.ar (ap_min rfl rfl)) rfl rfl ?_
            first | refine aany_take 15 rfl (.none rfl) (by kernel_rfl) (by kernel_rfl) (by kernel_rfl) (AP.ar (ap_fieldAddr (off := 0) (sz := 1) (g := false) rfl rfl)) rfl rfl ?_ | refine aany_take 15 rfl (.none rfl) (by kernel_rfl) (by kernel_rfl) (by kernel_rfl) (AP.ar (ap_fieldAddr_el (off := 0) (sz := 1) (g := false) rfl rfl (by repeat constructor))) rfl rfl ?_
            refine aany_one 16 (by kernel_rfl) rfl (.none rfl) ?_
            first | refine aops_store rfl rfl (by first | exact .agg | exact .sl | exact .v rfl | exact .v (by assumption)) (by repeat (first | exact .here | apply UpdF.there)) rfl (by repeat constructor) ?_ | refine aops_store_own1 rfl rfl (by first | exact .sl | exact .v rfl | exact .v (by assumption)) (by repeat (first | exact .here | apply UpdF.there)) rfl (by simp only [List.length_set, List.length_map]; omega) ?_
            refine aops_nil ?_
            refine aany_nil (by kernel_rfl) ?_
          rotate_right
          case' _ =>
            first | refine aops_q (aq_load1 rfl (by repeat (first | exact .here | apply UpdF.there)) List.not_mem_nil rfl (by repeat constructor)) rfl rfl rfl ?_ | refine aops_q (aq_load_el1 rfl rfl (by first | exact .sl | exact .v rfl | exact .v (by assumption)) (fun _ h => absurd h List.not_mem_nil)) rfl rfl rfl ?_ | refine aops_q (aq_load_el1' rfl rfl (by first | exact .sl | exact .v rfl | exact .v (by assumption)) (fun _ h => absurd h List.not_mem_nil)) rfl rfl rfl ?_ | refine aops_q (aq_load_own1 rfl (by repeat (first | exact .here | apply UpdF.there)) List.not_mem_nil rfl (by first | with_reducible assumption | assumption | rfl) (by first | exact .sl | exact .v rfl | exact .v (by assumption))) rfl rfl rfl ?_
            refine aops_nil ?_
            first | refine aany_take 2 rfl (.none rfl) (by kernel_rfl) (by kernel_rfl) (by kernel_rfl) (AP.ar (ap_len rfl rfl)) rfl rfl ?_ | refine aany_take 2 rfl (.none rfl) (by kernel_rfl) (by kernel_rfl) (by kernel_rfl) (ar_len_arr rfl (by repeat (first | exact .here | apply UpdF.there)) rfl) rfl rfl ?_ | refine aany_take 2 rfl (.none rfl) (by kernel_rfl) (by kernel_rfl) (by kernel_rfl) (AP.ar (ap_len_nil rfl rfl)) rfl rfl ?_
            refine aany_one 11 (by kernel_rfl) rfl (.none rfl) ?_
            (refine aops_call (by repeat constructor) (Pick_con _ _ _ [0,0,0,1,-1] (by decide)) (by repeat (first | exact .nil | exact Split.none _ | apply Split.left | apply Split.right)) rfl rfl ?_; rintro _ _ ⟨r39, a39, rfl, hr39, rfl⟩; have hrb : -1 ≤ r39 ∧ r39 ≤ 1 := (by simp at hr39; omega))
            refine aops_nil ?_
            refine aany_take 12 rfl (.none rfl) (by kernel_rfl) (by kernel_rfl) (by kernel_rfl) (AP.ar (ap_arith rfl rfl rfl (by omega))) rfl rfl ?_
            refine aany_take 13 rfl (.none rfl) (by kernel_rfl) (by kernel_rfl) (by kernel_rfl) (AP.ar (ap_max rfl rfl)) rfl rfl ?_
            refine aany_take 14 rfl (.none rfl) (by kernel_rfl) (by kernel_rfl) (by kernel_rfl) (AP.ar (ap_min rfl rfl)) rfl rfl ?_
            first | refine aany_take 15 rfl (.none rfl) (by kernel_rfl) (by kernel_rfl) (by kernel_rfl) (AP.ar (ap_fieldAddr (off := 0) (sz := 1) (g := false) rfl rfl)) rfl rfl ?_ | refine aany_take 15 rfl (.none rfl) (by kernel_rfl) (by kernel_rfl) (by kernel_rfl) (AP.ar (ap_fieldAddr_el (off := 0) (sz := 1) (g := false) rfl rfl (by repeat constructor))) rfl rfl ?_
            refine aany_one 16 (by kernel_rfl) rfl (.none rfl) ?_
            first | refine aops_store rfl rfl (by first | exact .agg | exact .sl | exact .v rfl | exact .v (by assumption)) (by repeat (first | exact .here | apply UpdF.there)) rfl (by repeat constructor) ?_ | refine aops_store_own1 rfl rfl (by first | exact .sl | exact .v rfl | exact .v (by assumption)) (by repeat (first | exact .here | apply UpdF.there)) rfl (by simp only [List.length_set, List.length_map]; omega) ?_
            refine aops_nil ?_
            refine aany_nil (by kernel_rfl) ?_
        rotate_right
        case' _ =>
          first | refine aops_q (aq_load1 rfl (by repeat (first | exact .here | apply UpdF.there)) List.not_mem_nil rfl (by repeat constructor)) rfl rfl rfl ?_ | refine aops_q (aq_load_el1 rfl rfl (by first | exact .sl | exact .v rfl | exact .v (by assumption)) (fun _ h => absurd h List.not_mem_nil)) rfl rfl rfl ?_ | refine aops_q (aq_load_el1' rfl rfl (by first | exact .sl | exact .v rfl | exact .v (by assumption)) (fun _ h => absurd h List.not_mem_nil)) rfl rfl rfl ?_ | refine aops_q (aq_load_own1 rfl (by repeat (first | exact .here | apply UpdF.there)) List.not_mem_nil rfl (by first | with_reducible assumption | assumption | rfl) (by first | exact .sl | exact .v rfl | exact .v (by assumption))) rfl rfl rfl ?_
          refine aops_nil ?_
          first | refine aany_take 2 rfl (.none rfl) (by kernel_rfl) (by kernel_rfl) (by kernel_rfl) (AP.ar (ap_len rfl rfl)) rfl rfl ?_ | refine aany_take 2 rfl (.none rfl) (by kernel_rfl) (by kernel_rfl) (by kernel_rfl) (ar_len_arr rfl (by repeat (first | exact .here | apply UpdF.there)) rfl) rfl rfl ?_ | refine aany_take 2 rfl (.none rfl) (by kernel_rfl) (by kernel_rfl) (by kernel_rfl) (AP.ar (ap_len_nil rfl rfl)) rfl rfl ?_
          refine aany_one 10 (by kernel_rfl) rfl (.none rfl) ?_
          refine aops_lit (e := 3) (sz := 1) (by_ := 8) rfl rfl (by repeat constructor) rfl rfl rfl rfl ?_
          refine aops_nil ?_
          refine aany_one 11 (by kernel_rfl) rfl (.none rfl) ?_
          (refine aops_call (by repeat constructor) (Pick_con _ _ _ [0,0,0,1,-1] (by decide)) (by repeat (first | exact .nil | exact Split.none _ | apply Split.left | apply Split.right)) rfl rfl ?_; rintro _ _ ⟨r39, a39, rfl, hr39, rfl⟩; have hrb : -1 ≤ r39 ∧ r39 ≤ 1 := (by simp at hr39; omega))
          refine aops_nil ?_
          refine aany_take 12 rfl (.none rfl) (by kernel_rfl) (by kernel_rfl) (by kernel_rfl) (AP.ar (ap_arith rfl rfl rfl (by omega))) rfl rfl ?_
          refine aany_take 13 rfl (.none rfl) (by kernel_rfl) (by kernel_rfl) (by kernel_rfl) (AP.ar (ap_max rfl rfl)) rfl rfl ?_
          refine aany_take 14 rfl (.none rfl) (by kernel_rfl) (by kernel_rfl) (by kernel_rfl) (AP.ar (ap_min rfl rfl)) rfl rfl ?_
          first | refine aany_take 15 rfl (.none rfl) (by kernel_rfl) (by kernel_rfl) (by kernel_rfl) (AP.ar (ap_fieldAddr (off := 0) (sz := 1) (g := false) rfl rfl)) rfl rfl ?_ | refine aany_take 15 rfl (.none rfl) (by kernel_rfl) (by kernel_rfl) (by kernel_rfl) (AP.ar (ap_fieldAddr_el (off := 0) (sz := 1) (g := false) rfl rfl (by repeat constructor))) rfl rfl ?_
          refine aany_one 16 (by kernel_rfl) rfl (.none rfl) ?_
          first | refine aops_store rfl rfl (by first | exact .agg | exact .sl | exact .v rfl | exact .v (by assumption)) (by repeat (first | exact .here | apply UpdF.there)) rfl (by repeat constructor) ?_ | refine aops_store_own1 rfl rfl (by first | exact .sl | exact .v rfl | exact .v (by assumption)) (by repeat (first | exact .here | apply UpdF.there)) rfl (by simp only [List.length_set, List.length_map]; omega) ?_
          refine aops_nil ?_
          refine aany_nil (by kernel_rfl) ?_
      rotate_right
      case' _ =>
        first | refine aops_q (aq_load1 rfl (by repeat (first | exact .here | apply UpdF.there)) List.not_mem_nil rfl (by repeat constructor)) rfl rfl rfl ?_ | refine aops_q (aq_load_el1 rfl rfl (by first | exact .sl | exact .v rfl | exact .v (by assumption)) (fun _ h => absurd h List.not_mem_nil)) rfl rfl rfl ?_ | refine aops_q (aq_load_el1' rfl rfl (by first | exact .sl | exact .v rfl | exact .v (by assumption)) (fun _ h => absurd h List.not_mem_nil)) rfl rfl rfl ?_ | refine aops_q (aq_load_own1 rfl (by repeat (first | exact .here | apply UpdF.there)) List.not_mem_nil rfl (by first | with_reducible assumption | assumption | rfl) (by first | exact .sl | exact .v rfl | exact .v (by assumption))) rfl rfl rfl ?_
        refine aops_nil ?_
        first | refine aany_take 2 rfl (.none rfl) (by kernel_rfl) (by kernel_rfl) (by kernel_rfl) (AP.ar (ap_len rfl rfl)) rfl rfl ?_ | refine aany_take 2 rfl (.none rfl) (by kernel_rfl) (by kernel_rfl) (by kernel_rfl) (ar_len_arr rfl (by repeat (first | exact .here | apply UpdF.there)) rfl) rfl rfl ?_ | refine aany_take 2 rfl (.none rfl) (by kernel_rfl) (by kernel_rfl) (by kernel_rfl) (AP.ar (ap_len_nil rfl rfl)) rfl rfl ?_
        refine aany_each2 4 10 (by kernel_rfl) rfl (.none rfl) ?_ rfl (.none rfl) ?_
        rotate_left
        case' _ =>
          refine aops_lit (e := 3) (sz := 1) (by_ := 8) rfl rfl (by repeat constructor) rfl rfl rfl rfl ?_
          refine aops_nil ?_
          refine aany_each2 4 11 (by kernel_rfl) rfl (.none rfl) ?_ rfl (.none rfl) ?_
          rotate_left
          case' _ =>
            (refine aops_call (by repeat constructor) (Pick_con _ _ _ [0,0,0,1,-1] (by decide)) (by repeat (first | exact .nil | exact Split.none _ | apply Split.left | apply Split.right)) rfl rfl ?_; rintro _ _ ⟨r39, a39, rfl, hr39, rfl⟩; have hrb : -1 ≤ r39 ∧ r39 ≤ 1 := (by simp at hr39; omega))
            refine aops_nil ?_
            refine aany_one 4 (by kernel_rfl) rfl (.none rfl) ?_
            first | refine aops_q (aq_load1 rfl (by repeat (first | exact .here | apply UpdF.there)) List.not_mem_nil rfl (by repeat constructor)) rfl rfl rfl ?_ | refine aops_q (aq_load_el1 rfl rfl (by first | exact .sl | exact .v rfl | exact .v (by assumption)) (fun _ h => absurd h List.not_mem_nil)) rfl rfl rfl ?_ | refine aops_q (aq_load_el1' rfl rfl (by first | exact .sl | exact .v rfl | exact .v (by assumption)) (fun _ h => absurd h List.not_mem_nil)) rfl rfl rfl ?_ | refine aops_q (aq_load_own1 rfl (by repeat (first | exact .here | apply UpdF.there)) List.not_mem_nil rfl (by first | with_reducible assumption | assumption | rfl) (by first | exact .sl | exact .v rfl | exact .v (by assumption))) rfl rfl rfl ?_
            refine aops_nil ?_
            first | refine aany_take 5 rfl (.none rfl) (by kernel_rfl) (by kernel_rfl) (by kernel_rfl) (AP.ar (ap_len rfl rfl)) rfl rfl ?_ | refine aany_take 5 rfl (.none rfl) (by kernel_rfl) (by kernel_rfl) (by kernel_rfl) (ar_len_arr rfl (by repeat (first | exact .here | apply UpdF.there)) rfl) rfl rfl ?_ | refine aany_take 5 rfl (.none rfl) (by kernel_rfl) (by kernel_rfl) (by kernel_rfl) (AP.ar (ap_len_nil rfl rfl)) rfl rfl ?_
            refine aany_take 6 rfl (.none rfl) (by kernel_rfl) (by kernel_rfl) (by kernel_rfl) (AP.ar (ap_arith rfl rfl rfl (by omega))) rfl rfl ?_
            refine aany_take 7 rfl (.none rfl) (by kernel_rfl) (by kernel_rfl) (by kernel_rfl) (AP.ar (ap_arith rfl rfl rfl (by omega))) rfl rfl ?_
            refine aany_take 8 rfl (.none rfl) (by kernel_rfl) (by kernel_rfl) (by kernel_rfl) (AP.ar (ap_quon rfl rfl (by omega))) rfl rfl ?_
            refine aany_take 12 rfl (.none rfl) (by kernel_rfl) (by kernel_rfl) (by kernel_rfl) (AP.ar (ap_arith rfl rfl rfl (by omega))) rfl rfl ?_
            refine aany_take 13 rfl (.none rfl) (by kernel_rfl) (by kernel_rfl) (by kernel_rfl) (AP.ar (ap_max rfl rfl)) rfl rfl ?_
            refine aany_take 14 rfl (.none rfl) (by kernel_rfl) (by kernel_rfl) (by kernel_rfl) (AP.ar (ap_min rfl rfl)) rfl rfl ?_
            first | refine aany_take 15 rfl (.none rfl) (by kernel_rfl) (by kernel_rfl) (by kernel_rfl) (AP.ar (ap_fieldAddr (off := 0) (sz := 1) (g := false) rfl rfl)) rfl rfl ?_ | refine aany_take 15 rfl (.none rfl) (by kernel_rfl) (by kernel_rfl) (by kernel_rfl) (AP.ar (ap_fieldAddr_el (off := 0) (sz := 1) (g := false) rfl rfl (by repeat constructor))) rfl rfl ?_
            refine aany_one 16 (by kernel_rfl) rfl (.none rfl) ?_
            first | refine aops_store rfl rfl (by first | exact .agg | exact .sl | exact .v rfl | exact .v (by assumption)) (by repeat (first | exact .here | apply UpdF.there)) rfl (by repeat constructor) ?_ | refine aops_store_own1 rfl rfl (by first | exact .sl | exact .v rfl | exact .v (by assumption)) (by repeat (first | exact .here | apply UpdF.there)) rfl (by simp only [List.length_set, List.length_map]; omega) ?_
            refine aops_nil ?_
            refine aany_nil (by kernel_rfl) ?_
          rotate_right
          case' _ =>
            first | refine aops_q (aq_load1 rfl (by repeat (first | exact .here | apply UpdF.there)) List.not_mem_nil rfl (by repeat constructor)) rfl rfl rfl ?_ | refine aops_q (aq_load_el1 rfl rfl (by first | exact .sl | exact .v rfl | exact .v (by assumption)) (fun _ h => absurd h List.not_mem_nil)) rfl rfl rfl ?_ | refine aops_q (aq_load_el1' rfl rfl (by first | exact .sl | exact .v rfl | exact .v (by assumption)) (fun _ h => absurd h List.not_mem_nil)) rfl rfl rfl ?_ | refine aops_q (aq_load_own1 rfl (by repeat (first | exact .here | apply UpdF.there)) List.not_mem_nil rfl (by first | with_reducible assumption | assumption | rfl) (by first | exact .sl | exact .v rfl | exact .v (by assumption))) rfl rfl rfl ?_
            refine aops_nil ?_
            first | refine aany_take 5 rfl (.none rfl) (by kernel_rfl) (by kernel_rfl) (by kernel_rfl) (AP.ar (ap_len rfl rfl)) rfl rfl ?_ | refine aany_take 5 rfl (.none rfl) (by kernel_rfl) (by kernel_rfl) (by kernel_rfl) (ar_len_arr rfl (by repeat (first | exact .here | apply UpdF.there)) rfl) rfl rfl ?_ | refine aany_take 5 rfl (.none rfl) (by kernel_rfl) (by kernel_rfl) (by kernel_rfl) (AP.ar (ap_len_nil rfl rfl)) rfl rfl ?_
            refine aany_take 6 rfl (.none rfl) (by kernel_rfl) (by kernel_rfl) (by kernel_rfl) (AP.ar (ap_arith rfl rfl rfl (by omega))) rfl rfl ?_
            refine aany_take 7 rfl (.none rfl) (by kernel_rfl) (by kernel_rfl) (by kernel_rfl) (AP.ar (ap_arith rfl rfl rfl (by omega))) rfl rfl ?_
            refine aany_take 8 rfl (.none rfl) (by kernel_rfl) (by kernel_rfl) (by kernel_rfl) (AP.ar (ap_quon rfl rfl (by omega))) rfl rfl ?_
            refine aany_one 11 (by kernel_rfl) rfl (.none rfl) ?_
            (refine aops_call (by repeat constructor) (Pick_con _ _ _ [0,0,0,1,-1] (by decide)) (by repeat (first | exact .nil | exact Split.none _ | apply Split.left | apply Split.right)) rfl rfl ?_; rintro _ _ ⟨r39, a39, rfl, hr39, rfl⟩; have hrb : -1 ≤ r39 ∧ r39 ≤ 1 := (by simp at hr39; omega))
            refine aops_nil ?_
            refine aany_take 12 rfl (.none rfl) (by kernel_rfl) (by kernel_rfl) (by kernel_rfl) (AP.ar (ap_arith rfl rfl rfl (by omega))) rfl rfl ?_
            refine aany_take 13 rfl (.none rfl) (by kernel_rfl) (by kernel_rfl) (by kernel_rfl) (AP.ar (ap_max rfl rfl)) rfl rfl ?_
            refine aany_take 14 rfl (.none rfl) (by kernel_rfl) (by kernel_rfl) (by kernel_rfl) (AP.ar (ap_min rfl rfl)) rfl rfl ?_
            first | refine aany_take 15 rfl (.none rfl) (by kernel_rfl) (by kernel_rfl) (by kernel_rfl) (AP.ar (ap_fieldAddr (off := 0) (sz := 1) (g := false) rfl rfl)) rfl rfl ?_ | refine aany_take 15 rfl (.none rfl) (by kernel_rfl) (by kernel_rfl) (by kernel_rfl) (AP.ar (ap_fieldAddr_el (off := 0) (sz := 1) (g := false) rfl rfl (by repeat constructor))) rfl rfl ?_
            refine aany_one 16 (by kernel_rfl) rfl (.none rfl) ?_
            first | refine aops_store rfl rfl (by first | exact .agg | exact .sl | exact .v rfl | exact .v (by assumption)) (by repeat (first | exact .here | apply UpdF.there)) rfl (by repeat constructor) ?_ | refine aops_store_own1 rfl rfl (by first | exact .sl | exact .v rfl | exact .v (by assumption)) (by repeat (first | exact .here | apply UpdF.there)) rfl (by simp only [List.length_set, List.length_map]; omega) ?_
            refine aops_nil ?_
            refine aany_nil (by kernel_rfl) ?_
        rotate_right
        case' _ =>
          first | refine aops_q (aq_load1 rfl (by repeat (first | exact .here | apply UpdF.there)) List.not_mem_nil rfl (by repeat constructor)) rfl rfl rfl ?_ | refine aops_q (aq_load_el1 rfl rfl (by first | exact .sl | exact .v rfl | exact .v (by assumption)) (fun _ h => absurd h List.not_mem_nil)) rfl rfl rfl ?_ | refine aops_q (aq_load_el1' rfl rfl (by first | exact .sl | exact .v rfl | exact .v (by assumption)) (fun _ h => absurd h List.not_mem_nil)) rfl rfl rfl ?_ | refine aops_q (aq_load_own1 rfl (by repeat (first | exact .here | apply UpdF.there)) List.not_mem_nil rfl (by first | with_reducible assumption | assumption | rfl) (by first | exact .sl | exact .v rfl | exact .v (by assumption))) rfl rfl rfl ?_
          refine aops_nil ?_
          first | refine aany_take 5 rfl (.none rfl) (by kernel_rfl) (by kernel_rfl) (by kernel_rfl) (AP.ar (ap_len rfl rfl)) rfl rfl ?_ | refine aany_take 5 rfl (.none rfl) (by kernel_rfl) (by kernel_rfl) (by kernel_rfl) (ar_len_arr rfl (by repeat (first | exact .here | apply UpdF.there)) rfl) rfl rfl ?_ | refine aany_take 5 rfl (.none rfl) (by kernel_rfl) (by kernel_rfl) (by kernel_rfl) (AP.ar (ap_len_nil rfl rfl)) rfl rfl ?_
          refine aany_take 6 rfl (.none rfl) (by kernel_rfl) (by kernel_rfl) (by kernel_rfl) (AP.ar (ap_arith rfl rfl rfl (by omega))) rfl rfl ?_
          refine aany_take 7 rfl (.none rfl) (by kernel_rfl) (by kernel_rfl) (by kernel_rfl) (AP.ar (ap_arith rfl rfl rfl (by omega))) rfl rfl ?_
          refine aany_take 8 rfl (.none rfl) (by kernel_rfl) (by kernel_rfl) (by kernel_rfl) (AP.ar (ap_quon rfl rfl (by omega))) rfl rfl ?_
          refine aany_one 10 (by kernel_rfl) rfl (.none rfl) ?_
          refine aops_lit (e := 3) (sz := 1) (by_ := 8) rfl rfl (by repeat constructor) rfl rfl rfl rfl ?_
          refine aops_nil ?_
          refine aany_one 11 (by kernel_rfl) rfl (.none rfl) ?_
          (refine aops_call (by repeat constructor) (Pick_con _ _ _ [0,0,0,1,-1] (by decide)) (by repeat (first | exact .nil | exact Split.none _ | apply Split.left | apply Split.right)) rfl rfl ?_; rintro _ _ ⟨r39, a39, rfl, hr39, rfl⟩; have hrb : -1 ≤ r39 ∧ r39 ≤ 1 := (by simp at hr39; omega))
          refine aops_nil ?_
          refine aany_take 12 rfl (.none rfl) (by kernel_rfl) (by kernel_rfl) (by kernel_rfl) (AP.ar (ap_arith rfl rfl rfl (by omega))) rfl rfl ?_
          refine aany_take 13 rfl (.none rfl) (by kernel_rfl) (by kernel_rfl) (by kernel_rfl) (AP.ar (ap_max rfl rfl)) rfl rfl ?_
          refine aany_take 14 rfl (.none rfl) (by kernel_rfl) (by kernel_rfl) (by kernel_rfl) (AP.ar (ap_min rfl rfl)) rfl rfl ?_
          first | refine aany_take 15 rfl (.none rfl) (by kernel_rfl) (by kernel_rfl) (by kernel_rfl) (AP.ar (ap_fieldAddr (off := 0) (sz := 1) (g := false) rfl rfl)) rfl rfl ?_ | refine aany_take 15 rfl (.none rfl) (by kernel_rfl) (by kernel_rfl) (by kernel_rfl) (AP.ar (ap_fieldAddr_el (off := 0) (sz := 1) (g := false) rfl rfl (by repeat constructor))) rfl rfl ?_
          refine aany_one 16 (by kernel_rfl) rfl (.none rfl) ?_
          first | refine aops_store rfl rfl (by first | exact .agg | exact .sl | exact .v rfl | exact .v (by assumption)) (by repeat (first | exact .here | apply UpdF.there)) rfl (by repeat constructor) ?_ | refine aops_store_own1 rfl rfl (by first | exact .sl | exact .v rfl | exact .v (by assumption)) (by repeat (first | exact .here | apply UpdF.there)) rfl (by simp only [List.length_set, List.length_map]; omega) ?_
          refine aops_nil ?_
          refine aany_nil (by kernel_rfl) ?_
      all_goals (
        refine seqQ_n ?_
        refine awp_seq ?_
        refine awp_region ?_
        first | refine aops_q (aq_load rfl (by repeat (first | exact .here | apply UpdF.there)) List.not_mem_nil rfl rfl (by repeat constructor)) rfl rfl rfl ?_ | refine aops_q (aq_load_el rfl rfl rfl rfl (fun _ h => absurd h List.not_mem_nil)) rfl rfl rfl ?_
        first | refine aops_store rfl rfl (by first | exact .agg | exact .sl | exact .v rfl | exact .v (by assumption)) (by repeat (first | exact .here | apply UpdF.there)) rfl (by repeat constructor) ?_ | refine aops_store_own1 rfl rfl (by first | exact .sl | exact .v rfl | exact .v (by assumption)) (by repeat (first | exact .here | apply UpdF.there)) rfl (by simp only [List.length_set, List.length_map]; omega) ?_
        refine aops_nil ?_
        refine seqQ_n ?_
        refine awp_unnil [4,5] 3 rfl (by repeat (first | exact .nil | apply SelC.cons rfl (by first | exact Cv.fz | (apply Cv.agg; repeat (first | exact CvL.nil | apply CvL.cons (by first | exact Cv.fz | exact Cv.same))) | exact Cv.same))) (by repeat (first | exact .nil | apply HeapA.box (by repeat (first | exact CvL.nil | apply CvL.cons (by first | exact Cv.fz | exact Cv.same))) | apply HeapA.arr)) ?_
        refine awp_ret ?_
        exact post_ret (.cell rfl (by repeat (first | exact .here | apply UpdF.there)) rfl rfl .nil) (by repeat (first | exact .nil | refine .cons (by first | exact .here | exact .there .here | exact .there (.there .here) | exact .there (.there (.there .here)) | exact .there (.there (.there (.there .here)))) ?_)) ⟨.mk _ p [], _, rfl, OKT_flat hn.2 (by omega) (by omega) hpm hpd hpl.2, rfl⟩
        )
      )
end Go.Proofs.Ytanlbfnlnfkcjaa
