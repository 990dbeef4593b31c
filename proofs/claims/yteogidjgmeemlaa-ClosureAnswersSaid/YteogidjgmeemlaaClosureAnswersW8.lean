/- The walks of: canswers_con. Each says what one function of the program answers, for the arguments that its statement names. No condition beyond what each theorem says. -/
import Derived.Test.YteogidjgmeemlaaClosureAnswersW7
import Derived.Test.YteogidjgmeemlaaProg
import Derived.KernelRfl
import Derived.Tactics
import Derived.Tactics2
import Derived.StillTactics
set_option linter.unusedVariables false
set_option linter.unusedSimpArgs false
set_option linter.unnecessarySimpa false
set_option maxRecDepth 4000
namespace Go.Proofs.Yteogidjgmeemlaa
open Go Go.Av Go.Tq
theorem canswers_con (l : List Int) (raw : List Mem) (x0 : Int) (lw : List Int) : Con Try.prog 6 [.sl 1 (l.map .i), cv raw, .i x0, .sl 1 (lw.map .i)] [] (Is (.b true) []) := by
  have hcap : capB = 140737488355328 := rfl
  refine con_intro Try.func6 rfl Try.call6 rfl ?_
  refine awp_seq ?_
  refine awp_region ?_
  refine aops_box rfl (by first | exact .agg | exact .sl | exact .v rfl | exact .v (by assumption)) rfl rfl (fun b5 => ?_)
  refine aops_p (ap_assign rfl) rfl rfl rfl ?_
  refine aops_nil ?_
  refine seqQ_n ?_
  refine awp_seq ?_
  refine awp_seq ?_
  refine awp_region ?_
  first | refine aops_q (aq_load rfl (by repeat (first | exact .here | apply UpdF.there)) List.not_mem_nil rfl rfl (by repeat constructor)) rfl rfl rfl ?_ | refine aops_q (aq_load_el rfl rfl rfl rfl (fun _ h => absurd h List.not_mem_nil)) rfl rfl rfl ?_
  (refine aops_call (by repeat constructor) (smallC_con raw) (by repeat (first | exact .nil | exact Split.none _ | apply Split.left | apply Split.right)) rfl rfl ?_; rintro _ _ ⟨c23, rfl, hs23, rfl⟩)
  refine aops_p (ap_not rfl) rfl rfl rfl ?_
  refine aops_p (ap_move rfl) rfl rfl rfl ?_
  all_goals (first | (refine aops_yes rfl rfl rfl rfl (by first | with_reducible assumption | with_reducible exact rfl | decide | (refine decide_eq_true ?_; omega) | (refine decide_eq_false ?_; omega)) ?_; (refine aops_p (ap_move rfl) rfl rfl rfl ?_)) | refine aops_no_u rfl rfl rfl ?_ | refine aops_no_f rfl rfl rfl rfl (by first | with_reducible assumption | with_reducible exact rfl | decide | (refine decide_eq_true ?_; omega) | (refine decide_eq_false ?_; omega)) ?_ | (refine aops_guard_f rfl rfl rfl rfl (fun hg => ?_) (fun hg => ?_); case' _ => (refine aops_p (ap_move rfl) rfl rfl rfl ?_)))
  all_goals (first | (refine aops_yes rfl rfl rfl rfl (by first | with_reducible assumption | with_reducible exact rfl | decide | (refine decide_eq_true ?_; omega) | (refine decide_eq_false ?_; omega)) ?_; (first | refine aops_len rfl rfl rfl rfl (fun _ => ?_) | refine aops_p (ap_len_arr rfl (by repeat (first | exact .here | apply UpdF.there)) rfl) rfl rfl rfl ?_ | refine aops_p (ap_len_nil rfl rfl) rfl rfl rfl ?_)) | refine aops_no_u rfl rfl rfl ?_ | refine aops_no_f rfl rfl rfl rfl (by first | with_reducible assumption | with_reducible exact rfl | decide | (refine decide_eq_true ?_; omega) | (refine decide_eq_false ?_; omega)) ?_ | (refine aops_guard_f rfl rfl rfl rfl (fun hg => ?_) (fun hg => ?_); case' _ => (first | refine aops_len rfl rfl rfl rfl (fun _ => ?_) | refine aops_p (ap_len_arr rfl (by repeat (first | exact .here | apply UpdF.there)) rfl) rfl rfl rfl ?_ | refine aops_p (ap_len_nil rfl rfl) rfl rfl rfl ?_)))
  all_goals (first | (refine aops_yes rfl rfl rfl rfl (by first | with_reducible assumption | with_reducible exact rfl | decide | (refine decide_eq_true ?_; omega) | (refine decide_eq_false ?_; omega)) ?_; (refine aops_p (ap_cmp rfl rfl rfl) rfl rfl rfl ?_)) | refine aops_no_u rfl rfl rfl ?_ | refine aops_no_f rfl rfl rfl rfl (by first | with_reducible assumption | with_reducible exact rfl | decide | (refine decide_eq_true ?_; omega) | (refine decide_eq_false ?_; omega)) ?_ | (refine aops_guard_f rfl rfl rfl rfl (fun hg => ?_) (fun hg => ?_); case' _ => (refine aops_p (ap_cmp rfl rfl rfl) rfl rfl rfl ?_)))
  all_goals (first | refine aops_p (ap_pick_true rfl (by first | with_reducible assumption | with_reducible exact rfl | decide | (refine decide_eq_true ?_; omega) | (refine decide_eq_false ?_; omega)) rfl) rfl rfl rfl ?_ | refine aops_p (ap_pick_false rfl (by first | with_reducible assumption | with_reducible exact rfl | decide | (refine decide_eq_true ?_; omega) | (refine decide_eq_false ?_; omega)) rfl) rfl rfl rfl ?_)
  all_goals (
    refine aops_nil ?_
    refine seqQ_n ?_
    refine awp_cond rfl (fun hc => ?_) (fun hc => ?_)
    · first
      | (exact absurd hc (by decide))
      | (refine awp_seq ?_
         refine awp_region ?_
         refine aops_call_v (by repeat constructor) (awake09_con) rfl rfl ?_
         refine aops_p (ap_assign rfl) rfl rfl rfl ?_
         refine aops_nil ?_
         refine seqQ_n ?_
         refine awp_ret ?_
         refine seqQ_r ?_
         first | (refine post_is (.tmp rfl .nil) (by repeat (first | exact .nil | refine .cons (by first | exact .here | exact .there .here | exact .there (.there .here) | exact .there (.there (.there .here)) | exact .there (.there (.there (.there .here)))) ?_)) rfl) | (exfalso; simp at hc; done) | (exfalso; simp at hg; done)
        )
    · first
      | (exact absurd hc (by decide))
      | (refine awp_skip ?_
         refine seqQ_n ?_
         refine awp_seq ?_
         refine awp_region ?_
         refine aops_p (ap_move rfl) rfl rfl rfl ?_
         (refine aops_call (by repeat constructor) (New_con l) (by repeat (first | exact .nil | exact Split.none _ | apply Split.left | apply Split.right)) rfl rfl ?_; rintro _ _ ⟨b32, rfl, rfl⟩)
         refine aops_p (ap_assign rfl) rfl rfl rfl ?_
         refine aops_nil ?_
         refine seqQ_n ?_
         refine awp_seq ?_
         refine awp_region ?_
         refine aops_p (ap_move rfl) rfl rfl rfl ?_
         (refine aops_call (by repeat constructor) (Config10_con _ _ _) (by repeat (first | exact .nil | exact Split.none _ | apply Split.left | apply Split.right)) rfl rfl ?_; rintro _ _ ⟨c, a34, rfl, ⟨hc0, hcl⟩, rfl⟩)
         refine aops_alloc rfl (by repeat constructor) rfl rfl (fun b10 => ?_)
         first | refine aops_store rfl rfl (by first | exact .agg | exact .sl | exact .v rfl | exact .v (by assumption)) (by repeat (first | exact .here | apply UpdF.there)) rfl (by repeat constructor) ?_ | refine aops_store_own1 rfl rfl (by first | exact .sl | exact .v rfl | exact .v (by assumption)) (by repeat (first | exact .here | apply UpdF.there)) rfl (by simp only [List.length_set, List.length_map]; omega) ?_
         refine aops_nil ?_
         refine seqQ_n ?_
         refine awp_seq ?_
         refine awp_seq ?_
         refine awp_draw (Hm := [.box b32 _ _]) (by kernel_rfl) (by repeat (first | exact .nil | exact Split.none _ | apply Split.left | apply Split.right)) ?_
         first | refine aany_take 0 rfl (.none rfl) (by kernel_rfl) (by kernel_rfl) (by kernel_rfl) (ar_load rfl (by repeat (first | exact .here | apply UpdF.there)) rfl rfl (by repeat constructor)) rfl rfl ?_ | refine aany_take 0 rfl (.none rfl) (by kernel_rfl) (by kernel_rfl) (by kernel_rfl) (AQ.ar (aq_load_el rfl rfl rfl rfl (fun _ h => h))) rfl rfl ?_
         refine aany_take 1 rfl (.none rfl) (by kernel_rfl) (by kernel_rfl) (by kernel_rfl) (AP.ar (ap_move rfl)) rfl rfl ?_
         first | refine aany_take 2 rfl (.none rfl) (by kernel_rfl) (by kernel_rfl) (by kernel_rfl) (ar_load rfl (by repeat (first | exact .here | apply UpdF.there)) rfl rfl (by repeat constructor)) rfl rfl ?_ | refine aany_take 2 rfl (.none rfl) (by kernel_rfl) (by kernel_rfl) (by kernel_rfl) (AQ.ar (aq_load_el rfl rfl rfl rfl (fun _ h => h))) rfl rfl ?_
         first | refine aany_take 4 rfl (.none rfl) (by kernel_rfl) (by kernel_rfl) (by kernel_rfl) (ar_load rfl (by repeat (first | exact .here | apply UpdF.there)) rfl rfl (by repeat constructor)) rfl rfl ?_ | refine aany_take 4 rfl (.none rfl) (by kernel_rfl) (by kernel_rfl) (by kernel_rfl) (AQ.ar (aq_load_el rfl rfl rfl rfl (fun _ h => h))) rfl rfl ?_
         refine aany_take 7 rfl (.none rfl) (by kernel_rfl) (by kernel_rfl) (by kernel_rfl) (AP.ar (ap_move rfl)) rfl rfl ?_
         refine aany_one 3 (by kernel_rfl) rfl (.none rfl) ?_
         (refine aops_call (by repeat constructor) (bentC_con _ _ c hc0.len 100000 ⟨by omega, okc_size hc0⟩ _) (by repeat (first | exact .nil | exact Split.none _ | apply Split.left | apply Split.right)) rfl rfl ?_; rintro _ _ ⟨c2, a38, rfl, hc2, rfl⟩)
         refine aops_nil ?_
         refine aany_one 5 (by kernel_rfl) rfl (.none rfl) ?_
         refine aops_lit (e := 27) (sz := 1) (by_ := 24) rfl rfl (by repeat constructor) rfl rfl rfl rfl ?_
         refine aops_nil ?_
         first | refine aany_take 6 rfl (.none rfl) (by kernel_rfl) (by kernel_rfl) (by kernel_rfl) (AP.ar (ap_len rfl rfl)) rfl rfl ?_ | refine aany_take 6 rfl (.none rfl) (by kernel_rfl) (by kernel_rfl) (by kernel_rfl) (ar_len_arr rfl (by repeat (first | exact .here | apply UpdF.there)) rfl) rfl rfl ?_ | refine aany_take 6 rfl (.none rfl) (by kernel_rfl) (by kernel_rfl) (by kernel_rfl) (AP.ar (ap_len_nil rfl rfl)) rfl rfl ?_
         refine aany_nil (by kernel_rfl) ?_
         all_goals (
           refine seqQ_n ?_
           refine awp_block ?_
           obtain ⟨ys, hys⟩ : ∃ ys, ys = [c, c2, raw] := ⟨_, rfl⟩
           have hyl : (ys.map cv).length = 3 := by rw [hys]; rfl
           have hyl2 : ys.length = 3 := by rw [hys]; rfl
           rw [show [D.agg [.sl 4 (c.map mv)], cv c2, D.agg [.sl 4 (raw.map mv)]] = ys.map cv from by rw [hys]; rfl]
           refine awp_loop2 [2, 3, 9, 40, 41] [] (fun (k : Nat) (a : Nat) r => (42, .i (k : Int)) :: r) (fun (k : Nat) (a : Nat) r => .box b32 81 [.sl 1 ((l.take 400).map .i), .i ((a : Nat) : Int)] :: r) (fun (k : Nat) (a : Nat) => k ≤ 3) (fun (k : Nat) (a : Nat) => 3 - k) (0) (a38) (by repeat constructor) (by omega) (wk (by repeat (first | exact .nil | refine .cons rfl ?_)) (by repeat (first | exact .nil | refine .cons (by first | exact .here | exact .there .here | exact .there (.there .here) | exact .there (.there (.there .here)) | exact .there (.there (.there (.there .here)))) ?_))) ?_
           intro k a hk
           refine awp_seq ?_
           refine awp_region ?_
           refine aops_p (ap_cmp rfl rfl rfl) rfl rfl rfl ?_
           refine aops_nil ?_
           refine seqQ_n ?_
           refine awp_seq ?_
           refine awp_cond rfl (fun hc => ?_) (fun hc => ?_)
           · have hlt := of_decide_eq_true hc
             obtain ⟨y, hy, _⟩ := drop_cons (l := ys) (k := k) (by omega)
             have hy' := getMap cv hy
             refine awp_skip ?_
             refine seqQ_n ?_
             refine awp_seq ?_
             refine awp_block ?_
             refine awp_seq ?_
             refine awp_region ?_
             first | refine aops_p (ap_index rfl rfl rfl rfl (by decide) rfl (by first | with_reducible assumption | assumption | rfl)) rfl rfl rfl ?_ | refine aops_p (ap_index rfl rfl rfl rfl (by decide) (by omega) (by first | with_reducible assumption | assumption | rfl)) rfl rfl rfl ?_ | refine aops_p (ap_index_own rfl rfl rfl rfl rfl (by first | omega | (simp only [List.length_map, List.length_set, avs_len]; omega))) rfl rfl rfl ?_
             first | refine aops_q (aq_load rfl (by repeat (first | exact .here | apply UpdF.there)) List.not_mem_nil rfl rfl (by repeat constructor)) rfl rfl rfl ?_ | refine aops_q (aq_load_el rfl rfl rfl rfl (fun _ h => absurd h List.not_mem_nil)) rfl rfl rfl ?_
             refine aops_alloc rfl (by repeat constructor) rfl rfl (fun b12 => ?_)
             first | refine aops_store rfl rfl (by first | exact .agg | exact .sl | exact .v rfl | exact .v (by assumption)) (by repeat (first | exact .here | apply UpdF.there)) rfl (by repeat constructor) ?_ | refine aops_store_own1 rfl rfl (by first | exact .sl | exact .v rfl | exact .v (by assumption)) (by repeat (first | exact .here | apply UpdF.there)) rfl (by simp only [List.length_set, List.length_map]; omega) ?_
             refine aops_nil ?_
             refine seqQ_n ?_
             refine awp_seq ?_
             refine awp_region ?_
             refine aops_p (ap_move rfl) rfl rfl rfl ?_
             refine aops_p (ap_move rfl) rfl rfl rfl ?_
             (refine aops_call (by repeat constructor) (N_con _ _ _ _ (by omega)) (by repeat (first | exact .nil | exact Split.none _ | apply Split.left | apply Split.right)) rfl rfl ?_; rintro _ _ ⟨r48, a48, rfl, hr48, rfl⟩; obtain ⟨x48, rfl⟩ := Int.eq_ofNat_of_zero_le hr48.1)
             refine aops_p (ap_move rfl) rfl rfl rfl ?_
             (refine aops_call (by repeat constructor) (N_con _ _ _ _ (by omega)) (by repeat (first | exact .nil | exact Split.none _ | apply Split.left | apply Split.right)) rfl rfl ?_; rintro _ _ ⟨r50, a50, rfl, hr50, rfl⟩; obtain ⟨x50, rfl⟩ := Int.eq_ofNat_of_zero_le hr50.1)
             refine aops_lit (e := 3) (sz := 1) (by_ := 8) rfl rfl (by repeat constructor) rfl rfl rfl rfl ?_
             first | refine aops_len rfl rfl rfl rfl (fun _ => ?_) | refine aops_p (ap_len_arr rfl (by repeat (first | exact .here | apply UpdF.there)) rfl) rfl rfl rfl ?_ | refine aops_p (ap_len_nil rfl rfl) rfl rfl rfl ?_
             refine aops_p (ap_move rfl) rfl rfl rfl ?_
             refine aops_nil ?_
             refine seqQ_n ?_
             refine awp_block ?_
             obtain ⟨zs, hzs⟩ : ∃ zs : List Int, zs = [x0, x48, x50, 1023] := ⟨_, rfl⟩
             have hzl : (zs.map D.i).length = 4 := by rw [hzs]; rfl
             have hzl2 : zs.length = 4 := by rw [hzs]; rfl
             rw [show [D.i x0, .i x48, .i x50, .i 1023] = zs.map D.i from by rw [hzs]; rfl]
             refine awp_loop2 [2, 3, 9, 12, 40, 41, 42, 51, 52] [.box b12 _ _] (fun (j : Nat) (a : Nat) r => (53, .i (j : Int)) :: r) (fun (j : Nat) (a : Nat) r => .box b32 81 [.sl 1 ((l.take 400).map .i), .i ((a : Nat) : Int)] :: r) (fun (j : Nat) (a : Nat) => j ≤ 4) (fun (j : Nat) (a : Nat) => 4 - j) (0) (a50) (by repeat constructor) (by omega) (wk (by repeat (first | exact .nil | refine .cons rfl ?_)) (by repeat (first | exact .nil | refine .cons (by first | exact .here | exact .there .here | exact .there (.there .here) | exact .there (.there (.there .here)) | exact .there (.there (.there (.there .here)))) ?_))) ?_
             intro j a hj
             refine awp_seq ?_
             refine awp_region ?_
             refine aops_p (ap_cmp rfl rfl rfl) rfl rfl rfl ?_
             refine aops_nil ?_
             refine seqQ_n ?_
             refine awp_seq ?_
             refine awp_cond rfl (fun hc => ?_) (fun hc => ?_)
             · have hlt := of_decide_eq_true hc
               obtain ⟨z, hz, _⟩ := drop_cons (l := zs) (k := j) (by omega)
               have hz' := getMap D.i hz
               refine awp_skip ?_
               refine seqQ_n ?_
               refine awp_seq ?_
               refine awp_block ?_
               refine awp_seq ?_
               refine awp_region ?_
               first | refine aops_p (ap_index rfl rfl rfl rfl (by decide) rfl (by first | with_reducible assumption | assumption | rfl)) rfl rfl rfl ?_ | refine aops_p (ap_index rfl rfl rfl rfl (by decide) (by omega) (by first | with_reducible assumption | assumption | rfl)) rfl rfl rfl ?_ | refine aops_p (ap_index_own rfl rfl rfl rfl rfl (by first | omega | (simp only [List.length_map, List.length_set, avs_len]; omega))) rfl rfl rfl ?_
               first | refine aops_q (aq_load1 rfl (by repeat (first | exact .here | apply UpdF.there)) List.not_mem_nil rfl (by repeat constructor)) rfl rfl rfl ?_ | refine aops_q (aq_load_el1 rfl rfl (by first | exact .sl | exact .v rfl | exact .v (by assumption)) (fun _ h => absurd h List.not_mem_nil)) rfl rfl rfl ?_ | refine aops_q (aq_load_el1' rfl rfl (by first | exact .sl | exact .v rfl | exact .v (by assumption)) (fun _ h => absurd h List.not_mem_nil)) rfl rfl rfl ?_ | refine aops_q (aq_load_own1 rfl (by repeat (first | exact .here | apply UpdF.there)) List.not_mem_nil rfl (by first | with_reducible assumption | assumption | rfl) (by first | exact .sl | exact .v rfl | exact .v (by assumption))) rfl rfl rfl ?_
               refine aops_p (ap_assign rfl) rfl rfl rfl ?_
               refine aops_nil ?_
               refine seqQ_n ?_
               refine awp_seq ?_
               refine awp_region ?_
               first | refine aops_q (aq_load rfl (by repeat (first | exact .here | apply UpdF.there)) List.not_mem_nil rfl rfl (by repeat constructor)) rfl rfl rfl ?_ | refine aops_q (aq_load_el rfl rfl rfl rfl (fun _ h => absurd h List.not_mem_nil)) rfl rfl rfl ?_
               refine aops_p (ap_move rfl) rfl rfl rfl ?_
               refine aops_call_v (by repeat constructor) (relim_con y z) rfl rfl ?_
               refine aops_p (ap_assign rfl) rfl rfl rfl ?_
               refine aops_nil ?_
               refine seqQ_n ?_
               refine awp_seq ?_
               refine awp_seq ?_
               refine awp_draw (Hm := []) (by kernel_rfl) (by repeat (first | exact .nil | exact Split.none _ | apply Split.left | apply Split.right)) ?_
               first | refine aany_take 0 rfl (.none rfl) (by kernel_rfl) (by kernel_rfl) (by kernel_rfl) (ar_load rfl (by repeat (first | exact .here | apply UpdF.there)) rfl rfl (by repeat constructor)) rfl rfl ?_ | refine aany_take 0 rfl (.none rfl) (by kernel_rfl) (by kernel_rfl) (by kernel_rfl) (AQ.ar (aq_load_el rfl rfl rfl rfl (fun _ h => h))) rfl rfl ?_
               refine aany_take 1 rfl (.none rfl) (by kernel_rfl) (by kernel_rfl) (by kernel_rfl) (AP.ar (ap_move rfl)) rfl rfl ?_
               first | refine aany_take 3 rfl (.none rfl) (by kernel_rfl) (by kernel_rfl) (by kernel_rfl) (ar_load rfl (by repeat (first | exact .here | apply UpdF.there)) rfl rfl (by repeat constructor)) rfl rfl ?_ | refine aany_take 3 rfl (.none rfl) (by kernel_rfl) (by kernel_rfl) (by kernel_rfl) (AQ.ar (aq_load_el rfl rfl rfl rfl (fun _ h => h))) rfl rfl ?_
               refine aany_take 4 rfl (.none rfl) (by kernel_rfl) (by kernel_rfl) (by kernel_rfl) (AP.ar (ap_move rfl)) rfl rfl ?_
               refine aany_one 2 (by kernel_rfl) rfl (.none rfl) ?_
               refine aops_call_b (by repeat constructor) (quorumV_con y z) rfl rfl (fun c62 hc62 => ?_)
               refine aops_nil ?_
               refine aany_one 5 (by kernel_rfl) rfl (.none rfl) ?_
               refine aops_call_v (by repeat constructor) (rqc hc62) rfl rfl ?_
               refine aops_nil ?_
               refine aany_take 6 rfl (.none rfl) (by kernel_rfl) (by kernel_rfl) (by kernel_rfl) (AP.ar (ap_neb rfl rfl rfl)) rfl rfl ?_
               refine aany_take 7 rfl (.none rfl) (by kernel_rfl) (by kernel_rfl) (by kernel_rfl) (AP.ar (ap_move rfl)) rfl rfl ?_
               refine aany_guard 7 rfl (fun hg => ?_) (fun hg => ?_)
               rotate_left
               case' _ =>
                 first
                 | (exact absurd hg (by decide))
                 | (exfalso; simp at hg; done)
                 | (first | refine aany_take 8 rfl (.yes rfl rfl (by first | with_reducible assumption | with_reducible exact rfl | decide | (refine decide_eq_true ?_; omega) | (refine decide_eq_false ?_; omega))) (by kernel_rfl) (by kernel_rfl) (by kernel_rfl) (ar_load rfl (by repeat (first | exact .here | apply UpdF.there)) rfl rfl (by repeat constructor)) rfl rfl ?_ | refine aany_take 8 rfl (.yes rfl rfl (by first | with_reducible assumption | with_reducible exact rfl | decide | (refine decide_eq_true ?_; omega) | (refine decide_eq_false ?_; omega))) (by kernel_rfl) (by kernel_rfl) (by kernel_rfl) (AQ.ar (aq_load_el rfl rfl rfl rfl (fun _ h => h))) rfl rfl ?_
                    refine aany_take 9 rfl (.yes rfl rfl (by first | with_reducible assumption | with_reducible exact rfl | decide | (refine decide_eq_true ?_; omega) | (refine decide_eq_false ?_; omega))) (by kernel_rfl) (by kernel_rfl) (by kernel_rfl) (AP.ar (ap_move rfl)) rfl rfl ?_
                    first | refine aany_take 11 rfl (.yes rfl rfl (by first | with_reducible assumption | with_reducible exact rfl | decide | (refine decide_eq_true ?_; omega) | (refine decide_eq_false ?_; omega))) (by kernel_rfl) (by kernel_rfl) (by kernel_rfl) (ar_load rfl (by repeat (first | exact .here | apply UpdF.there)) rfl rfl (by repeat constructor)) rfl rfl ?_ | refine aany_take 11 rfl (.yes rfl rfl (by first | with_reducible assumption | with_reducible exact rfl | decide | (refine decide_eq_true ?_; omega) | (refine decide_eq_false ?_; omega))) (by kernel_rfl) (by kernel_rfl) (by kernel_rfl) (AQ.ar (aq_load_el rfl rfl rfl rfl (fun _ h => h))) rfl rfl ?_
                    refine aany_take 12 rfl (.yes rfl rfl (by first | with_reducible assumption | with_reducible exact rfl | decide | (refine decide_eq_true ?_; omega) | (refine decide_eq_false ?_; omega))) (by kernel_rfl) (by kernel_rfl) (by kernel_rfl) (AP.ar (ap_move rfl)) rfl rfl ?_
                    refine aany_one 10 (by kernel_rfl) rfl (.yes rfl rfl (by first | with_reducible assumption | with_reducible exact rfl | decide | (refine decide_eq_true ?_; omega) | (refine decide_eq_false ?_; omega))) ?_
                    refine aops_call_v (by repeat constructor) (great_con y z) rfl rfl ?_
                    refine aops_nil ?_
                    refine aany_one 13 (by kernel_rfl) rfl (.yes rfl rfl (by first | with_reducible assumption | with_reducible exact rfl | decide | (refine decide_eq_true ?_; omega) | (refine decide_eq_false ?_; omega))) ?_
                    refine aops_call_v (by repeat constructor) (rgreat_con y z) rfl rfl ?_
                    refine aops_nil ?_
                    refine aany_take 14 rfl (.yes rfl rfl (by first | with_reducible assumption | with_reducible exact rfl | decide | (refine decide_eq_true ?_; omega) | (refine decide_eq_false ?_; omega))) (by kernel_rfl) (by kernel_rfl) (by kernel_rfl) (AP.ar (ap_cmp rfl rfl rfl)) rfl rfl ?_
                    first | refine aany_take 15 rfl (.none rfl) (by kernel_rfl) (by kernel_rfl) (by kernel_rfl) (AP.ar (ap_pick_true rfl (by first | with_reducible assumption | with_reducible exact rfl | decide | (refine decide_eq_true ?_; omega) | (refine decide_eq_false ?_; omega)) rfl)) rfl rfl ?_ | refine aany_take 15 rfl (.none rfl) (by kernel_rfl) (by kernel_rfl) (by kernel_rfl) (AP.ar (ap_pick_false rfl (by first | with_reducible assumption | with_reducible exact rfl | decide | (refine decide_eq_true ?_; omega) | (refine decide_eq_false ?_; omega)) rfl)) rfl rfl ?_
                    refine aany_take 16 rfl (.none rfl) (by kernel_rfl) (by kernel_rfl) (by kernel_rfl) (AP.ar (ap_move rfl)) rfl rfl ?_
                    refine aany_guard 16 rfl (fun hg => ?_) (fun hg => ?_)
                    rotate_left
                    case' _ =>
                      first
                      | (exact absurd hg (by decide))
                      | (exfalso; simp at hg; done)
                      | (first | refine aany_take 17 rfl (.yes rfl rfl (by first | with_reducible assumption | with_reducible exact rfl | decide | (refine decide_eq_true ?_; omega) | (refine decide_eq_false ?_; omega))) (by kernel_rfl) (by kernel_rfl) (by kernel_rfl) (ar_load rfl (by repeat (first | exact .here | apply UpdF.there)) rfl rfl (by repeat constructor)) rfl rfl ?_ | refine aany_take 17 rfl (.yes rfl rfl (by first | with_reducible assumption | with_reducible exact rfl | decide | (refine decide_eq_true ?_; omega) | (refine decide_eq_false ?_; omega))) (by kernel_rfl) (by kernel_rfl) (by kernel_rfl) (AQ.ar (aq_load_el rfl rfl rfl rfl (fun _ h => h))) rfl rfl ?_
                         refine aany_take 18 rfl (.yes rfl rfl (by first | with_reducible assumption | with_reducible exact rfl | decide | (refine decide_eq_true ?_; omega) | (refine decide_eq_false ?_; omega))) (by kernel_rfl) (by kernel_rfl) (by kernel_rfl) (AP.ar (ap_move rfl)) rfl rfl ?_
                         refine aany_take 20 rfl (.yes rfl rfl (by first | with_reducible assumption | with_reducible exact rfl | decide | (refine decide_eq_true ?_; omega) | (refine decide_eq_false ?_; omega))) (by kernel_rfl) (by kernel_rfl) (by kernel_rfl) (AP.ar (ap_move rfl)) rfl rfl ?_
                         refine aany_one 19 (by kernel_rfl) rfl (.yes rfl rfl (by first | with_reducible assumption | with_reducible exact rfl | decide | (refine decide_eq_true ?_; omega) | (refine decide_eq_false ?_; omega))) ?_
                         refine aops_call_v (by repeat constructor) (elimination_con y z) rfl rfl ?_
                         refine aops_nil ?_
                         refine aany_one 21 (by kernel_rfl) rfl (.yes rfl rfl (by first | with_reducible assumption | with_reducible exact rfl | decide | (refine decide_eq_true ?_; omega) | (refine decide_eq_false ?_; omega))) ?_
                         refine aops_call_v (by repeat constructor) (ints_con _ _) rfl rfl ?_
                         refine aops_nil ?_
                         refine aany_take 22 rfl (.yes rfl rfl (by first | with_reducible assumption | with_reducible exact rfl | decide | (refine decide_eq_true ?_; omega) | (refine decide_eq_false ?_; omega))) (by kernel_rfl) (by kernel_rfl) (by kernel_rfl) (AP.ar (ap_not rfl)) rfl rfl ?_
                         first | refine aany_take 23 rfl (.none rfl) (by kernel_rfl) (by kernel_rfl) (by kernel_rfl) (AP.ar (ap_pick_true rfl (by first | with_reducible assumption | with_reducible exact rfl | decide | (refine decide_eq_true ?_; omega) | (refine decide_eq_false ?_; omega)) rfl)) rfl rfl ?_ | refine aany_take 23 rfl (.none rfl) (by kernel_rfl) (by kernel_rfl) (by kernel_rfl) (AP.ar (ap_pick_false rfl (by first | with_reducible assumption | with_reducible exact rfl | decide | (refine decide_eq_true ?_; omega) | (refine decide_eq_false ?_; omega)) rfl)) rfl rfl ?_
                         refine aany_nil (by kernel_rfl) ?_
                        )
                    rotate_right
                    case' _ =>
                      first
                      | (exact absurd hg (by decide))
                      | (exfalso; simp at hg; done)
                      | (refine aany_skip 17 rfl (.no rfl rfl (by first | (show _ = true; with_reducible assumption) | exact (by first | with_reducible assumption | with_reducible exact rfl | decide | (refine decide_eq_true ?_; omega) | (refine decide_eq_false ?_; omega)))) (by kernel_rfl) (by kernel_rfl) (by kernel_rfl) rfl rfl ?_
                         refine aany_skip 18 rfl (.no rfl rfl (by first | (show _ = true; with_reducible assumption) | exact (by first | with_reducible assumption | with_reducible exact rfl | decide | (refine decide_eq_true ?_; omega) | (refine decide_eq_false ?_; omega)))) (by kernel_rfl) (by kernel_rfl) (by kernel_rfl) rfl rfl ?_
                         refine aany_skip 19 rfl (.no rfl rfl (by first | (show _ = true; with_reducible assumption) | exact (by first | with_reducible assumption | with_reducible exact rfl | decide | (refine decide_eq_true ?_; omega) | (refine decide_eq_false ?_; omega)))) (by kernel_rfl) (by kernel_rfl) (by kernel_rfl) rfl rfl ?_
                         refine aany_skip 20 rfl (.no rfl rfl (by first | (show _ = true; with_reducible assumption) | exact (by first | with_reducible assumption | with_reducible exact rfl | decide | (refine decide_eq_true ?_; omega) | (refine decide_eq_false ?_; omega)))) (by kernel_rfl) (by kernel_rfl) (by kernel_rfl) rfl rfl ?_
                         refine aany_skip 21 rfl (.no rfl rfl (by first | (show _ = true; with_reducible assumption) | exact (by first | with_reducible assumption | with_reducible exact rfl | decide | (refine decide_eq_true ?_; omega) | (refine decide_eq_false ?_; omega)))) (by kernel_rfl) (by kernel_rfl) (by kernel_rfl) rfl rfl ?_
                         refine aany_skip 22 rfl (.no rfl rfl (by first | (show _ = true; with_reducible assumption) | exact (by first | with_reducible assumption | with_reducible exact rfl | decide | (refine decide_eq_true ?_; omega) | (refine decide_eq_false ?_; omega)))) (by kernel_rfl) (by kernel_rfl) (by kernel_rfl) rfl rfl ?_
                         first | refine aany_take 23 rfl (.none rfl) (by kernel_rfl) (by kernel_rfl) (by kernel_rfl) (AP.ar (ap_pick_true rfl (by first | with_reducible assumption | with_reducible exact rfl | decide | (refine decide_eq_true ?_; omega) | (refine decide_eq_false ?_; omega)) rfl)) rfl rfl ?_ | refine aany_take 23 rfl (.none rfl) (by kernel_rfl) (by kernel_rfl) (by kernel_rfl) (AP.ar (ap_pick_false rfl (by first | with_reducible assumption | with_reducible exact rfl | decide | (refine decide_eq_true ?_; omega) | (refine decide_eq_false ?_; omega)) rfl)) rfl rfl ?_
                         refine aany_nil (by kernel_rfl) ?_
                        )
                   )
               rotate_right
               case' _ =>
                 first
                 | (exact absurd hg (by decide))
                 | (exfalso; simp at hg; done)
                 | (refine aany_skip 8 rfl (.no rfl rfl (by first | (show _ = true; with_reducible assumption) | exact (by first | with_reducible assumption | with_reducible exact rfl | decide | (refine decide_eq_true ?_; omega) | (refine decide_eq_false ?_; omega)))) (by kernel_rfl) (by kernel_rfl) (by kernel_rfl) rfl rfl ?_
                    refine aany_skip 9 rfl (.no rfl rfl (by first | (show _ = true; with_reducible assumption) | exact (by first | with_reducible assumption | with_reducible exact rfl | decide | (refine decide_eq_true ?_; omega) | (refine decide_eq_false ?_; omega)))) (by kernel_rfl) (by kernel_rfl) (by kernel_rfl) rfl rfl ?_
                    refine aany_skip 10 rfl (.no rfl rfl (by first | (show _ = true; with_reducible assumption) | exact (by first | with_reducible assumption | with_reducible exact rfl | decide | (refine decide_eq_true ?_; omega) | (refine decide_eq_false ?_; omega)))) (by kernel_rfl) (by kernel_rfl) (by kernel_rfl) rfl rfl ?_
                    refine aany_skip 11 rfl (.no rfl rfl (by first | (show _ = true; with_reducible assumption) | exact (by first | with_reducible assumption | with_reducible exact rfl | decide | (refine decide_eq_true ?_; omega) | (refine decide_eq_false ?_; omega)))) (by kernel_rfl) (by kernel_rfl) (by kernel_rfl) rfl rfl ?_
                    refine aany_skip 12 rfl (.no rfl rfl (by first | (show _ = true; with_reducible assumption) | exact (by first | with_reducible assumption | with_reducible exact rfl | decide | (refine decide_eq_true ?_; omega) | (refine decide_eq_false ?_; omega)))) (by kernel_rfl) (by kernel_rfl) (by kernel_rfl) rfl rfl ?_
                    refine aany_skip 13 rfl (.no rfl rfl (by first | (show _ = true; with_reducible assumption) | exact (by first | with_reducible assumption | with_reducible exact rfl | decide | (refine decide_eq_true ?_; omega) | (refine decide_eq_false ?_; omega)))) (by kernel_rfl) (by kernel_rfl) (by kernel_rfl) rfl rfl ?_
                    refine aany_skip 14 rfl (.no rfl rfl (by first | (show _ = true; with_reducible assumption) | exact (by first | with_reducible assumption | with_reducible exact rfl | decide | (refine decide_eq_true ?_; omega) | (refine decide_eq_false ?_; omega)))) (by kernel_rfl) (by kernel_rfl) (by kernel_rfl) rfl rfl ?_
                    first | refine aany_take 15 rfl (.none rfl) (by kernel_rfl) (by kernel_rfl) (by kernel_rfl) (AP.ar (ap_pick_true rfl (by first | with_reducible assumption | with_reducible exact rfl | decide | (refine decide_eq_true ?_; omega) | (refine decide_eq_false ?_; omega)) rfl)) rfl rfl ?_ | refine aany_take 15 rfl (.none rfl) (by kernel_rfl) (by kernel_rfl) (by kernel_rfl) (AP.ar (ap_pick_false rfl (by first | with_reducible assumption | with_reducible exact rfl | decide | (refine decide_eq_true ?_; omega) | (refine decide_eq_false ?_; omega)) rfl)) rfl rfl ?_
                    refine aany_take 16 rfl (.none rfl) (by kernel_rfl) (by kernel_rfl) (by kernel_rfl) (AP.ar (ap_move rfl)) rfl rfl ?_
                    refine aany_guard 16 rfl (fun hg => ?_) (fun hg => ?_)
                    rotate_left
                    case' _ =>
                      first
                      | (exact absurd hg (by decide))
                      | (exfalso; simp at hg; done)
                      | (first | refine aany_take 17 rfl (.yes rfl rfl (by first | with_reducible assumption | with_reducible exact rfl | decide | (refine decide_eq_true ?_; omega) | (refine decide_eq_false ?_; omega))) (by kernel_rfl) (by kernel_rfl) (by kernel_rfl) (ar_load rfl (by repeat (first | exact .here | apply UpdF.there)) rfl rfl (by repeat constructor)) rfl rfl ?_ | refine aany_take 17 rfl (.yes rfl rfl (by first | with_reducible assumption | with_reducible exact rfl | decide | (refine decide_eq_true ?_; omega) | (refine decide_eq_false ?_; omega))) (by kernel_rfl) (by kernel_rfl) (by kernel_rfl) (AQ.ar (aq_load_el rfl rfl rfl rfl (fun _ h => h))) rfl rfl ?_
                         refine aany_take 18 rfl (.yes rfl rfl (by first | with_reducible assumption | with_reducible exact rfl | decide | (refine decide_eq_true ?_; omega) | (refine decide_eq_false ?_; omega))) (by kernel_rfl) (by kernel_rfl) (by kernel_rfl) (AP.ar (ap_move rfl)) rfl rfl ?_
                         refine aany_take 20 rfl (.yes rfl rfl (by first | with_reducible assumption | with_reducible exact rfl | decide | (refine decide_eq_true ?_; omega) | (refine decide_eq_false ?_; omega))) (by kernel_rfl) (by kernel_rfl) (by kernel_rfl) (AP.ar (ap_move rfl)) rfl rfl ?_
                         refine aany_one 19 (by kernel_rfl) rfl (.yes rfl rfl (by first | with_reducible assumption | with_reducible exact rfl | decide | (refine decide_eq_true ?_; omega) | (refine decide_eq_false ?_; omega))) ?_
                         refine aops_call_v (by repeat constructor) (elimination_con y z) rfl rfl ?_
                         refine aops_nil ?_
                         refine aany_one 21 (by kernel_rfl) rfl (.yes rfl rfl (by first | with_reducible assumption | with_reducible exact rfl | decide | (refine decide_eq_true ?_; omega) | (refine decide_eq_false ?_; omega))) ?_
                         refine aops_call_v (by repeat constructor) (ints_con _ _) rfl rfl ?_
                         refine aops_nil ?_
                         refine aany_take 22 rfl (.yes rfl rfl (by first | with_reducible assumption | with_reducible exact rfl | decide | (refine decide_eq_true ?_; omega) | (refine decide_eq_false ?_; omega))) (by kernel_rfl) (by kernel_rfl) (by kernel_rfl) (AP.ar (ap_not rfl)) rfl rfl ?_
                         first | refine aany_take 23 rfl (.none rfl) (by kernel_rfl) (by kernel_rfl) (by kernel_rfl) (AP.ar (ap_pick_true rfl (by first | with_reducible assumption | with_reducible exact rfl | decide | (refine decide_eq_true ?_; omega) | (refine decide_eq_false ?_; omega)) rfl)) rfl rfl ?_ | refine aany_take 23 rfl (.none rfl) (by kernel_rfl) (by kernel_rfl) (by kernel_rfl) (AP.ar (ap_pick_false rfl (by first | with_reducible assumption | with_reducible exact rfl | decide | (refine decide_eq_true ?_; omega) | (refine decide_eq_false ?_; omega)) rfl)) rfl rfl ?_
                         refine aany_nil (by kernel_rfl) ?_
                        )
                    rotate_right
                    case' _ =>
                      first
                      | (exact absurd hg (by decide))
                      | (exfalso; simp at hg; done)
                      | (refine aany_skip 17 rfl (.no rfl rfl (by first | (show _ = true; with_reducible assumption) | exact (by first | with_reducible assumption | with_reducible exact rfl | decide | (refine decide_eq_true ?_; omega) | (refine decide_eq_false ?_; omega)))) (by kernel_rfl) (by kernel_rfl) (by kernel_rfl) rfl rfl ?_
                         refine aany_skip 18 rfl (.no rfl rfl (by first | (show _ = true; with_reducible assumption) | exact (by first | with_reducible assumption | with_reducible exact rfl | decide | (refine decide_eq_true ?_; omega) | (refine decide_eq_false ?_; omega)))) (by kernel_rfl) (by kernel_rfl) (by kernel_rfl) rfl rfl ?_
                         refine aany_skip 19 rfl (.no rfl rfl (by first | (show _ = true; with_reducible assumption) | exact (by first | with_reducible assumption | with_reducible exact rfl | decide | (refine decide_eq_true ?_; omega) | (refine decide_eq_false ?_; omega)))) (by kernel_rfl) (by kernel_rfl) (by kernel_rfl) rfl rfl ?_
                         refine aany_skip 20 rfl (.no rfl rfl (by first | (show _ = true; with_reducible assumption) | exact (by first | with_reducible assumption | with_reducible exact rfl | decide | (refine decide_eq_true ?_; omega) | (refine decide_eq_false ?_; omega)))) (by kernel_rfl) (by kernel_rfl) (by kernel_rfl) rfl rfl ?_
                         refine aany_skip 21 rfl (.no rfl rfl (by first | (show _ = true; with_reducible assumption) | exact (by first | with_reducible assumption | with_reducible exact rfl | decide | (refine decide_eq_true ?_; omega) | (refine decide_eq_false ?_; omega)))) (by kernel_rfl) (by kernel_rfl) (by kernel_rfl) rfl rfl ?_
                         refine aany_skip 22 rfl (.no rfl rfl (by first | (show _ = true; with_reducible assumption) | exact (by first | with_reducible assumption | with_reducible exact rfl | decide | (refine decide_eq_true ?_; omega) | (refine decide_eq_false ?_; omega)))) (by kernel_rfl) (by kernel_rfl) (by kernel_rfl) rfl rfl ?_
                         first | refine aany_take 23 rfl (.none rfl) (by kernel_rfl) (by kernel_rfl) (by kernel_rfl) (AP.ar (ap_pick_true rfl (by first | with_reducible assumption | with_reducible exact rfl | decide | (refine decide_eq_true ?_; omega) | (refine decide_eq_false ?_; omega)) rfl)) rfl rfl ?_ | refine aany_take 23 rfl (.none rfl) (by kernel_rfl) (by kernel_rfl) (by kernel_rfl) (AP.ar (ap_pick_false rfl (by first | with_reducible assumption | with_reducible exact rfl | decide | (refine decide_eq_true ?_; omega) | (refine decide_eq_false ?_; omega)) rfl)) rfl rfl ?_
                         refine aany_nil (by kernel_rfl) ?_
                        )
                   )
               all_goals (
                 refine seqQ_n ?_
                 refine awp_cond rfl (fun hc => ?_) (fun hc => ?_)
                 · first
                   | (exact absurd hc (by decide))
                   | (refine awp_seq ?_
                      refine awp_region ?_
                      refine aops_p (ap_assign rfl) rfl rfl rfl ?_
                      refine aops_nil ?_
                      refine seqQ_n ?_
                      refine awp_ret ?_
                      refine seqQ_r ?_
                      refine blockQ_r ?_
                      refine seqQ_r ?_
                      refine seqQ_r ?_
                      refine blockQ_r ?_
                      refine blockQ_r ?_
                      refine seqQ_r ?_
                      refine seqQ_r ?_
                      refine blockQ_r ?_
                      refine seqQ_r ?_
                      first | (refine post_is (.tmp rfl .nil) (by repeat (first | exact .nil | refine .cons (by first | exact .here | exact .there .here | exact .there (.there .here) | exact .there (.there (.there .here)) | exact .there (.there (.there (.there .here)))) ?_)) rfl) | (exfalso; simp at hc; done) | (exfalso; simp at hg; done)
                     )
                 · first
                   | (exact absurd hc (by decide))
                   | (refine awp_skip ?_
                      refine seqQ_n ?_
                      refine awp_seq ?_
                      refine awp_region ?_
                      refine aops_p (ap_move rfl) rfl rfl rfl ?_
                      refine aops_p (ap_move rfl) rfl rfl rfl ?_
                      refine aops_p (ap_move rfl) rfl rfl rfl ?_
                      refine aops_p (ap_move rfl) rfl rfl rfl ?_
                      first | refine aops_len rfl rfl rfl rfl (fun _ => ?_) | refine aops_p (ap_len_arr rfl (by repeat (first | exact .here | apply UpdF.there)) rfl) rfl rfl rfl ?_ | refine aops_p (ap_len_nil rfl rfl) rfl rfl rfl ?_
                      (refine aops_call (by repeat constructor) (Order_con _ _ _ ((gOrder y z).map D.i).length (by have := gOrder_len y z; simp; omega)) (by repeat (first | exact .nil | exact Split.none _ | apply Split.left | apply Split.right)) rfl rfl ?_; rintro _ _ ⟨od, a89, rfl, hod, rfl⟩)
                      refine aops_own (e := 3) (sz := 1) (by_ := 8) rfl rfl (by repeat constructor) rfl rfl rfl rfl (fun v90 hv90 => ?_)
                      refine aops_p (ap_move rfl) rfl rfl rfl ?_
                      first | refine aops_append (e := 3) (sz := 1) (by_ := 8) rfl (by repeat (first | exact .here | apply UpdF.there)) rfl rfl rfl rfl rfl (by have := gOrder_len y z; simp only [List.length_cons, List.length_nil, List.length_append, List.length_map]; omega) (fun v92 hv92 => ?_) | refine aops_append_nil (e := 3) (sz := 1) (by_ := 8) rfl rfl rfl rfl rfl rfl (by have := gOrder_len y z; simp only [List.length_cons, List.length_nil, List.length_append, List.length_map]; omega) (fun v92 hv92 => ?_)
                      refine aops_p (ap_move rfl) rfl rfl rfl ?_
                      (refine aops_call (by repeat constructor) (N_con _ _ _ _ (by omega)) (by repeat (first | exact .nil | exact Split.none _ | apply Split.left | apply Split.right)) rfl rfl ?_; rintro _ _ ⟨r94, a94, rfl, hr94, rfl⟩; obtain ⟨x94, rfl⟩ := Int.eq_ofNat_of_zero_le hr94.1)
                      refine aops_lit (e := 3) (sz := 1) (by_ := 8) rfl rfl (by repeat constructor) rfl rfl rfl rfl ?_
                      first | refine aops_append (e := 3) (sz := 1) (by_ := 8) rfl (by repeat (first | exact .here | apply UpdF.there)) rfl rfl rfl rfl rfl (by have := gOrder_len y z; simp only [List.length_cons, List.length_nil, List.length_append, List.length_map]; omega) (fun v96 hv96 => ?_) | refine aops_append_nil (e := 3) (sz := 1) (by_ := 8) rfl rfl rfl rfl rfl rfl (by have := gOrder_len y z; simp only [List.length_cons, List.length_nil, List.length_append, List.length_map]; omega) (fun v96 hv96 => ?_)
                      refine aops_freeze v96 [2,3,9,12,14,40,41,42,51,52,53,84,85,89,96] rfl (by repeat (first | exact .here | apply Rem.there)) (by repeat (first | exact .nil | apply SelC.cons rfl (by first | exact Cv.fz | (apply Cv.agg; repeat (first | exact CvL.nil | apply CvL.cons (by first | exact Cv.fz | exact Cv.same))) | exact Cv.same))) (by repeat (first | exact .nil | apply HeapA.box (by repeat (first | exact CvL.nil | apply CvL.cons (by first | exact Cv.fz | exact Cv.same))) | apply HeapA.arr)) ?_; refine aops_lit (e := 22) (sz := 1) (by_ := 24) rfl rfl (by repeat constructor) rfl rfl rfl rfl ?_
                      first | refine aops_len rfl rfl rfl rfl (fun _ => ?_) | refine aops_p (ap_len_arr rfl (by repeat (first | exact .here | apply UpdF.there)) rfl) rfl rfl rfl ?_ | refine aops_p (ap_len_nil rfl rfl) rfl rfl rfl ?_
                      refine aops_p (ap_move rfl) rfl rfl rfl ?_
                      refine aops_nil ?_
                      refine seqQ_n ?_
                      refine awp_block ?_
                      obtain ⟨ws, hws⟩ : ∃ ws : List (List Int), ws = [lw, gOrder y z, od, gOrder y z ++ [(x94 : Int)]] := ⟨_, rfl⟩
                      have hwl : (ws.map (fun w : List Int => D.sl 1 (w.map .i))).length = 4 := by rw [hws]; rfl
                      have hwl2 : ws.length = 4 := by rw [hws]; rfl
                      rw [show [D.sl 1 (lw.map .i), .sl 1 ((gOrder y z).map .i), .sl 1 (od.map .i), .sl 1 ([] ++ (gOrder y z).map .i ++ [.i x94])] = ws.map (fun w : List Int => D.sl 1 (w.map .i)) from by rw [hws]; simp]
                      refine awp_loop1 [2, 3, 9, 12, 14, 40, 41, 42, 51, 52, 53, 97, 98] [.box b12 _ _, .box b32 _ _] (fun (i : Nat) r => (99, .i (i : Int)) :: r) (fun (i : Nat) r => r) (fun (i : Nat) => i ≤ 4) (fun (i : Nat) => 4 - i) (0) (by repeat constructor) (by omega) (wk (by repeat (first | exact .nil | refine .cons rfl ?_)) (by repeat (first | exact .nil | refine .cons (by first | exact .here | exact .there .here | exact .there (.there .here) | exact .there (.there (.there .here)) | exact .there (.there (.there (.there .here)))) ?_))) ?_
                      intro i hi
                      refine awp_seq ?_
                      refine awp_region ?_
                      refine aops_p (ap_cmp rfl rfl rfl) rfl rfl rfl ?_
                      refine aops_nil ?_
                      refine seqQ_n ?_
                      refine awp_seq ?_
                      refine awp_cond rfl (fun hc => ?_) (fun hc => ?_)
                      · have hlt := of_decide_eq_true hc
                        obtain ⟨w, hw, _⟩ := drop_cons (l := ws) (k := i) (by omega)
                        have hw' := getMap (fun w : List Int => D.sl 1 (w.map .i)) hw
                        refine awp_skip ?_
                        refine seqQ_n ?_
                        refine awp_seq ?_
                        refine awp_block ?_
                        refine awp_seq ?_
                        refine awp_region ?_
                        first | refine aops_p (ap_index rfl rfl rfl rfl (by decide) rfl (by first | with_reducible assumption | assumption | rfl)) rfl rfl rfl ?_ | refine aops_p (ap_index rfl rfl rfl rfl (by decide) (by omega) (by first | with_reducible assumption | assumption | rfl)) rfl rfl rfl ?_ | refine aops_p (ap_index_own rfl rfl rfl rfl rfl (by first | omega | (simp only [List.length_map, List.length_set, avs_len]; omega))) rfl rfl rfl ?_
                        first | refine aops_q (aq_load1 rfl (by repeat (first | exact .here | apply UpdF.there)) List.not_mem_nil rfl (by repeat constructor)) rfl rfl rfl ?_ | refine aops_q (aq_load_el1 rfl rfl (by first | exact .sl | exact .v rfl | exact .v (by assumption)) (fun _ h => absurd h List.not_mem_nil)) rfl rfl rfl ?_ | refine aops_q (aq_load_el1' rfl rfl (by first | exact .sl | exact .v rfl | exact .v (by assumption)) (fun _ h => absurd h List.not_mem_nil)) rfl rfl rfl ?_ | refine aops_q (aq_load_own1 rfl (by repeat (first | exact .here | apply UpdF.there)) List.not_mem_nil rfl (by first | with_reducible assumption | assumption | rfl) (by first | exact .sl | exact .v rfl | exact .v (by assumption))) rfl rfl rfl ?_
                        refine aops_p (ap_assign rfl) rfl rfl rfl ?_
                        refine aops_nil ?_
                        refine seqQ_n ?_
                        refine awp_seq ?_
                        refine awp_region ?_
                        first | refine aops_q (aq_load rfl (by repeat (first | exact .here | apply UpdF.there)) List.not_mem_nil rfl rfl (by repeat constructor)) rfl rfl rfl ?_ | refine aops_q (aq_load_el rfl rfl rfl rfl (fun _ h => absurd h List.not_mem_nil)) rfl rfl rfl ?_
                        refine aops_p (ap_move rfl) rfl rfl rfl ?_
                        refine aops_p (ap_move rfl) rfl rfl rfl ?_
                        refine aops_call_v (by repeat constructor) (checkV_con y z w) rfl rfl ?_
                        refine aops_p (ap_move rfl) rfl rfl rfl ?_
                        refine aops_p (ap_extract rfl rfl) rfl rfl rfl ?_
                        refine aops_p (ap_extract rfl rfl) rfl rfl rfl ?_
                        refine aops_p (ap_assign rfl) rfl rfl rfl ?_
                        refine aops_p (ap_assign rfl) rfl rfl rfl ?_
                        refine aops_nil ?_
                        refine seqQ_n ?_
                        refine awp_seq ?_
                        refine awp_region ?_
                        first | refine aops_q (aq_load rfl (by repeat (first | exact .here | apply UpdF.there)) List.not_mem_nil rfl rfl (by repeat constructor)) rfl rfl rfl ?_ | refine aops_q (aq_load_el rfl rfl rfl rfl (fun _ h => absurd h List.not_mem_nil)) rfl rfl rfl ?_
                        refine aops_p (ap_move rfl) rfl rfl rfl ?_
                        refine aops_p (ap_move rfl) rfl rfl rfl ?_
                        refine aops_call_v (by repeat constructor) (rcheckV_con y z w) rfl rfl ?_
                        refine aops_p (ap_move rfl) rfl rfl rfl ?_
                        refine aops_p (ap_extract rfl rfl) rfl rfl rfl ?_
                        refine aops_p (ap_extract rfl rfl) rfl rfl rfl ?_
                        refine aops_p (ap_assign rfl) rfl rfl rfl ?_
                        refine aops_p (ap_assign rfl) rfl rfl rfl ?_
                        refine aops_nil ?_
                        refine seqQ_n ?_
                        refine awp_seq ?_
                        refine awp_region ?_
                        refine aops_p (ap_move rfl) rfl rfl rfl ?_
                        refine aops_p (ap_move rfl) rfl rfl rfl ?_
                        refine aops_p (ap_cmp rfl rfl rfl) rfl rfl rfl ?_
                        refine aops_p (ap_move rfl) rfl rfl rfl ?_
                        all_goals (first | (refine aops_yes rfl rfl rfl rfl (by first | with_reducible assumption | with_reducible exact rfl | decide | (refine decide_eq_true ?_; omega) | (refine decide_eq_false ?_; omega)) ?_; (refine aops_p (ap_move rfl) rfl rfl rfl ?_)) | refine aops_no_u rfl rfl rfl ?_ | refine aops_no_f rfl rfl rfl rfl (by first | with_reducible assumption | with_reducible exact rfl | decide | (refine decide_eq_true ?_; omega) | (refine decide_eq_false ?_; omega)) ?_ | (refine aops_guard_f rfl rfl rfl rfl (fun hg => ?_) (fun hg => ?_); case' _ => (refine aops_p (ap_move rfl) rfl rfl rfl ?_)))
                        all_goals (first | (refine aops_yes rfl rfl rfl rfl (by first | with_reducible assumption | with_reducible exact rfl | decide | (refine decide_eq_true ?_; omega) | (refine decide_eq_false ?_; omega)) ?_; (refine aops_p (ap_move rfl) rfl rfl rfl ?_)) | refine aops_no_u rfl rfl rfl ?_ | refine aops_no_f rfl rfl rfl rfl (by first | with_reducible assumption | with_reducible exact rfl | decide | (refine decide_eq_true ?_; omega) | (refine decide_eq_false ?_; omega)) ?_ | (refine aops_guard_f rfl rfl rfl rfl (fun hg => ?_) (fun hg => ?_); case' _ => (refine aops_p (ap_move rfl) rfl rfl rfl ?_)))
                        all_goals (first | (refine aops_yes rfl rfl rfl rfl (by first | with_reducible assumption | with_reducible exact rfl | decide | (refine decide_eq_true ?_; omega) | (refine decide_eq_false ?_; omega)) ?_; (refine aops_p (ap_cmp rfl rfl rfl) rfl rfl rfl ?_)) | refine aops_no_u rfl rfl rfl ?_ | refine aops_no_f rfl rfl rfl rfl (by first | with_reducible assumption | with_reducible exact rfl | decide | (refine decide_eq_true ?_; omega) | (refine decide_eq_false ?_; omega)) ?_ | (refine aops_guard_f rfl rfl rfl rfl (fun hg => ?_) (fun hg => ?_); case' _ => (refine aops_p (ap_cmp rfl rfl rfl) rfl rfl rfl ?_)))
                        all_goals (first | refine aops_p (ap_pick_true rfl (by first | with_reducible assumption | with_reducible exact rfl | decide | (refine decide_eq_true ?_; omega) | (refine decide_eq_false ?_; omega)) rfl) rfl rfl rfl ?_ | refine aops_p (ap_pick_false rfl (by first | with_reducible assumption | with_reducible exact rfl | decide | (refine decide_eq_true ?_; omega) | (refine decide_eq_false ?_; omega)) rfl) rfl rfl rfl ?_)
                        all_goals (
                          refine aops_nil ?_
                          refine seqQ_n ?_
                          refine awp_cond rfl (fun hc => ?_) (fun hc => ?_)
                          · first
                            | (exact absurd hc (by decide))
                            | (refine awp_seq ?_
                               refine awp_region ?_
                               refine aops_p (ap_assign rfl) rfl rfl rfl ?_
                               refine aops_nil ?_
                               refine seqQ_n ?_
                               refine awp_ret ?_
                               refine blockQ_r ?_
                               refine seqQ_r ?_
                               refine seqQ_r ?_
                               refine blockQ_r ?_
                               refine blockQ_r ?_
                               refine seqQ_r ?_
                               refine seqQ_r ?_
                               refine blockQ_r ?_
                               refine blockQ_r ?_
                               refine seqQ_r ?_
                               refine seqQ_r ?_
                               refine blockQ_r ?_
                               refine seqQ_r ?_
                               first | (refine post_is (.tmp rfl .nil) (by repeat (first | exact .nil | refine .cons (by first | exact .here | exact .there .here | exact .there (.there .here) | exact .there (.there (.there .here)) | exact .there (.there (.there (.there .here)))) ?_)) rfl) | (exfalso; simp at hc; done) | (exfalso; simp at hg; done)
                              )
                          · first
                            | (exact absurd hc (by decide))
                            | (refine awp_skip ?_
                               refine blockQ_n ?_
                               refine seqQ_n ?_
                               refine awp_region ?_
                               refine aops_p (ap_arith rfl rfl rfl (by omega)) rfl rfl rfl ?_
                               refine aops_p (ap_move rfl) rfl rfl rfl ?_
                               refine aops_nil ?_
                               refine seqQ_n ?_
                               refine ⟨i + 1, by omega, by omega, wk (by repeat (first | exact .nil | refine .cons rfl ?_)) (by repeat (first | exact .nil | refine .cons (by first | exact .here | exact .there .here | exact .there (.there .here) | exact .there (.there (.there .here)) | exact .there (.there (.there (.there .here)))) ?_))⟩
                              )
                          )
                      · refine awp_exit ?_
                        refine seqQ_x ?_
                        refine seqQ_x ?_
                        refine blockQ_x rfl ?_
                        refine blockQ_n ?_
                        refine seqQ_n ?_
                        refine awp_region ?_
                        refine aops_p (ap_arith rfl rfl rfl (by omega)) rfl rfl rfl ?_
                        refine aops_p (ap_move rfl) rfl rfl rfl ?_
                        refine aops_nil ?_
                        refine seqQ_n ?_
                        refine ⟨j + 1, _, by omega, by omega, wk (by repeat (first | exact .nil | refine .cons rfl ?_)) (by repeat (first | exact .nil | refine .cons (by first | exact .here | exact .there .here | exact .there (.there .here) | exact .there (.there (.there .here)) | exact .there (.there (.there (.there .here)))) ?_))⟩
                     )
                 )
             · refine awp_exit ?_
               refine seqQ_x ?_
               refine seqQ_x ?_
               refine blockQ_x rfl ?_
               refine blockQ_n ?_
               refine seqQ_n ?_
               refine awp_region ?_
               refine aops_p (ap_arith rfl rfl rfl (by omega)) rfl rfl rfl ?_
               refine aops_p (ap_move rfl) rfl rfl rfl ?_
               refine aops_nil ?_
               refine seqQ_n ?_
               refine ⟨k + 1, _, by omega, by omega, wk (by repeat (first | exact .nil | refine .cons rfl ?_)) (by repeat (first | exact .nil | refine .cons (by first | exact .here | exact .there .here | exact .there (.there .here) | exact .there (.there (.there .here)) | exact .there (.there (.there (.there .here)))) ?_))⟩
           · refine awp_exit ?_
             refine seqQ_x ?_
             refine seqQ_x ?_
             refine blockQ_x rfl ?_
             refine seqQ_n ?_
             refine awp_seq ?_
             refine awp_region ?_
             refine aops_call_v (by repeat constructor) (awake09_con) rfl rfl ?_
             refine aops_p (ap_assign rfl) rfl rfl rfl ?_
             refine aops_nil ?_
             refine seqQ_n ?_
             refine awp_ret ?_
             first | (refine post_is (.tmp rfl .nil) (by repeat (first | exact .nil | refine .cons (by first | exact .here | exact .there .here | exact .there (.there .here) | exact .there (.there (.there .here)) | exact .there (.there (.there (.there .here)))) ?_)) rfl) | (exfalso; simp at hc; done) | (exfalso; simp at hg; done)
           )
        )
    )
end Go.Proofs.Yteogidjgmeemlaa
