/- The walks of: cmp_con, diff_con, joined_con, near_con, low_con, high_con. Each says what one function of the program answers, for the arguments that its statement names. No condition beyond what each theorem says. -/
import Derived.Test.YtegejdhkckndaaaFederatedBelievesW5
import Derived.Test.YtegejdhkckndaaaProg
import Derived.KernelRfl
import Derived.Tactics
import Derived.Tactics2
import Derived.StillTactics
set_option linter.unusedVariables false
set_option linter.unusedSimpArgs false
set_option linter.unnecessarySimpa false
set_option maxRecDepth 4000
namespace Go.Proofs.Ytegejdhkckndaaa
open Go Go.Av Go.Tq
theorem cmp_con : ∀ (a b : Trust), Con Try.prog 88 [av a, av b] [] (Is (.i (cmpT a b)) []) := by
  have hcap : capB = 140737488355328 := rfl
  intro a
  induction a using Trust.ind with
  | _ a ih =>
    intro b
    have hn1 : (a.nodes.map D.i).length = a.nodes.length := by simp
    have hn2 : (b.nodes.map D.i).length = b.nodes.length := by simp
    have hi1 := avs_len a.inner
    have hi2 := avs_len b.inner
    refine con_intro Try.func88 rfl Try.call88 rfl ?_
    refine awp_seq ?_
    refine awp_region ?_
    refine aops_box rfl zFlat rfl rfl (fun b2 => ?_)
    refine aops_box rfl zFlat rfl rfl (fun b3 => ?_)
    refine aops_p (ap_assign rfl) rfl rfl rfl ?_
    refine aops_nil ?_
    refine seqQ_n ?_
    refine awp_seq ?_
    refine awp_seq ?_
    refine awp_region ?_
    first | refine aops_p (ap_fieldAddr (off := 0) (sz := 1) (g := false) rfl rfl) rfl rfl rfl ?_ | refine aops_p (ap_fieldAddr_el (off := 0) (sz := 1) (g := false) rfl rfl zRc) rfl rfl rfl ?_
    first | refine aops_q (aq_load1 rfl zUpd List.not_mem_nil rfl zRc) rfl rfl rfl ?_ | refine aops_q (aq_load_el1 rfl rfl zScal (fun _ h => absurd h List.not_mem_nil)) rfl rfl rfl ?_ | refine aops_q (aq_load_el1' rfl rfl zScal (fun _ h => absurd h List.not_mem_nil)) rfl rfl rfl ?_ | refine aops_q (aq_load_own1 rfl zUpd List.not_mem_nil rfl zAss zScal) rfl rfl rfl ?_
    first | refine aops_p (ap_fieldAddr (off := 0) (sz := 1) (g := false) rfl rfl) rfl rfl rfl ?_ | refine aops_p (ap_fieldAddr_el (off := 0) (sz := 1) (g := false) rfl rfl zRc) rfl rfl rfl ?_
    first | refine aops_q (aq_load1 rfl zUpd List.not_mem_nil rfl zRc) rfl rfl rfl ?_ | refine aops_q (aq_load_el1 rfl rfl zScal (fun _ h => absurd h List.not_mem_nil)) rfl rfl rfl ?_ | refine aops_q (aq_load_el1' rfl rfl zScal (fun _ h => absurd h List.not_mem_nil)) rfl rfl rfl ?_ | refine aops_q (aq_load_own1 rfl zUpd List.not_mem_nil rfl zAss zScal) rfl rfl rfl ?_
    refine aops_call_v zRc (sign_con _ _) rfl rfl ?_
    refine aops_p (ap_assign rfl) rfl rfl rfl ?_
    refine aops_nil ?_
    refine seqQ_n ?_
    refine awp_seq ?_
    refine awp_region ?_
    refine aops_p (ap_move rfl) rfl rfl rfl ?_
    refine aops_p (ap_cmp rfl rfl rfl) rfl rfl rfl ?_
    refine aops_nil ?_
    refine seqQ_n ?_
    refine awp_cond rfl (fun hc => ?_) (fun hc => ?_)
    · have hth := of_neq_true hc
      refine awp_seq ?_
      refine awp_region ?_
      refine aops_p (ap_move rfl) rfl rfl rfl ?_
      refine aops_p (ap_assign rfl) rfl rfl rfl ?_
      refine aops_nil ?_
      refine seqQ_n ?_
      refine awp_ret ?_
      refine seqQ_r ?_
      refine post_is (.tmp rfl .nil) (by repeat (first | exact .nil | refine .cons (by first | exact .here | exact .there .here | exact .there (.there .here) | exact .there (.there (.there .here)) | exact .there (.there (.there (.there .here)))) ?_)) ?_
      rw [cmpT_1 hth]; rfl
    · have hth := of_neq_false hc
      refine awp_skip ?_
      refine seqQ_n ?_
      refine awp_seq ?_
      refine awp_seq ?_
      refine awp_region ?_
      refine aops_p (ap_assign rfl) rfl rfl rfl ?_
      refine aops_nil ?_
      refine seqQ_n ?_
      refine awp_block ?_
      refine awp_loop1 [2, 3] [.box b2 _ _, .box b3 _ _] (fun (k : Nat) r => (6, .i (k : Int)) :: r) (fun (k : Nat) r => r) (fun (k : Nat) => k ≤ a.nodes.length ∧ k ≤ b.nodes.length ∧ cmpN (a.nodes.drop k) (b.nodes.drop k) = cmpN a.nodes b.nodes) (fun (k : Nat) => a.nodes.length - k) (0) zRc ⟨by omega, by omega, by simp⟩ (wk zSub (by repeat (first | exact .nil | refine .cons (by first | exact .here | exact .there .here | exact .there (.there .here) | exact .there (.there (.there .here)) | exact .there (.there (.there (.there .here)))) ?_))) ?_
      intro k ⟨hk, hk2, hI⟩
      refine awp_seq ?_
      refine awp_seq ?_
      refine awp_region ?_
      refine aops_p (ap_move rfl) rfl rfl rfl ?_
      first | refine aops_p (ap_fieldAddr (off := 1) (sz := 1) (g := false) rfl rfl) rfl rfl rfl ?_ | refine aops_p (ap_fieldAddr_el (off := 1) (sz := 1) (g := false) rfl rfl zRc) rfl rfl rfl ?_
      first | refine aops_q (aq_load1 rfl zUpd List.not_mem_nil rfl zRc) rfl rfl rfl ?_ | refine aops_q (aq_load_el1 rfl rfl zScal (fun _ h => absurd h List.not_mem_nil)) rfl rfl rfl ?_ | refine aops_q (aq_load_el1' rfl rfl zScal (fun _ h => absurd h List.not_mem_nil)) rfl rfl rfl ?_ | refine aops_q (aq_load_own1 rfl zUpd List.not_mem_nil rfl zAss zScal) rfl rfl rfl ?_
      first | refine aops_len rfl rfl rfl rfl (fun _ => ?_) | refine aops_p (ap_len_arr rfl zUpd rfl) rfl rfl rfl ?_ | refine aops_p (ap_len_nil rfl rfl) rfl rfl rfl ?_
      refine aops_p (ap_cmp rfl rfl rfl) rfl rfl rfl ?_
      refine aops_p (ap_move rfl) rfl rfl rfl ?_
      all_goals (first | (refine aops_yes rfl rfl rfl rfl zDec ?_; (refine aops_p (ap_move rfl) rfl rfl rfl ?_)) | refine aops_no_u rfl rfl rfl ?_ | refine aops_no_t rfl rfl rfl rfl zDec ?_ | (refine aops_guard_t rfl rfl rfl rfl (fun hg => ?_) (fun hg => ?_); case' _ => (refine aops_p (ap_move rfl) rfl rfl rfl ?_)))
      all_goals (first | (refine aops_yes rfl rfl rfl rfl zDec ?_; (first | refine aops_p (ap_fieldAddr (off := 1) (sz := 1) (g := false) rfl rfl) rfl rfl rfl ?_ | refine aops_p (ap_fieldAddr_el (off := 1) (sz := 1) (g := false) rfl rfl zRc) rfl rfl rfl ?_)) | refine aops_no_u rfl rfl rfl ?_ | refine aops_no_t rfl rfl rfl rfl zDec ?_ | (refine aops_guard_t rfl rfl rfl rfl (fun hg => ?_) (fun hg => ?_); case' _ => (first | refine aops_p (ap_fieldAddr (off := 1) (sz := 1) (g := false) rfl rfl) rfl rfl rfl ?_ | refine aops_p (ap_fieldAddr_el (off := 1) (sz := 1) (g := false) rfl rfl zRc) rfl rfl rfl ?_)))
      all_goals (first | (refine aops_yes rfl rfl rfl rfl zDec ?_; (first | refine aops_q (aq_load1 rfl zUpd List.not_mem_nil rfl zRc) rfl rfl rfl ?_ | refine aops_q (aq_load_el1 rfl rfl zScal (fun _ h => absurd h List.not_mem_nil)) rfl rfl rfl ?_ | refine aops_q (aq_load_el1' rfl rfl zScal (fun _ h => absurd h List.not_mem_nil)) rfl rfl rfl ?_ | refine aops_q (aq_load_own1 rfl zUpd List.not_mem_nil rfl zAss zScal) rfl rfl rfl ?_)) | refine aops_no_u rfl rfl rfl ?_ | refine aops_no_t rfl rfl rfl rfl zDec ?_ | (refine aops_guard_t rfl rfl rfl rfl (fun hg => ?_) (fun hg => ?_); case' _ => (first | refine aops_q (aq_load1 rfl zUpd List.not_mem_nil rfl zRc) rfl rfl rfl ?_ | refine aops_q (aq_load_el1 rfl rfl zScal (fun _ h => absurd h List.not_mem_nil)) rfl rfl rfl ?_ | refine aops_q (aq_load_el1' rfl rfl zScal (fun _ h => absurd h List.not_mem_nil)) rfl rfl rfl ?_ | refine aops_q (aq_load_own1 rfl zUpd List.not_mem_nil rfl zAss zScal) rfl rfl rfl ?_)))
      all_goals (first | (refine aops_yes rfl rfl rfl rfl zDec ?_; (first | refine aops_len rfl rfl rfl rfl (fun _ => ?_) | refine aops_p (ap_len_arr rfl zUpd rfl) rfl rfl rfl ?_ | refine aops_p (ap_len_nil rfl rfl) rfl rfl rfl ?_)) | refine aops_no_u rfl rfl rfl ?_ | refine aops_no_t rfl rfl rfl rfl zDec ?_ | (refine aops_guard_t rfl rfl rfl rfl (fun hg => ?_) (fun hg => ?_); case' _ => (first | refine aops_len rfl rfl rfl rfl (fun _ => ?_) | refine aops_p (ap_len_arr rfl zUpd rfl) rfl rfl rfl ?_ | refine aops_p (ap_len_nil rfl rfl) rfl rfl rfl ?_)))
      all_goals (first | (refine aops_yes rfl rfl rfl rfl zDec ?_; (refine aops_p (ap_cmp rfl rfl rfl) rfl rfl rfl ?_)) | refine aops_no_u rfl rfl rfl ?_ | refine aops_no_t rfl rfl rfl rfl zDec ?_ | (refine aops_guard_t rfl rfl rfl rfl (fun hg => ?_) (fun hg => ?_); case' _ => (refine aops_p (ap_cmp rfl rfl rfl) rfl rfl rfl ?_)))
      all_goals (first | refine aops_p (ap_pick_true rfl zDec rfl) rfl rfl rfl ?_ | refine aops_p (ap_pick_false rfl zDec rfl) rfl rfl rfl ?_)
      all_goals (
        refine aops_nil ?_
        refine seqQ_n ?_
        refine awp_cond rfl (fun hc => ?_) (fun hc => ?_)
        · first
          | (exact absurd hc (by decide))
          | (have hlt := of_decide_eq_true hc
             have hlt0 := of_decide_eq_true (by with_reducible assumption : decide ((k : Int) < ((a.nodes.map D.i).length : Int)) = true)
             obtain ⟨x, hx, hd⟩ := drop_cons (l := a.nodes) (k := k) (by omega)
             have hx' := getMap D.i hx
             obtain ⟨y, hy, hd2⟩ := drop_cons (l := b.nodes) (k := k) (by omega)
             have hy' := getMap D.i hy
             refine awp_skip ?_
             refine seqQ_n ?_
             refine awp_seq ?_
             refine awp_block ?_
             refine awp_seq ?_
             refine awp_draw (Hm := []) zKr zSplit ?_
             first | refine aany_take 0 rfl (.none rfl) zKr zKr zKr (AP.ar (ap_fieldAddr (off := 1) (sz := 1) (g := false) rfl rfl)) rfl rfl ?_ | refine aany_take 0 rfl (.none rfl) zKr zKr zKr (AP.ar (ap_fieldAddr_el (off := 1) (sz := 1) (g := false) rfl rfl zRc)) rfl rfl ?_
             first | refine aany_take 1 rfl (.none rfl) zKr zKr zKr (ar_load1 rfl zUpd rfl zRc) rfl rfl ?_ | refine aany_take 1 rfl (.none rfl) zKr zKr zKr (AQ.ar (aq_load_el1 rfl rfl zScal (fun _ h => h))) rfl rfl ?_ | refine aany_take 1 rfl (.none rfl) zKr zKr zKr (AQ.ar (aq_load_el1' rfl rfl zScal (fun _ h => h))) rfl rfl ?_ | refine aany_take 1 rfl (.none rfl) zKr zKr zKr (ar_load_own1 rfl zUpd rfl zAss zScal) rfl rfl ?_
             refine aany_take 2 rfl (.none rfl) zKr zKr zKr (AP.ar (ap_move rfl)) rfl rfl ?_
             first | refine aany_take 3 rfl (.none rfl) zKr zKr zKr (AP.ar (ap_index rfl rfl rfl rfl (by decide) rfl zAss)) rfl rfl ?_ | refine aany_take 3 rfl (.none rfl) zKr zKr zKr (AP.ar (ap_index rfl rfl rfl rfl (by decide) (by omega) zAss)) rfl rfl ?_ | refine aany_take 3 rfl (.none rfl) zKr zKr zKr (AP.ar (ap_index_own rfl rfl rfl rfl rfl (by first | omega | (simp only [List.length_map, List.length_set, avs_len]; omega)))) rfl rfl ?_
             first | refine aany_take 4 rfl (.none rfl) zKr zKr zKr (ar_load1 rfl zUpd rfl zRc) rfl rfl ?_ | refine aany_take 4 rfl (.none rfl) zKr zKr zKr (AQ.ar (aq_load_el1 rfl rfl zScal (fun _ h => h))) rfl rfl ?_ | refine aany_take 4 rfl (.none rfl) zKr zKr zKr (AQ.ar (aq_load_el1' rfl rfl zScal (fun _ h => h))) rfl rfl ?_ | refine aany_take 4 rfl (.none rfl) zKr zKr zKr (ar_load_own1 rfl zUpd rfl zAss zScal) rfl rfl ?_
             first | refine aany_take 5 rfl (.none rfl) zKr zKr zKr (AP.ar (ap_fieldAddr (off := 1) (sz := 1) (g := false) rfl rfl)) rfl rfl ?_ | refine aany_take 5 rfl (.none rfl) zKr zKr zKr (AP.ar (ap_fieldAddr_el (off := 1) (sz := 1) (g := false) rfl rfl zRc)) rfl rfl ?_
             first | refine aany_take 6 rfl (.none rfl) zKr zKr zKr (ar_load1 rfl zUpd rfl zRc) rfl rfl ?_ | refine aany_take 6 rfl (.none rfl) zKr zKr zKr (AQ.ar (aq_load_el1 rfl rfl zScal (fun _ h => h))) rfl rfl ?_ | refine aany_take 6 rfl (.none rfl) zKr zKr zKr (AQ.ar (aq_load_el1' rfl rfl zScal (fun _ h => h))) rfl rfl ?_ | refine aany_take 6 rfl (.none rfl) zKr zKr zKr (ar_load_own1 rfl zUpd rfl zAss zScal) rfl rfl ?_
             refine aany_take 7 rfl (.none rfl) zKr zKr zKr (AP.ar (ap_move rfl)) rfl rfl ?_
             first | refine aany_take 8 rfl (.none rfl) zKr zKr zKr (AP.ar (ap_index rfl rfl rfl rfl (by decide) rfl zAss)) rfl rfl ?_ | refine aany_take 8 rfl (.none rfl) zKr zKr zKr (AP.ar (ap_index rfl rfl rfl rfl (by decide) (by omega) zAss)) rfl rfl ?_ | refine aany_take 8 rfl (.none rfl) zKr zKr zKr (AP.ar (ap_index_own rfl rfl rfl rfl rfl (by first | omega | (simp only [List.length_map, List.length_set, avs_len]; omega)))) rfl rfl ?_
             first | refine aany_take 9 rfl (.none rfl) zKr zKr zKr (ar_load1 rfl zUpd rfl zRc) rfl rfl ?_ | refine aany_take 9 rfl (.none rfl) zKr zKr zKr (AQ.ar (aq_load_el1 rfl rfl zScal (fun _ h => h))) rfl rfl ?_ | refine aany_take 9 rfl (.none rfl) zKr zKr zKr (AQ.ar (aq_load_el1' rfl rfl zScal (fun _ h => h))) rfl rfl ?_ | refine aany_take 9 rfl (.none rfl) zKr zKr zKr (ar_load_own1 rfl zUpd rfl zAss zScal) rfl rfl ?_
             refine aany_one 10 zKr rfl (.none rfl) ?_
             refine aops_call_v zRc (sign_con x y) rfl rfl ?_
             refine aops_nil ?_
             refine aany_take 11 rfl (.none rfl) zKr zKr zKr (AP.ar (ap_assign rfl)) rfl rfl ?_
             refine aany_nil zKr ?_
             all_goals (
               refine seqQ_n ?_
               refine awp_seq ?_
               refine awp_region ?_
               refine aops_p (ap_move rfl) rfl rfl rfl ?_
               refine aops_p (ap_cmp rfl rfl rfl) rfl rfl rfl ?_
               refine aops_nil ?_
               refine seqQ_n ?_
               refine awp_cond rfl (fun hc => ?_) (fun hc => ?_)
               · have h0 := of_neq_true hc
                 have hE := cmpN_at hd hd2 hI
                 rw [if_neg h0] at hE
                 refine awp_seq ?_
                 refine awp_region ?_
                 refine aops_p (ap_move rfl) rfl rfl rfl ?_
                 refine aops_p (ap_assign rfl) rfl rfl rfl ?_
                 refine aops_nil ?_
                 refine seqQ_n ?_
                 refine awp_ret ?_
                 refine blockQ_r ?_
                 refine seqQ_r ?_
                 refine seqQ_r ?_
                 refine blockQ_r ?_
                 refine seqQ_r ?_
                 refine post_is (.tmp rfl .nil) (by repeat (first | exact .nil | refine .cons (by first | exact .here | exact .there .here | exact .there (.there .here) | exact .there (.there (.there .here)) | exact .there (.there (.there (.there .here)))) ?_)) ?_
                 rw [cmpT_2 hth (by rw [hE]; exact h0), hE]; rfl
               · have h0 := of_neq_false hc
                 refine awp_skip ?_
                 refine blockQ_n ?_
                 refine seqQ_n ?_
                 refine awp_region ?_
                 refine aops_p (ap_move rfl) rfl rfl rfl ?_
                 refine aops_p (ap_arith rfl rfl rfl (by omega)) rfl rfl rfl ?_
                 refine aops_p (ap_assign rfl) rfl rfl rfl ?_
                 refine aops_nil ?_
                 refine seqQ_n ?_
                 refine ⟨k + 1, ⟨by omega, by omega, ?_⟩, by omega, wk zSub (by repeat (first | exact .nil | refine .cons (by first | exact .here | exact .there .here | exact .there (.there .here) | exact .there (.there (.there .here)) | exact .there (.there (.there (.there .here)))) ?_))⟩
                 have := cmpN_at hd hd2 hI
                 rw [if_pos h0] at this
                 exact this.symm
               )
            )
        · first
          | (exact absurd hc (by decide))
          | (have hor : ¬ (k < a.nodes.length ∧ k < b.nodes.length) := by first | (have := of_decide_eq_false hc; omega) | (have := of_decide_eq_false hg; omega)
             have hE := cmpN_end _ _ (drop_or hor)
             rw [hI, sg_drop hk hk2] at hE
             skip
             refine awp_exit ?_
             refine seqQ_x ?_
             refine seqQ_x ?_
             refine blockQ_x rfl ?_
             refine seqQ_n ?_
             refine awp_seq ?_
             refine awp_seq ?_
             refine awp_region ?_
             first | refine aops_p (ap_fieldAddr (off := 1) (sz := 1) (g := false) rfl rfl) rfl rfl rfl ?_ | refine aops_p (ap_fieldAddr_el (off := 1) (sz := 1) (g := false) rfl rfl zRc) rfl rfl rfl ?_
             first | refine aops_q (aq_load1 rfl zUpd List.not_mem_nil rfl zRc) rfl rfl rfl ?_ | refine aops_q (aq_load_el1 rfl rfl zScal (fun _ h => absurd h List.not_mem_nil)) rfl rfl rfl ?_ | refine aops_q (aq_load_el1' rfl rfl zScal (fun _ h => absurd h List.not_mem_nil)) rfl rfl rfl ?_ | refine aops_q (aq_load_own1 rfl zUpd List.not_mem_nil rfl zAss zScal) rfl rfl rfl ?_
             first | refine aops_len rfl rfl rfl rfl (fun _ => ?_) | refine aops_p (ap_len_arr rfl zUpd rfl) rfl rfl rfl ?_ | refine aops_p (ap_len_nil rfl rfl) rfl rfl rfl ?_
             first | refine aops_p (ap_fieldAddr (off := 1) (sz := 1) (g := false) rfl rfl) rfl rfl rfl ?_ | refine aops_p (ap_fieldAddr_el (off := 1) (sz := 1) (g := false) rfl rfl zRc) rfl rfl rfl ?_
             first | refine aops_q (aq_load1 rfl zUpd List.not_mem_nil rfl zRc) rfl rfl rfl ?_ | refine aops_q (aq_load_el1 rfl rfl zScal (fun _ h => absurd h List.not_mem_nil)) rfl rfl rfl ?_ | refine aops_q (aq_load_el1' rfl rfl zScal (fun _ h => absurd h List.not_mem_nil)) rfl rfl rfl ?_ | refine aops_q (aq_load_own1 rfl zUpd List.not_mem_nil rfl zAss zScal) rfl rfl rfl ?_
             first | refine aops_len rfl rfl rfl rfl (fun _ => ?_) | refine aops_p (ap_len_arr rfl zUpd rfl) rfl rfl rfl ?_ | refine aops_p (ap_len_nil rfl rfl) rfl rfl rfl ?_
             refine aops_call_v zRc (sign_con _ _) rfl rfl ?_
             refine aops_p (ap_assign rfl) rfl rfl rfl ?_
             refine aops_nil ?_
             refine seqQ_n ?_
             refine awp_seq ?_
             refine awp_region ?_
             refine aops_p (ap_move rfl) rfl rfl rfl ?_
             refine aops_p (ap_cmp rfl rfl rfl) rfl rfl rfl ?_
             refine aops_nil ?_
             refine seqQ_n ?_
             refine awp_cond rfl (fun hc => ?_) (fun hc => ?_)
             · have h0 := of_neq_true hc
               rw [hn1, hn2, ← hE] at h0
               refine awp_seq ?_
               refine awp_region ?_
               refine aops_p (ap_move rfl) rfl rfl rfl ?_
               refine aops_p (ap_assign rfl) rfl rfl rfl ?_
               refine aops_nil ?_
               refine seqQ_n ?_
               refine awp_ret ?_
               refine seqQ_r ?_
               refine post_is (.tmp rfl .nil) (by repeat (first | exact .nil | refine .cons (by first | exact .here | exact .there .here | exact .there (.there .here) | exact .there (.there (.there .here)) | exact .there (.there (.there (.there .here)))) ?_)) ?_
               rw [cmpT_2 hth h0, hE, ← hn1, ← hn2]; rfl
             · have h0 := of_neq_false hc
               rw [hn1, hn2, ← hE] at h0
               refine awp_skip ?_
               refine seqQ_n ?_
               refine awp_seq ?_
               refine awp_seq ?_
               refine awp_region ?_
               refine aops_p (ap_assign rfl) rfl rfl rfl ?_
               refine aops_nil ?_
               refine seqQ_n ?_
               refine awp_block ?_
               refine awp_loop1 [2, 3] [.box b2 _ _, .box b3 _ _] (fun (j : Nat) r => (9, .i (j : Int)) :: r) (fun (j : Nat) r => r) (fun (j : Nat) => j ≤ a.inner.length ∧ j ≤ b.inner.length ∧ cmpL (a.inner.drop j) (b.inner.drop j) = cmpL a.inner b.inner) (fun (j : Nat) => a.inner.length - j) (0) zRc ⟨by omega, by omega, by simp⟩ (wk zSub (by repeat (first | exact .nil | refine .cons (by first | exact .here | exact .there .here | exact .there (.there .here) | exact .there (.there (.there .here)) | exact .there (.there (.there (.there .here)))) ?_))) ?_
               intro j ⟨hj, hj2, hJ⟩
               refine awp_seq ?_
               refine awp_seq ?_
               refine awp_region ?_
               refine aops_p (ap_move rfl) rfl rfl rfl ?_
               first | refine aops_p (ap_fieldAddr (off := 2) (sz := 1) (g := false) rfl rfl) rfl rfl rfl ?_ | refine aops_p (ap_fieldAddr_el (off := 2) (sz := 1) (g := false) rfl rfl zRc) rfl rfl rfl ?_
               first | refine aops_q (aq_load1 rfl zUpd List.not_mem_nil rfl zRc) rfl rfl rfl ?_ | refine aops_q (aq_load_el1 rfl rfl zScal (fun _ h => absurd h List.not_mem_nil)) rfl rfl rfl ?_ | refine aops_q (aq_load_el1' rfl rfl zScal (fun _ h => absurd h List.not_mem_nil)) rfl rfl rfl ?_ | refine aops_q (aq_load_own1 rfl zUpd List.not_mem_nil rfl zAss zScal) rfl rfl rfl ?_
               first | refine aops_len rfl rfl rfl rfl (fun _ => ?_) | refine aops_p (ap_len_arr rfl zUpd rfl) rfl rfl rfl ?_ | refine aops_p (ap_len_nil rfl rfl) rfl rfl rfl ?_
               refine aops_p (ap_cmp rfl rfl rfl) rfl rfl rfl ?_
               refine aops_p (ap_move rfl) rfl rfl rfl ?_
               all_goals (first | (refine aops_yes rfl rfl rfl rfl zDec ?_; (refine aops_p (ap_move rfl) rfl rfl rfl ?_)) | refine aops_no_u rfl rfl rfl ?_ | refine aops_no_t rfl rfl rfl rfl zDec ?_ | (refine aops_guard_t rfl rfl rfl rfl (fun hg => ?_) (fun hg => ?_); case' _ => (refine aops_p (ap_move rfl) rfl rfl rfl ?_)))
               all_goals (first | (refine aops_yes rfl rfl rfl rfl zDec ?_; (first | refine aops_p (ap_fieldAddr (off := 2) (sz := 1) (g := false) rfl rfl) rfl rfl rfl ?_ | refine aops_p (ap_fieldAddr_el (off := 2) (sz := 1) (g := false) rfl rfl zRc) rfl rfl rfl ?_)) | refine aops_no_u rfl rfl rfl ?_ | refine aops_no_t rfl rfl rfl rfl zDec ?_ | (refine aops_guard_t rfl rfl rfl rfl (fun hg => ?_) (fun hg => ?_); case' _ => (first | refine aops_p (ap_fieldAddr (off := 2) (sz := 1) (g := false) rfl rfl) rfl rfl rfl ?_ | refine aops_p (ap_fieldAddr_el (off := 2) (sz := 1) (g := false) rfl rfl zRc) rfl rfl rfl ?_)))
               all_goals (first | (refine aops_yes rfl rfl rfl rfl zDec ?_; (first | refine aops_q (aq_load1 rfl zUpd List.not_mem_nil rfl zRc) rfl rfl rfl ?_ | refine aops_q (aq_load_el1 rfl rfl zScal (fun _ h => absurd h List.not_mem_nil)) rfl rfl rfl ?_ | refine aops_q (aq_load_el1' rfl rfl zScal (fun _ h => absurd h List.not_mem_nil)) rfl rfl rfl ?_ | refine aops_q (aq_load_own1 rfl zUpd List.not_mem_nil rfl zAss zScal) rfl rfl rfl ?_)) | refine aops_no_u rfl rfl rfl ?_ | refine aops_no_t rfl rfl rfl rfl zDec ?_ | (refine aops_guard_t rfl rfl rfl rfl (fun hg => ?_) (fun hg => ?_); case' _ => (first | refine aops_q (aq_load1 rfl zUpd List.not_mem_nil rfl zRc) rfl rfl rfl ?_ | refine aops_q (aq_load_el1 rfl rfl zScal (fun _ h => absurd h List.not_mem_nil)) rfl rfl rfl ?_ | refine aops_q (aq_load_el1' rfl rfl zScal (fun _ h => absurd h List.not_mem_nil)) rfl rfl rfl ?_ | refine aops_q (aq_load_own1 rfl zUpd List.not_mem_nil rfl zAss zScal) rfl rfl rfl ?_)))
               all_goals (first | (refine aops_yes rfl rfl rfl rfl zDec ?_; (first | refine aops_len rfl rfl rfl rfl (fun _ => ?_) | refine aops_p (ap_len_arr rfl zUpd rfl) rfl rfl rfl ?_ | refine aops_p (ap_len_nil rfl rfl) rfl rfl rfl ?_)) | refine aops_no_u rfl rfl rfl ?_ | refine aops_no_t rfl rfl rfl rfl zDec ?_ | (refine aops_guard_t rfl rfl rfl rfl (fun hg => ?_) (fun hg => ?_); case' _ => (first | refine aops_len rfl rfl rfl rfl (fun _ => ?_) | refine aops_p (ap_len_arr rfl zUpd rfl) rfl rfl rfl ?_ | refine aops_p (ap_len_nil rfl rfl) rfl rfl rfl ?_)))
               all_goals (first | (refine aops_yes rfl rfl rfl rfl zDec ?_; (refine aops_p (ap_cmp rfl rfl rfl) rfl rfl rfl ?_)) | refine aops_no_u rfl rfl rfl ?_ | refine aops_no_t rfl rfl rfl rfl zDec ?_ | (refine aops_guard_t rfl rfl rfl rfl (fun hg => ?_) (fun hg => ?_); case' _ => (refine aops_p (ap_cmp rfl rfl rfl) rfl rfl rfl ?_)))
               all_goals (first | refine aops_p (ap_pick_true rfl zDec rfl) rfl rfl rfl ?_ | refine aops_p (ap_pick_false rfl zDec rfl) rfl rfl rfl ?_)
               all_goals (
                 refine aops_nil ?_
                 refine seqQ_n ?_
                 refine awp_cond rfl (fun hc => ?_) (fun hc => ?_)
                 · first
                   | (exact absurd hc (by decide))
                   | (have hlt := of_decide_eq_true hc
                      have hlt0 := of_decide_eq_true (by with_reducible assumption : decide ((j : Int) < ((avs a.inner).length : Int)) = true)
                      obtain ⟨x, hx, hd⟩ := drop_cons (l := a.inner) (k := j) (by omega)
                      have hx' := avs_get hx
                      obtain ⟨y, hy, hd2⟩ := drop_cons (l := b.inner) (k := j) (by omega)
                      have hy' := avs_get hy
                      refine awp_skip ?_
                      refine seqQ_n ?_
                      refine awp_seq ?_
                      refine awp_block ?_
                      refine awp_seq ?_
                      refine awp_draw (Hm := []) zKr zSplit ?_
                      first | refine aany_take 0 rfl (.none rfl) zKr zKr zKr (AP.ar (ap_fieldAddr (off := 2) (sz := 1) (g := false) rfl rfl)) rfl rfl ?_ | refine aany_take 0 rfl (.none rfl) zKr zKr zKr (AP.ar (ap_fieldAddr_el (off := 2) (sz := 1) (g := false) rfl rfl zRc)) rfl rfl ?_
                      first | refine aany_take 1 rfl (.none rfl) zKr zKr zKr (ar_load1 rfl zUpd rfl zRc) rfl rfl ?_ | refine aany_take 1 rfl (.none rfl) zKr zKr zKr (AQ.ar (aq_load_el1 rfl rfl zScal (fun _ h => h))) rfl rfl ?_ | refine aany_take 1 rfl (.none rfl) zKr zKr zKr (AQ.ar (aq_load_el1' rfl rfl zScal (fun _ h => h))) rfl rfl ?_ | refine aany_take 1 rfl (.none rfl) zKr zKr zKr (ar_load_own1 rfl zUpd rfl zAss zScal) rfl rfl ?_
                      refine aany_take 2 rfl (.none rfl) zKr zKr zKr (AP.ar (ap_move rfl)) rfl rfl ?_
                      first | refine aany_take 3 rfl (.none rfl) zKr zKr zKr (AP.ar (ap_index rfl rfl rfl rfl (by decide) rfl zAss)) rfl rfl ?_ | refine aany_take 3 rfl (.none rfl) zKr zKr zKr (AP.ar (ap_index rfl rfl rfl rfl (by decide) (by omega) zAss)) rfl rfl ?_ | refine aany_take 3 rfl (.none rfl) zKr zKr zKr (AP.ar (ap_index_own rfl rfl rfl rfl rfl (by first | omega | (simp only [List.length_map, List.length_set, avs_len]; omega)))) rfl rfl ?_
                      first | refine aany_take 4 rfl (.none rfl) zKr zKr zKr (ar_load rfl zUpd rfl rfl zRc) rfl rfl ?_ | refine aany_take 4 rfl (.none rfl) zKr zKr zKr (AQ.ar (aq_load_el rfl rfl rfl rfl (fun _ h => h))) rfl rfl ?_
                      first | refine aany_take 5 rfl (.none rfl) zKr zKr zKr (AP.ar (ap_fieldAddr (off := 2) (sz := 1) (g := false) rfl rfl)) rfl rfl ?_ | refine aany_take 5 rfl (.none rfl) zKr zKr zKr (AP.ar (ap_fieldAddr_el (off := 2) (sz := 1) (g := false) rfl rfl zRc)) rfl rfl ?_
                      first | refine aany_take 6 rfl (.none rfl) zKr zKr zKr (ar_load1 rfl zUpd rfl zRc) rfl rfl ?_ | refine aany_take 6 rfl (.none rfl) zKr zKr zKr (AQ.ar (aq_load_el1 rfl rfl zScal (fun _ h => h))) rfl rfl ?_ | refine aany_take 6 rfl (.none rfl) zKr zKr zKr (AQ.ar (aq_load_el1' rfl rfl zScal (fun _ h => h))) rfl rfl ?_ | refine aany_take 6 rfl (.none rfl) zKr zKr zKr (ar_load_own1 rfl zUpd rfl zAss zScal) rfl rfl ?_
                      refine aany_take 7 rfl (.none rfl) zKr zKr zKr (AP.ar (ap_move rfl)) rfl rfl ?_
                      first | refine aany_take 8 rfl (.none rfl) zKr zKr zKr (AP.ar (ap_index rfl rfl rfl rfl (by decide) rfl zAss)) rfl rfl ?_ | refine aany_take 8 rfl (.none rfl) zKr zKr zKr (AP.ar (ap_index rfl rfl rfl rfl (by decide) (by omega) zAss)) rfl rfl ?_ | refine aany_take 8 rfl (.none rfl) zKr zKr zKr (AP.ar (ap_index_own rfl rfl rfl rfl rfl (by first | omega | (simp only [List.length_map, List.length_set, avs_len]; omega)))) rfl rfl ?_
                      first | refine aany_take 9 rfl (.none rfl) zKr zKr zKr (ar_load rfl zUpd rfl rfl zRc) rfl rfl ?_ | refine aany_take 9 rfl (.none rfl) zKr zKr zKr (AQ.ar (aq_load_el rfl rfl rfl rfl (fun _ h => h))) rfl rfl ?_
                      refine aany_one 10 zKr rfl (.none rfl) ?_
                      refine aops_call_v zRc (ih x (List.mem_of_getElem? hx) y) rfl rfl ?_
                      refine aops_nil ?_
                      refine aany_take 11 rfl (.none rfl) zKr zKr zKr (AP.ar (ap_assign rfl)) rfl rfl ?_
                      refine aany_nil zKr ?_
                      all_goals (
                        refine seqQ_n ?_
                        refine awp_seq ?_
                        refine awp_region ?_
                        refine aops_p (ap_move rfl) rfl rfl rfl ?_
                        refine aops_p (ap_cmp rfl rfl rfl) rfl rfl rfl ?_
                        refine aops_nil ?_
                        refine seqQ_n ?_
                        refine awp_cond rfl (fun hc => ?_) (fun hc => ?_)
                        · have h1 := of_neq_true hc
                          have hF := cmpL_at hd hd2 hJ
                          rw [if_neg h1] at hF
                          refine awp_seq ?_
                          refine awp_region ?_
                          refine aops_p (ap_move rfl) rfl rfl rfl ?_
                          refine aops_p (ap_assign rfl) rfl rfl rfl ?_
                          refine aops_nil ?_
                          refine seqQ_n ?_
                          refine awp_ret ?_
                          refine blockQ_r ?_
                          refine seqQ_r ?_
                          refine seqQ_r ?_
                          refine blockQ_r ?_
                          refine seqQ_r ?_
                          refine post_is (.tmp rfl .nil) (by repeat (first | exact .nil | refine .cons (by first | exact .here | exact .there .here | exact .there (.there .here) | exact .there (.there (.there .here)) | exact .there (.there (.there (.there .here)))) ?_)) ?_
                          rw [cmpT_3 hth h0, hF]; rfl
                        · have h0' := of_neq_false hc
                          refine awp_skip ?_
                          refine blockQ_n ?_
                          refine seqQ_n ?_
                          refine awp_region ?_
                          refine aops_p (ap_move rfl) rfl rfl rfl ?_
                          refine aops_p (ap_arith rfl rfl rfl (by omega)) rfl rfl rfl ?_
                          refine aops_p (ap_assign rfl) rfl rfl rfl ?_
                          refine aops_nil ?_
                          refine seqQ_n ?_
                          refine ⟨j + 1, ⟨by omega, by omega, ?_⟩, by omega, wk zSub (by repeat (first | exact .nil | refine .cons (by first | exact .here | exact .there .here | exact .there (.there .here) | exact .there (.there (.there .here)) | exact .there (.there (.there (.there .here)))) ?_))⟩
                          have := cmpL_at hd hd2 hJ
                          rw [if_pos h0'] at this
                          exact this.symm
                        )
                     )
                 · first
                   | (exact absurd hc (by decide))
                   | (have hor : ¬ (j < a.inner.length ∧ j < b.inner.length) := by first | (have := of_decide_eq_false hc; omega) | (have := of_decide_eq_false hg; omega)
                      have hF := cmpL_end _ _ (drop_or hor)
                      rw [hJ, sg_drop hj hj2] at hF
                      refine awp_exit ?_
                      refine seqQ_x ?_
                      refine seqQ_x ?_
                      refine blockQ_x rfl ?_
                      refine seqQ_n ?_
                      refine awp_seq ?_
                      refine awp_region ?_
                      first | refine aops_p (ap_fieldAddr (off := 2) (sz := 1) (g := false) rfl rfl) rfl rfl rfl ?_ | refine aops_p (ap_fieldAddr_el (off := 2) (sz := 1) (g := false) rfl rfl zRc) rfl rfl rfl ?_
                      first | refine aops_q (aq_load1 rfl zUpd List.not_mem_nil rfl zRc) rfl rfl rfl ?_ | refine aops_q (aq_load_el1 rfl rfl zScal (fun _ h => absurd h List.not_mem_nil)) rfl rfl rfl ?_ | refine aops_q (aq_load_el1' rfl rfl zScal (fun _ h => absurd h List.not_mem_nil)) rfl rfl rfl ?_ | refine aops_q (aq_load_own1 rfl zUpd List.not_mem_nil rfl zAss zScal) rfl rfl rfl ?_
                      first | refine aops_len rfl rfl rfl rfl (fun _ => ?_) | refine aops_p (ap_len_arr rfl zUpd rfl) rfl rfl rfl ?_ | refine aops_p (ap_len_nil rfl rfl) rfl rfl rfl ?_
                      first | refine aops_p (ap_fieldAddr (off := 2) (sz := 1) (g := false) rfl rfl) rfl rfl rfl ?_ | refine aops_p (ap_fieldAddr_el (off := 2) (sz := 1) (g := false) rfl rfl zRc) rfl rfl rfl ?_
                      first | refine aops_q (aq_load1 rfl zUpd List.not_mem_nil rfl zRc) rfl rfl rfl ?_ | refine aops_q (aq_load_el1 rfl rfl zScal (fun _ h => absurd h List.not_mem_nil)) rfl rfl rfl ?_ | refine aops_q (aq_load_el1' rfl rfl zScal (fun _ h => absurd h List.not_mem_nil)) rfl rfl rfl ?_ | refine aops_q (aq_load_own1 rfl zUpd List.not_mem_nil rfl zAss zScal) rfl rfl rfl ?_
                      first | refine aops_len rfl rfl rfl rfl (fun _ => ?_) | refine aops_p (ap_len_arr rfl zUpd rfl) rfl rfl rfl ?_ | refine aops_p (ap_len_nil rfl rfl) rfl rfl rfl ?_
                      refine aops_call_v zRc (sign_con _ _) rfl rfl ?_
                      refine aops_p (ap_assign rfl) rfl rfl rfl ?_
                      refine aops_nil ?_
                      refine seqQ_n ?_
                      refine awp_ret ?_
                      refine post_is (.tmp rfl .nil) (by repeat (first | exact .nil | refine .cons (by first | exact .here | exact .there .here | exact .there (.there .here) | exact .there (.there (.there .here)) | exact .there (.there (.there (.there .here)))) ?_)) ?_
                      rw [cmpT_3 hth h0, hF, ← hi1, ← hi2]; rfl
                     )
                 )
            )
        )
theorem met_cons (t x : Trust) (r : List Trust) (m : Bool) : metGo t (x :: r) m = metGo t r (m || decide (cmpT x t = 0)) := rfl
theorem pos_cons (t x : Trust) (r : List Trust) (i k : Nat) : posGo t (x :: r) i k = posGo t r (i + 1) (if cmpT x t < 0 then i + 1 else k) := rfl
theorem ins_copy {α : Type} {q : List α} {z t : α} {p : Nat} (hp : p ≤ q.length) : (((q ++ [z]).take (p + 1) ++ ((q ++ [z]).drop p).take (q.length - p) ++ (q ++ [z]).drop (p + 1 + (q.length - p))).set p t) = q.take p ++ t :: q.drop p := by
  have e3 : (q ++ [z]).drop (p + 1 + (q.length - p)) = [] := List.drop_eq_nil_of_le (by simp; omega)
  have e2 : ((q ++ [z]).drop p).take (q.length - p) = q.drop p := by
    rw [List.drop_append_of_le_length hp, List.take_append_of_le_length (by simp)]
    exact List.take_of_length_le (by simp)
  rw [e3, e2, List.append_nil]
  have e1 : ∃ y, (q ++ [z]).take (p + 1) = q.take p ++ [y] := by
    have hl : p < (q ++ [z]).length := by simp; omega
    exact ⟨(q ++ [z])[p], by rw [List.take_succ_eq_append_getElem hl, List.take_append_of_le_length hp]⟩
  obtain ⟨y, hy⟩ := e1
  have hlp : (q.take p).length = p := by simp; omega
  rw [hy, List.append_assoc, List.set_append, if_neg (by omega), hlp, Nat.sub_self]
  rfl
theorem avs_ins {q : List Trust} {z t : Trust} {p : Nat} (hp : p ≤ q.length) : (((avs q ++ [av z]).take (p + 1) ++ ((avs q ++ [av z]).drop p).take (q.length - p) ++ (avs q ++ [av z]).drop (p + 1 + (q.length - p))).set p (av t)) = avs (q.take p ++ t :: q.drop p) := by
  rw [← avs_len q, ins_copy (by rw [avs_len]; exact hp)]
  simp [avs_map, List.map_take, List.map_drop]
theorem ins_new {q : List Trust} {t : Trust} {p : Nat} (h : false = metGo t q false) (hp : p = posGo t q 0 0) : insV q t = q.take p ++ t :: q.drop p := by unfold insV; rw [if_neg (by rw [← h]; decide), hp]
theorem ins_old {q : List Trust} {t : Trust} (h : true = metGo t q false) : insV q t = q := by unfold insV; rw [if_pos h.symm]
theorem ins_get {q : List Trust} {z : Trust} {p : Nat} (hp : p ≤ q.length) : ∃ y, ((avs q ++ [av z]).take (p + 1) ++ ((avs q ++ [av z]).drop p).take (q.length - p) ++ (avs q ++ [av z]).drop (p + 1 + (q.length - p)))[p]? = some (av y) := by
  have e : (avs q ++ [av z]) = avs (q ++ [z]) := by simp [avs_map]
  rw [e]
  have hl : p < (q ++ [z]).length := by simp; omega
  have hl2 : p < ((avs (q ++ [z])).take (p + 1)).length := by rw [List.length_take, avs_len]; omega
  refine ⟨(q ++ [z])[p], ?_⟩
  rw [List.append_assoc, List.getElem?_append_left hl2, List.getElem?_take, if_pos (by omega)]
  exact avs_get (List.getElem?_eq_getElem hl)
theorem diff_con (l : List Trust) (hl : l.length ≤ 1000) : Con Try.prog 66 [.sl 3 (avs l)] [] (Is (.sl 3 (avs (diffV l))) []) := by
  have hcap : capB = 140737488355328 := rfl
  have hal0 := avs_len l
  refine con_intro Try.func66 rfl Try.call66 rfl ?_
  refine awp_seq ?_
  refine awp_region ?_
  refine aops_p (ap_assign rfl) rfl rfl rfl ?_
  refine aops_nil ?_
  refine seqQ_n ?_
  refine awp_seq ?_
  refine awp_region ?_
  refine aops_p (ap_assign rfl) rfl rfl rfl ?_
  refine aops_nil ?_
  refine seqQ_n ?_
  refine awp_seq ?_
  refine awp_seq ?_
  refine awp_region ?_
  refine aops_p (ap_move rfl) rfl rfl rfl ?_
  first | refine aops_len rfl rfl rfl rfl (fun _ => ?_) | refine aops_p (ap_len_arr rfl zUpd rfl) rfl rfl rfl ?_ | refine aops_p (ap_len_nil rfl rfl) rfl rfl rfl ?_
  refine aops_p (ap_move rfl) rfl rfl rfl ?_
  refine aops_nil ?_
  refine seqQ_n ?_
  refine awp_block ?_
  refine awp_loop3 [11, 12] [] (fun (k : Nat) (v : Value) (q : List Trust) r => (3, .v v) :: (13, .i (k : Int)) :: r) (fun (k : Nat) (v : Value) (q : List Trust) r => .arr v 42 3 (avs q) :: r) (fun (k : Nat) (v : Value) (q : List Trust) => k ≤ l.length ∧ q.length ≤ k ∧ diffGo (l.drop k) q = diffV l) (fun (k : Nat) (v : Value) (q : List Trust) => l.length - k) (0) (.slice none 0 0) ([]) zRc ⟨by omega, by simp, by simp [diffV]⟩ ((wk_own 42 3 rfl).trans (wk zSub (by repeat (first | exact .nil | refine .cons (by first | exact .here | exact .there .here | exact .there (.there .here) | exact .there (.there (.there .here)) | exact .there (.there (.there (.there .here)))) ?_)))) ?_
  intro k v q ⟨hk, hq, hI⟩
  have hal := avs_len q
  refine awp_seq ?_
  refine awp_region ?_
  refine aops_p (ap_cmp rfl rfl rfl) rfl rfl rfl ?_
  refine aops_nil ?_
  refine seqQ_n ?_
  refine awp_seq ?_
  refine awp_cond rfl (fun hc => ?_) (fun hc => ?_)
  · have hlt := of_decide_eq_true hc
    obtain ⟨t, ht, hd⟩ := drop_cons (l := l) (k := k) (by omega)
    have ht' := avs_get ht
    refine awp_skip ?_
    refine seqQ_n ?_
    refine awp_seq ?_
    refine awp_block ?_
    refine awp_seq ?_
    refine awp_region ?_
    first | refine aops_p (ap_index rfl rfl rfl rfl (by decide) rfl zAss) rfl rfl rfl ?_ | refine aops_p (ap_index rfl rfl rfl rfl (by decide) (by omega) zAss) rfl rfl rfl ?_ | refine aops_p (ap_index_own rfl rfl rfl rfl rfl (by first | omega | (simp only [List.length_map, List.length_set, avs_len]; omega))) rfl rfl rfl ?_
    first | refine aops_q (aq_load rfl zUpd List.not_mem_nil rfl rfl zRc) rfl rfl rfl ?_ | refine aops_q (aq_load_el rfl rfl rfl rfl (fun _ h => absurd h List.not_mem_nil)) rfl rfl rfl ?_
    refine aops_alloc rfl zRc rfl rfl (fun b5 => ?_)
    first | refine aops_store rfl rfl zFlat zUpd rfl zRc ?_ | refine aops_store_own1 rfl rfl zScal zUpd rfl (by simp only [List.length_set, List.length_map]; omega) ?_
    refine aops_nil ?_
    refine seqQ_n ?_
    refine awp_seq ?_
    refine awp_region ?_
    refine aops_p (ap_assign rfl) rfl rfl rfl ?_
    refine aops_p (ap_assign rfl) rfl rfl rfl ?_
    refine aops_nil ?_
    refine seqQ_n ?_
    refine awp_seq ?_
    refine awp_seq ?_
    refine awp_region ?_
    refine aops_p (ap_move rfl) rfl rfl rfl ?_
    first | refine aops_len rfl rfl rfl rfl (fun _ => ?_) | refine aops_p (ap_len_arr rfl zUpd rfl) rfl rfl rfl ?_ | refine aops_p (ap_len_nil rfl rfl) rfl rfl rfl ?_
    refine aops_p (ap_move rfl) rfl rfl rfl ?_
    refine aops_nil ?_
    refine seqQ_n ?_
    refine awp_block ?_
    refine awp_loop3 [3, 5, 11, 12, 13, 17, 18] [.arr v 42 3 (avs q), .box b5 _ _] (fun (i : Nat) (p : Nat) (m : Bool) r => (6, .i (p : Int)) :: (7, .b m) :: (19, .i (i : Int)) :: r) (fun (i : Nat) (p : Nat) (m : Bool) r => r) (fun (i : Nat) (p : Nat) (m : Bool) => i ≤ q.length ∧ p ≤ i ∧ posGo t (q.drop i) i p = posGo t q 0 0 ∧ metGo t (q.drop i) m = metGo t q false) (fun (i : Nat) (p : Nat) (m : Bool) => q.length - i) (0) (0) (false) zRc ⟨by omega, by omega, by simp, by simp⟩ (wk zSub (by repeat (first | exact .nil | refine .cons (by first | exact .here | exact .there .here | exact .there (.there .here) | exact .there (.there (.there .here)) | exact .there (.there (.there (.there .here)))) ?_))) ?_
    intro i p m ⟨hi, hpi, hP, hM⟩
    refine awp_seq ?_
    refine awp_region ?_
    refine aops_p (ap_cmp rfl rfl rfl) rfl rfl rfl ?_
    refine aops_nil ?_
    refine seqQ_n ?_
    refine awp_seq ?_
    refine awp_cond rfl (fun hc => ?_) (fun hc => ?_)
    · have hlt2 := of_decide_eq_true hc
      obtain ⟨x, hx, hd2⟩ := drop_cons (l := q) (k := i) (by omega)
      have hx' := avs_get hx
      refine awp_arr_open zUpd (by intro e; have h5 := congrArg List.length e; simp only [List.length_nil] at h5; omega) (fun g cap hv => ?_)
      subst hv
      refine awp_skip ?_
      refine seqQ_n ?_
      refine awp_seq ?_
      refine awp_block ?_
      refine awp_seq ?_
      refine awp_region ?_
      refine aops_p (ap_move rfl) rfl rfl rfl ?_
      first | refine aops_p (ap_index rfl rfl rfl rfl (by decide) rfl zAss) rfl rfl rfl ?_ | refine aops_p (ap_index rfl rfl rfl rfl (by decide) (by omega) zAss) rfl rfl rfl ?_ | refine aops_p (ap_index_own rfl rfl rfl rfl rfl (by first | omega | (simp only [List.length_map, List.length_set, avs_len]; omega))) rfl rfl rfl ?_
      refine aops_q (aq_load_ownF (off := 0) rfl zUpd List.not_mem_nil rfl rfl hx' zRc) rfl rfl rfl ?_
      refine aops_alloc rfl zRc rfl rfl (fun b9 => ?_)
      refine aops_p (ap_assign rfl) rfl rfl rfl ?_
      first | refine aops_store rfl rfl zFlat zUpd rfl zRc ?_ | refine aops_store_own1 rfl rfl zScal zUpd rfl (by simp only [List.length_set, List.length_map]; omega) ?_
      refine aops_nil ?_
      refine seqQ_n ?_
      refine awp_seq ?_
      refine awp_region ?_
      first | refine aops_q (aq_load rfl zUpd List.not_mem_nil rfl rfl zRc) rfl rfl rfl ?_ | refine aops_q (aq_load_el rfl rfl rfl rfl (fun _ h => absurd h List.not_mem_nil)) rfl rfl rfl ?_
      first | refine aops_q (aq_load rfl zUpd List.not_mem_nil rfl rfl zRc) rfl rfl rfl ?_ | refine aops_q (aq_load_el rfl rfl rfl rfl (fun _ h => absurd h List.not_mem_nil)) rfl rfl rfl ?_
      refine aops_call_v zRc (cmp_con x t) rfl rfl ?_
      refine aops_p (ap_assign rfl) rfl rfl rfl ?_
      refine aops_nil ?_
      refine seqQ_n ?_
      refine awp_seq ?_
      refine awp_region ?_
      refine aops_p (ap_move rfl) rfl rfl rfl ?_
      refine aops_p (ap_move rfl) rfl rfl rfl ?_
      all_goals (first | (refine aops_yes rfl rfl rfl rfl zDec ?_; (refine aops_p (ap_move rfl) rfl rfl rfl ?_)) | refine aops_no_u rfl rfl rfl ?_ | refine aops_no_f rfl rfl rfl rfl zDec ?_ | (refine aops_guard_f rfl rfl rfl rfl (fun hg => ?_) (fun hg => ?_); case' _ => (refine aops_p (ap_move rfl) rfl rfl rfl ?_)))
      all_goals (first | (refine aops_yes rfl rfl rfl rfl zDec ?_; (refine aops_p (ap_cmp rfl rfl rfl) rfl rfl rfl ?_)) | refine aops_no_u rfl rfl rfl ?_ | refine aops_no_f rfl rfl rfl rfl zDec ?_ | (refine aops_guard_f rfl rfl rfl rfl (fun hg => ?_) (fun hg => ?_); case' _ => (refine aops_p (ap_cmp rfl rfl rfl) rfl rfl rfl ?_)))
      all_goals (first | refine aops_p (ap_pick_true rfl zDec rfl) rfl rfl rfl ?_ | refine aops_p (ap_pick_false rfl zDec rfl) rfl rfl rfl ?_)
      all_goals (refine aops_p (ap_assign rfl) rfl rfl rfl ?_)
      all_goals (
        refine aops_nil ?_
        refine seqQ_n ?_
        refine awp_seq ?_
        refine awp_region ?_
        refine aops_p (ap_move rfl) rfl rfl rfl ?_
        refine aops_p (ap_cmp rfl rfl rfl) rfl rfl rfl ?_
        refine aops_nil ?_
        refine seqQ_n ?_
        refine awp_cond rfl (fun hc => ?_) (fun hc => ?_)
        · have hneg := of_decide_eq_true hc
          refine awp_region ?_
          refine aops_p (ap_move rfl) rfl rfl rfl ?_
          refine aops_p (ap_arith rfl rfl rfl (by omega)) rfl rfl rfl ?_
          refine aops_p (ap_assign rfl) rfl rfl rfl ?_
          refine aops_nil ?_
          refine blockQ_n ?_
          refine seqQ_n ?_
          refine awp_region ?_
          refine aops_p (ap_arith rfl rfl rfl (by omega)) rfl rfl rfl ?_
          refine aops_p (ap_move rfl) rfl rfl rfl ?_
          refine aops_nil ?_
          refine seqQ_n ?_
          rw [hd2, pos_cons] at hP
          rw [hd2, met_cons] at hM
          first
          | (rw [if_pos hneg] at hP; have h0 : m = true := (by with_reducible assumption); rw [h0, Bool.true_or] at hM; refine ⟨i + 1, i + 1, true, ⟨by omega, by omega, hP, hM⟩, by omega, wk zSub (by repeat (first | exact .nil | refine .cons (by first | exact .here | exact .there .here | exact .there (.there .here) | exact .there (.there (.there .here)) | exact .there (.there (.there (.there .here)))) ?_))⟩)
          | (rw [if_pos hneg] at hP; have h0 : m = false := (by with_reducible assumption); rw [h0, Bool.false_or] at hM; refine ⟨i + 1, i + 1, decide (cmpT x t = 0), ⟨by omega, by omega, hP, hM⟩, by omega, wk zSub (by repeat (first | exact .nil | refine .cons (by first | exact .here | exact .there .here | exact .there (.there .here) | exact .there (.there (.there .here)) | exact .there (.there (.there (.there .here)))) ?_))⟩)
          | (rw [if_neg hneg] at hP; have h0 : m = true := (by with_reducible assumption); rw [h0, Bool.true_or] at hM; refine ⟨i + 1, p, true, ⟨by omega, by omega, hP, hM⟩, by omega, wk zSub (by repeat (first | exact .nil | refine .cons (by first | exact .here | exact .there .here | exact .there (.there .here) | exact .there (.there (.there .here)) | exact .there (.there (.there (.there .here)))) ?_))⟩)
          | (rw [if_neg hneg] at hP; have h0 : m = false := (by with_reducible assumption); rw [h0, Bool.false_or] at hM; refine ⟨i + 1, p, decide (cmpT x t = 0), ⟨by omega, by omega, hP, hM⟩, by omega, wk zSub (by repeat (first | exact .nil | refine .cons (by first | exact .here | exact .there .here | exact .there (.there .here) | exact .there (.there (.there .here)) | exact .there (.there (.there (.there .here)))) ?_))⟩)
        · have hneg := of_decide_eq_false hc
          refine awp_skip ?_
          refine blockQ_n ?_
          refine seqQ_n ?_
          refine awp_region ?_
          refine aops_p (ap_arith rfl rfl rfl (by omega)) rfl rfl rfl ?_
          refine aops_p (ap_move rfl) rfl rfl rfl ?_
          refine aops_nil ?_
          refine seqQ_n ?_
          rw [hd2, pos_cons] at hP
          rw [hd2, met_cons] at hM
          first
          | (rw [if_pos hneg] at hP; have h0 : m = true := (by with_reducible assumption); rw [h0, Bool.true_or] at hM; refine ⟨i + 1, i + 1, true, ⟨by omega, by omega, hP, hM⟩, by omega, wk zSub (by repeat (first | exact .nil | refine .cons (by first | exact .here | exact .there .here | exact .there (.there .here) | exact .there (.there (.there .here)) | exact .there (.there (.there (.there .here)))) ?_))⟩)
          | (rw [if_pos hneg] at hP; have h0 : m = false := (by with_reducible assumption); rw [h0, Bool.false_or] at hM; refine ⟨i + 1, i + 1, decide (cmpT x t = 0), ⟨by omega, by omega, hP, hM⟩, by omega, wk zSub (by repeat (first | exact .nil | refine .cons (by first | exact .here | exact .there .here | exact .there (.there .here) | exact .there (.there (.there .here)) | exact .there (.there (.there (.there .here)))) ?_))⟩)
          | (rw [if_neg hneg] at hP; have h0 : m = true := (by with_reducible assumption); rw [h0, Bool.true_or] at hM; refine ⟨i + 1, p, true, ⟨by omega, by omega, hP, hM⟩, by omega, wk zSub (by repeat (first | exact .nil | refine .cons (by first | exact .here | exact .there .here | exact .there (.there .here) | exact .there (.there (.there .here)) | exact .there (.there (.there (.there .here)))) ?_))⟩)
          | (rw [if_neg hneg] at hP; have h0 : m = false := (by with_reducible assumption); rw [h0, Bool.false_or] at hM; refine ⟨i + 1, p, decide (cmpT x t = 0), ⟨by omega, by omega, hP, hM⟩, by omega, wk zSub (by repeat (first | exact .nil | refine .cons (by first | exact .here | exact .there .here | exact .there (.there .here) | exact .there (.there (.there .here)) | exact .there (.there (.there (.there .here)))) ?_))⟩)
        )
    · have hge2 := of_decide_eq_false hc
      rw [List.drop_eq_nil_of_le (by omega)] at hP hM
      have hpq : p ≤ q.length := by omega
      refine awp_exit ?_
      refine seqQ_x ?_
      refine seqQ_x ?_
      refine blockQ_x rfl ?_
      refine seqQ_n ?_
      refine awp_seq ?_
      refine awp_seq ?_
      refine awp_region ?_
      refine aops_p (ap_move rfl) rfl rfl rfl ?_
      refine aops_nil ?_
      refine seqQ_n ?_
      refine awp_cond rfl (fun hc => ?_) (fun hc => ?_)
      · have hmet : true = metGo t q false := by rw [← hM]; exact hc.symm
        refine awp_exit ?_
        refine seqQ_x ?_
        refine blockQ_x rfl ?_
        refine seqQ_n ?_
        refine awp_region ?_
        refine aops_p (ap_arith rfl rfl rfl (by omega)) rfl rfl rfl ?_
        refine aops_p (ap_move rfl) rfl rfl rfl ?_
        refine aops_nil ?_
        refine seqQ_n ?_
        first
        | (rw [hd] at hI; refine ⟨k + 1, v, insV q t, ⟨by omega, by have := insV_len q t; omega, hI⟩, by omega, ?_⟩; rw [ins_old hmet]; exact (wk zSub (by repeat (first | exact .nil | refine .cons (by first | exact .here | exact .there .here | exact .there (.there .here) | exact .there (.there (.there .here)) | exact .there (.there (.there (.there .here)))) ?_))))
        | (rw [hd] at hI; rw [show D.agg [.i t.th, .sl 1 (t.nodes.map .i), .sl 3 (avs t.inner)] = av t from rfl, avs_ins hpq, ← ins_new (p := p) hmet hP]; refine ⟨k + 1, _, insV q t, ⟨by omega, by have := insV_len q t; omega, hI⟩, by omega, wk zSub (by repeat (first | exact .nil | refine .cons (by first | exact .here | exact .there .here | exact .there (.there .here) | exact .there (.there (.there .here)) | exact .there (.there (.there (.there .here)))) ?_))⟩)
      · have hmet : false = metGo t q false := by rw [← hM]; exact hc.symm
        refine awp_skip ?_
        refine seqQ_n ?_
        refine awp_seq ?_
        refine awp_region ?_
        refine aops_p (ap_move rfl) rfl rfl rfl ?_
        refine aops_p (ap_build zKr rfl zRc (by repeat (first | exact .nil | apply FillL.cons rfl zFlat rfl zRc))) rfl rfl rfl ?_
        (refine aops_unnil [5,6,11,12,13,38,39] 1 rfl rfl (by repeat (first | exact SelC.nil | apply SelC.cons rfl (Cv.agg (CvL.cons Cv.same (CvL.cons Cv.fz (CvL.cons Cv.same CvL.nil)))) | apply SelC.cons rfl Cv.same)) (by repeat (first | exact .nil | apply HeapA.box (by repeat (first | exact CvL.nil | apply CvL.cons Cv.same)) | apply HeapA.arr)) ?_; refine aops_unnil [5,6,11,12,13,38,39] 3 rfl rfl (by repeat (first | exact .nil | apply SelC.cons rfl (by first | exact Cv.fz | (apply Cv.agg; repeat (first | exact CvL.nil | apply CvL.cons (by first | exact Cv.fz | exact Cv.same))) | exact Cv.same))) (by repeat (first | exact .nil | apply HeapA.box (by repeat (first | exact CvL.nil | apply CvL.cons Cv.same)) | apply HeapA.arr)) ?_; refine aops_lit (e := 42) (sz := 3) (by_ := 56) rfl rfl zRc rfl rfl rfl rfl ?_)
        first | refine aops_append (e := 42) (sz := 3) (by_ := 56) rfl zUpd rfl rfl rfl rfl rfl (by simp only [List.length_cons, List.length_nil, List.length_append, List.length_map, avs_len]; omega) (fun v41 hv41 => ?_) | refine aops_append_nil (e := 42) (sz := 3) (by_ := 56) rfl rfl rfl rfl rfl rfl (by simp only [List.length_cons, List.length_nil, List.length_append, List.length_map, avs_len]; omega) (fun v41 hv41 => ?_)
        refine aops_p (ap_assign rfl) rfl rfl rfl ?_
        refine aops_nil ?_
        refine seqQ_n ?_
        refine awp_seq ?_
        rw [show D.agg [.i 0, .sl 1 [], .sl 3 []] = av Trust.none from rfl]
        refine awp_arr_openc zUpd (by simp) (fun g cap hcap2 hv => ?_)
        subst hv
        have hcl : (avs q ++ [av Trust.none]).length = q.length + 1 := by simp [avs_len]
        refine awp_draw (Hm := [.arr _ _ _ _]) zKr zSplit ?_
        refine aany_take 0 rfl (.none rfl) zKr zKr zKr (AP.ar (ap_move rfl)) rfl rfl ?_
        refine aany_take 1 rfl (.none rfl) zKr zKr zKr (AP.ar (ap_move rfl)) rfl rfl ?_
        refine aany_take 2 rfl (.none rfl) zKr zKr zKr (AP.ar (ap_arith rfl rfl rfl (by omega))) rfl rfl ?_
        refine aany_take 3 rfl (.none rfl) zKr zKr zKr (AP.ar (ap_slice_own_from (k := p + 1) rfl zUpd rfl rfl rfl (by omega) (by omega))) rfl rfl ?_
        refine aany_take 4 rfl (.none rfl) zKr zKr zKr (AP.ar (ap_move rfl)) rfl rfl ?_
        refine aany_take 5 rfl (.none rfl) zKr zKr zKr (AP.ar (ap_move rfl)) rfl rfl ?_
        refine aany_take 6 rfl (.none rfl) zKr zKr zKr (AP.ar (ap_slice_own_from rfl zUpd rfl rfl rfl rfl (by omega))) rfl rfl ?_
        refine aany_one 7 zKr rfl (.none rfl) ?_
        refine aops_copy_own (ka := p + 1) (kb := p) (m := q.length - p) rfl rfl zUpd rfl rfl (by show q.length - p = min _ _; omega) (fun hm0 => ⟨by unfold cutAt; rw [if_neg (by omega)], by unfold cutAt; rw [if_neg (by omega)]⟩) (by omega) (by omega) rfl rfl ?_
        refine aops_nil ?_
        refine aany_nil zKr ?_
        all_goals (
          refine seqQ_n ?_
          refine awp_region ?_
          refine aops_p (ap_move rfl) rfl rfl rfl ?_
          refine aops_p (ap_move rfl) rfl rfl rfl ?_
          first | refine aops_q (aq_load rfl zUpd List.not_mem_nil rfl rfl zRc) rfl rfl rfl ?_ | refine aops_q (aq_load_el rfl rfl rfl rfl (fun _ h => absurd h List.not_mem_nil)) rfl rfl rfl ?_
          first | refine aops_p (ap_index rfl rfl rfl rfl (by decide) rfl zAss) rfl rfl rfl ?_ | refine aops_p (ap_index rfl rfl rfl rfl (by decide) (by omega) zAss) rfl rfl rfl ?_ | refine aops_p (ap_index_own rfl rfl rfl rfl rfl (by first | omega | (simp only [List.length_map, List.length_set, avs_len]; omega))) rfl rfl rfl ?_
          obtain ⟨y, hy⟩ := ins_get (q := q) (z := Trust.none) hpq; refine aops_store_ownF (off := 0) rfl rfl zFlat zUpd rfl hy zRc ?_
          refine aops_nil ?_
          refine blockQ_n ?_
          refine seqQ_n ?_
          refine awp_region ?_
          refine aops_p (ap_arith rfl rfl rfl (by omega)) rfl rfl rfl ?_
          refine aops_p (ap_move rfl) rfl rfl rfl ?_
          refine aops_nil ?_
          refine seqQ_n ?_
          first
          | (rw [hd] at hI; refine ⟨k + 1, v, insV q t, ⟨by omega, by have := insV_len q t; omega, hI⟩, by omega, ?_⟩; rw [ins_old hmet]; exact (wk zSub (by repeat (first | exact .nil | refine .cons (by first | exact .here | exact .there .here | exact .there (.there .here) | exact .there (.there (.there .here)) | exact .there (.there (.there (.there .here)))) ?_))))
          | (rw [hd] at hI; rw [show D.agg [.i t.th, .sl 1 (t.nodes.map .i), .sl 3 (avs t.inner)] = av t from rfl, avs_ins hpq, ← ins_new (p := p) hmet hP]; refine ⟨k + 1, _, insV q t, ⟨by omega, by have := insV_len q t; omega, hI⟩, by omega, wk zSub (by repeat (first | exact .nil | refine .cons (by first | exact .here | exact .there .here | exact .there (.there .here) | exact .there (.there (.there .here)) | exact .there (.there (.there (.there .here)))) ?_))⟩)
          )
  · have hge := of_decide_eq_false hc
    rw [List.drop_eq_nil_of_le (by omega)] at hI
    have hq9 : q = diffV l := hI
    rw [hq9]
    refine awp_freeze v [3] (by repeat (first | exact .here | apply Rem.there)) (by repeat (first | exact .nil | apply SelC.cons rfl (by first | exact Cv.fz | (apply Cv.agg; repeat (first | exact CvL.nil | apply CvL.cons (by first | exact Cv.fz | exact Cv.same))) | exact Cv.same))) (by repeat (first | exact .nil | apply HeapA.box (by repeat (first | exact CvL.nil | apply CvL.cons (by first | exact Cv.fz | exact Cv.same))) | apply HeapA.arr)) ?_
    refine awp_exit ?_
    refine seqQ_x ?_
    refine seqQ_x ?_
    refine blockQ_x rfl ?_
    refine seqQ_n ?_
    refine awp_seq ?_
    refine awp_region ?_
    refine aops_p (ap_move rfl) rfl rfl rfl ?_
    refine aops_p (ap_assign rfl) rfl rfl rfl ?_
    refine aops_nil ?_
    refine seqQ_n ?_
    refine awp_ret ?_
    refine post_is (.tmp rfl .nil) (by repeat (first | exact .nil | refine .cons (by first | exact .here | exact .there .here | exact .there (.there .here) | exact .there (.there (.there .here)) | exact .there (.there (.there (.there .here)))) ?_)) rfl
def tsv (x : List Trust) : D := .sl 3 (avs x)
theorem joinM_1 {al : Bool} {d : List Trust} {t : Trust} (h : ((d.length : Nat) : Int) = 1) (h2 : d[0]? = some t) : joinM al d = ⟨true, t⟩ := by unfold joinM; rw [if_pos (by omega), h2]; rfl
theorem joinM_2 {d : List Trust} (h : ¬ ((d.length : Nat) : Int) = 1) (h2 : (1 : Int) < (d.length : Nat)) : joinM true d = ⟨true, .mk d.length [] d⟩ := by unfold joinM; rw [if_neg (by omega), if_pos (by omega)]; rfl
theorem joinM_3 {d : List Trust} (h : ¬ ((d.length : Nat) : Int) = 1) (h2 : (1 : Int) < (d.length : Nat)) : joinM false d = ⟨true, .mk 1 [] d⟩ := by unfold joinM; rw [if_neg (by omega), if_pos (by omega)]; rfl
theorem joinM_4 {al : Bool} {d : List Trust} (h : ¬ ((d.length : Nat) : Int) = 1) (h2 : ¬ (1 : Int) < (d.length : Nat)) : joinM al d = ⟨false, Trust.none⟩ := by unfold joinM; rw [if_neg (by omega), if_neg (by omega)]
theorem sizeL_4 : ∀ (d : List Trust) (c : Nat), (∀ x ∈ d, sizeT x ≤ c) → sizeL d ≤ d.length * c
  | [], c, _ => by simp [sizeL]
  | t :: r, c, h => by
    have h1 := h t (List.mem_cons_self ..)
    have h2 := sizeL_4 r c (fun x hx => h x (List.mem_cons_of_mem _ hx))
    rw [sizeL_cons, List.length_cons, Nat.add_mul, Nat.one_mul]
    omega
theorem joinM_size {al : Bool} {d : List Trust} (h : d.length ≤ 4) (h2 : ∀ x ∈ d, sizeT x ≤ 100000) : sizeT (joinM al d).t ≤ 500000 := by
  have h3 := sizeL_4 d _ h2
  have h4 : d.length * 100000 ≤ 4 * 100000 := Nat.mul_le_mul_right _ h
  unfold joinM
  split
  · cases e : d[0]? with
    | none => show sizeT Trust.none ≤ _; simp [Trust.none, sizeT_mk, sizeL]
    | some t => have := h2 t (List.mem_of_getElem? e); show sizeT t ≤ _; omega
  · split
    · show sizeT (Trust.mk _ [] d) ≤ _
      rw [sizeT_mk, List.length_nil]
      omega
    · show sizeT Trust.none ≤ _; simp [Trust.none, sizeT_mk, sizeL]
theorem join_next {al : Bool} {l : List (List Trust)} {q : List Mem} {k : Nat} {x d : List Trust} (hx : l[k]? = some x) (hI : q = (l.take k).map (fun x => joinM al (diffV x))) (hd : d = diffV x) : q ++ [joinM al d] = (l.take (k + 1)).map (fun x => joinM al (diffV x)) := by
  rw [List.take_add_one, hx, List.map_append, hI, hd]
  rfl
theorem joined_con (l : List (List Trust)) (al : Bool) (hl : l.length ≤ 6) (hm : ∀ x ∈ l, x.length ≤ 4 ∧ ∀ t ∈ x, sizeT t ≤ 100000) : Con Try.prog 46 [.sl 1 (l.map tsv), .b al] [] (fun d H => ∃ (q : List Mem) (e : Int), d = .tup [cv q, .i e] ∧ (e = 0 → q = l.map (fun x => joinM al (diffV x)) ∧ validC q = 0) ∧ H = []) := by
  have hcap : capB = 140737488355328 := rfl
  have hll : (l.map tsv).length = l.length := by simp
  refine con_intro Try.func46 rfl Try.call46 rfl ?_
  refine awp_seq ?_
  refine awp_region ?_
  refine aops_alloc rfl zRc rfl rfl (fun b4 => ?_)
  refine aops_p (ap_assign rfl) rfl rfl rfl ?_
  refine aops_nil ?_
  refine seqQ_n ?_
  refine awp_seq ?_
  refine awp_seq ?_
  refine awp_region ?_
  refine aops_p (ap_move rfl) rfl rfl rfl ?_
  first | refine aops_len rfl rfl rfl rfl (fun _ => ?_) | refine aops_p (ap_len_arr rfl zUpd rfl) rfl rfl rfl ?_ | refine aops_p (ap_len_nil rfl rfl) rfl rfl rfl ?_
  refine aops_p (ap_cmp rfl rfl rfl) rfl rfl rfl ?_
  refine aops_nil ?_
  refine seqQ_n ?_
  refine awp_cond_f rfl zDec ?_
  refine awp_skip ?_
  refine seqQ_n ?_
  refine awp_seq ?_
  refine awp_region ?_
  refine aops_alloc rfl zRc rfl rfl (fun b6 => ?_)
  refine aops_nil ?_
  refine seqQ_n ?_
  refine awp_seq ?_
  refine awp_seq ?_
  refine awp_region ?_
  refine aops_p (ap_move rfl) rfl rfl rfl ?_
  first | refine aops_len rfl rfl rfl rfl (fun _ => ?_) | refine aops_p (ap_len_arr rfl zUpd rfl) rfl rfl rfl ?_ | refine aops_p (ap_len_nil rfl rfl) rfl rfl rfl ?_
  refine aops_p (ap_move rfl) rfl rfl rfl ?_
  refine aops_nil ?_
  refine seqQ_n ?_
  refine awp_block ?_
  refine awp_loop3 [1, 4, 6, 19, 20] [.box b4 _ _] (fun (k : Nat) (v : Value) (q : List Mem) r => (21, .i (k : Int)) :: r) (fun (k : Nat) (v : Value) (q : List Mem) r => .box b6 27 [.v v] :: .arr v 61 4 (q.map mv) :: r) (fun (k : Nat) (v : Value) (q : List Mem) => k ≤ l.length ∧ q = (l.take k).map (fun x => joinM al (diffV x)) ∧ ∀ m ∈ q, sizeT m.t ≤ 500000) (fun (k : Nat) (v : Value) (q : List Mem) => l.length - k) (0) (.slice none 0 0) ([]) zRc ⟨by omega, by simp, fun m h => absurd h List.not_mem_nil⟩ ((wk_own 61 4 rfl).trans (wk zSub (by repeat (first | exact .nil | refine .cons (by first | exact .here | exact .there .here | exact .there (.there .here) | exact .there (.there (.there .here)) | exact .there (.there (.there (.there .here)))) ?_)))) ?_
  intro k v q ⟨hk, hI, hqs⟩
  have hql : q.length = k := by rw [hI]; simp; omega
  have hqm : (q.map mv).length = q.length := by simp
  refine awp_seq ?_
  refine awp_region ?_
  refine aops_p (ap_cmp rfl rfl rfl) rfl rfl rfl ?_
  refine aops_nil ?_
  refine seqQ_n ?_
  refine awp_seq ?_
  refine awp_cond rfl (fun hc => ?_) (fun hc => ?_)
  · have hlt := of_decide_eq_true hc
    obtain ⟨x, hx, hd⟩ := drop_cons (l := l) (k := k) (by omega)
    have hx' := getMap tsv hx
    have hxm := hm x (List.mem_of_getElem? hx)
    have hxl := avs_len x
    refine awp_skip ?_
    refine seqQ_n ?_
    refine awp_seq ?_
    refine awp_block ?_
    refine awp_seq ?_
    refine awp_region ?_
    first | refine aops_p (ap_index rfl rfl rfl rfl (by decide) rfl zAss) rfl rfl rfl ?_ | refine aops_p (ap_index rfl rfl rfl rfl (by decide) (by omega) zAss) rfl rfl rfl ?_ | refine aops_p (ap_index_own rfl rfl rfl rfl rfl (by first | omega | (simp only [List.length_map, List.length_set, avs_len]; omega))) rfl rfl rfl ?_
    first | refine aops_q (aq_load1 rfl zUpd List.not_mem_nil rfl zRc) rfl rfl rfl ?_ | refine aops_q (aq_load_el1 rfl rfl zScal (fun _ h => absurd h List.not_mem_nil)) rfl rfl rfl ?_ | refine aops_q (aq_load_el1' rfl rfl zScal (fun _ h => absurd h List.not_mem_nil)) rfl rfl rfl ?_ | refine aops_q (aq_load_own1 rfl zUpd List.not_mem_nil rfl zAss zScal) rfl rfl rfl ?_
    refine aops_p (ap_assign rfl) rfl rfl rfl ?_
    refine aops_nil ?_
    refine seqQ_n ?_
    refine awp_seq ?_
    refine awp_seq ?_
    refine awp_region ?_
    refine aops_p (ap_move rfl) rfl rfl rfl ?_
    first | refine aops_len rfl rfl rfl rfl (fun _ => ?_) | refine aops_p (ap_len_arr rfl zUpd rfl) rfl rfl rfl ?_ | refine aops_p (ap_len_nil rfl rfl) rfl rfl rfl ?_
    refine aops_p (ap_move rfl) rfl rfl rfl ?_
    refine aops_nil ?_
    refine seqQ_n ?_
    refine awp_block ?_
    refine awp_loop1 [1, 4, 6, 8, 19, 20, 21, 25, 26] [.box b6 _ _, .arr v 61 4 (q.map mv), .box b4 _ _] (fun (j : Nat) r => (27, .i (j : Int)) :: r) (fun (j : Nat) r => r) (fun (j : Nat) => j ≤ x.length) (fun (j : Nat) => x.length - j) (0) zRc (by omega) (wk zSub (by repeat (first | exact .nil | refine .cons (by first | exact .here | exact .there .here | exact .there (.there .here) | exact .there (.there (.there .here)) | exact .there (.there (.there (.there .here)))) ?_))) ?_
    intro j hj
    refine awp_seq ?_
    refine awp_region ?_
    refine aops_p (ap_cmp rfl rfl rfl) rfl rfl rfl ?_
    refine aops_nil ?_
    refine seqQ_n ?_
    refine awp_seq ?_
    refine awp_cond rfl (fun hc => ?_) (fun hc => ?_)
    · have hlt2 := of_decide_eq_true hc
      obtain ⟨t, ht, hd2⟩ := drop_cons (l := x) (k := j) (by omega)
      have ht' := avs_get ht
      have htm := hxm.2 t (List.mem_of_getElem? ht)
      refine awp_skip ?_
      refine seqQ_n ?_
      refine awp_seq ?_
      refine awp_block ?_
      refine awp_seq ?_
      refine awp_region ?_
      first | refine aops_p (ap_index rfl rfl rfl rfl (by decide) rfl zAss) rfl rfl rfl ?_ | refine aops_p (ap_index rfl rfl rfl rfl (by decide) (by omega) zAss) rfl rfl rfl ?_ | refine aops_p (ap_index_own rfl rfl rfl rfl rfl (by first | omega | (simp only [List.length_map, List.length_set, avs_len]; omega))) rfl rfl rfl ?_
      first | refine aops_q (aq_load rfl zUpd List.not_mem_nil rfl rfl zRc) rfl rfl rfl ?_ | refine aops_q (aq_load_el rfl rfl rfl rfl (fun _ h => absurd h List.not_mem_nil)) rfl rfl rfl ?_
      refine aops_alloc rfl zRc rfl rfl (fun b10 => ?_)
      first | refine aops_store rfl rfl zFlat zUpd rfl zRc ?_ | refine aops_store_own1 rfl rfl zScal zUpd rfl (by simp only [List.length_set, List.length_map]; omega) ?_
      refine aops_nil ?_
      refine seqQ_n ?_
      refine awp_seq ?_
      refine awp_region ?_
      first | refine aops_q (aq_load rfl zUpd List.not_mem_nil rfl rfl zRc) rfl rfl rfl ?_ | refine aops_q (aq_load_el rfl rfl rfl rfl (fun _ h => absurd h List.not_mem_nil)) rfl rfl rfl ?_
      refine aops_call_v zRc (rvalidT_con t (by omega)) rfl rfl ?_
      refine aops_p (ap_assign rfl) rfl rfl rfl ?_
      refine aops_nil ?_
      refine seqQ_n ?_
      refine awp_seq ?_
      refine awp_region ?_
      refine aops_p (ap_move rfl) rfl rfl rfl ?_
      refine aops_p (ap_cmp rfl rfl rfl) rfl rfl rfl ?_
      refine aops_nil ?_
      refine seqQ_n ?_
      refine awp_cond rfl (fun hc => ?_) (fun hc => ?_)
      · have he := of_neq_true hc
        refine awp_seq ?_
        refine awp_region ?_
        refine aops_p (ap_build zKr rfl zRc (by repeat (first | exact .nil | apply FillL.cons rfl zFlat rfl zRc))) rfl rfl rfl ?_
        refine aops_p (ap_move rfl) rfl rfl rfl ?_
        first | refine aops_store rfl rfl zFlat zUpd rfl zRc ?_ | refine aops_store_own1 rfl rfl zScal zUpd rfl (by simp only [List.length_set, List.length_map]; omega) ?_
        refine aops_p (ap_assign rfl) rfl rfl rfl ?_
        refine aops_nil ?_
        refine seqQ_n ?_
        refine awp_unnil [4,5] 4 rfl (by repeat (first | exact .nil | apply SelC.cons rfl (by first | exact Cv.fz | (apply Cv.agg; repeat (first | exact CvL.nil | apply CvL.cons (by first | exact Cv.fz | exact Cv.same))) | exact Cv.same))) (by repeat (first | exact .nil | apply HeapA.box (by repeat (first | exact CvL.nil | apply CvL.cons (by first | exact Cv.fz | exact Cv.same))) | apply HeapA.arr)) ?_
        refine awp_ret ?_
        refine blockQ_r ?_
        refine seqQ_r ?_
        refine seqQ_r ?_
        refine blockQ_r ?_
        refine seqQ_r ?_
        refine blockQ_r ?_
        refine seqQ_r ?_
        refine seqQ_r ?_
        refine blockQ_r ?_
        refine seqQ_r ?_
        refine post_ret (.cell rfl zUpd rfl rfl (.tmp rfl .nil)) (by repeat (first | exact .nil | refine .cons (by first | exact .here | exact .there .here | exact .there (.there .here) | exact .there (.there (.there .here)) | exact .there (.there (.there (.there .here)))) ?_)) ⟨[], _, rfl, fun e => absurd e he, rfl⟩
      · refine awp_skip ?_
        refine blockQ_n ?_
        refine seqQ_n ?_
        refine awp_region ?_
        refine aops_p (ap_arith rfl rfl rfl (by omega)) rfl rfl rfl ?_
        refine aops_p (ap_move rfl) rfl rfl rfl ?_
        refine aops_nil ?_
        refine seqQ_n ?_
        refine ⟨j + 1, by omega, by omega, wk zSub (by repeat (first | exact .nil | refine .cons (by first | exact .here | exact .there .here | exact .there (.there .here) | exact .there (.there (.there .here)) | exact .there (.there (.there (.there .here)))) ?_))⟩
    · obtain ⟨dd, hdd⟩ : ∃ dd, dd = diffV x := ⟨_, rfl⟩
      have hdm : ∀ t ∈ dd, sizeT t ≤ 100000 := by rw [hdd]; exact diffGo_mem x [] (fun y hy => absurd hy List.not_mem_nil) hxm.2
      have hdl := avs_len dd
      refine awp_exit ?_
      refine seqQ_x ?_
      refine seqQ_x ?_
      refine blockQ_x rfl ?_
      refine seqQ_n ?_
      refine awp_seq ?_
      refine awp_region ?_
      refine aops_p (ap_move rfl) rfl rfl rfl ?_
      refine aops_call_v zRc (diff_con x (by omega)) rfl rfl ?_
      refine aops_p (ap_assign rfl) rfl rfl rfl ?_
      refine aops_nil ?_
      refine seqQ_n ?_
      refine awp_seq ?_
      refine awp_seq ?_
      rw [← hdd]
      refine awp_region ?_
      refine aops_p (ap_move rfl) rfl rfl rfl ?_
      first | refine aops_len rfl rfl rfl rfl (fun _ => ?_) | refine aops_p (ap_len_arr rfl zUpd rfl) rfl rfl rfl ?_ | refine aops_p (ap_len_nil rfl rfl) rfl rfl rfl ?_
      refine aops_p (ap_cmp rfl rfl rfl) rfl rfl rfl ?_
      refine aops_nil ?_
      refine seqQ_n ?_
      refine awp_cond rfl (fun hc => ?_) (fun hc => ?_)
      · have hd4 := of_decide_eq_true hc
        refine awp_seq ?_
        refine awp_region ?_
        refine aops_p (ap_build zKr rfl zRc (by repeat (first | exact .nil | apply FillL.cons rfl zFlat rfl zRc))) rfl rfl rfl ?_
        first | refine aops_store rfl rfl zFlat zUpd rfl zRc ?_ | refine aops_store_own1 rfl rfl zScal zUpd rfl (by simp only [List.length_set, List.length_map]; omega) ?_
        refine aops_p (ap_assign rfl) rfl rfl rfl ?_
        refine aops_nil ?_
        refine seqQ_n ?_
        refine awp_unnil [4,5] 4 rfl (by repeat (first | exact .nil | apply SelC.cons rfl (by first | exact Cv.fz | (apply Cv.agg; repeat (first | exact CvL.nil | apply CvL.cons (by first | exact Cv.fz | exact Cv.same))) | exact Cv.same))) (by repeat (first | exact .nil | apply HeapA.box (by repeat (first | exact CvL.nil | apply CvL.cons (by first | exact Cv.fz | exact Cv.same))) | apply HeapA.arr)) ?_
        refine awp_ret ?_
        refine seqQ_r ?_
        refine blockQ_r ?_
        refine seqQ_r ?_
        refine seqQ_r ?_
        refine blockQ_r ?_
        refine seqQ_r ?_
        refine post_ret (.cell rfl zUpd rfl rfl (.tmp rfl .nil)) (by repeat (first | exact .nil | refine .cons (by first | exact .here | exact .there .here | exact .there (.there .here) | exact .there (.there (.there .here)) | exact .there (.there (.there (.there .here)))) ?_)) ⟨[], _, rfl, fun e => by omega, rfl⟩
      · have hd4 := of_decide_eq_false hc
        refine awp_skip ?_
        refine seqQ_n ?_
        refine awp_seq ?_
        refine awp_region ?_
        refine aops_alloc rfl zRc rfl rfl (fun b13 => ?_)
        refine aops_nil ?_
        refine seqQ_n ?_
        refine awp_seq ?_
        refine awp_block ?_
        refine awp_seq ?_
        refine awp_region ?_
        refine aops_p (ap_move rfl) rfl rfl rfl ?_
        first | refine aops_len rfl rfl rfl rfl (fun _ => ?_) | refine aops_p (ap_len_arr rfl zUpd rfl) rfl rfl rfl ?_ | refine aops_p (ap_len_nil rfl rfl) rfl rfl rfl ?_
        refine aops_p (ap_cmp rfl rfl rfl) rfl rfl rfl ?_
        refine aops_p (ap_assign rfl) rfl rfl rfl ?_
        refine aops_nil ?_
        refine seqQ_n ?_
        refine awp_cond rfl (fun hc => ?_) (fun hc => ?_)
        · have hd1 : ((dd.length : Nat) : Int) = 1 := by have := of_decide_eq_true hc; omega
          obtain ⟨t0, ht0, _⟩ := drop_cons (l := dd) (k := 0) (by omega)
          have ht0' := avs_get ht0
          refine awp_region ?_
          refine aops_p (ap_move rfl) rfl rfl rfl ?_
          first | refine aops_p (ap_index rfl rfl rfl rfl (by decide) rfl zAss) rfl rfl rfl ?_ | refine aops_p (ap_index rfl rfl rfl rfl (by decide) (by omega) zAss) rfl rfl rfl ?_ | refine aops_p (ap_index_own rfl rfl rfl rfl rfl (by first | omega | (simp only [List.length_map, List.length_set, avs_len]; omega))) rfl rfl rfl ?_
          first | refine aops_q (aq_load rfl zUpd List.not_mem_nil rfl rfl zRc) rfl rfl rfl ?_ | refine aops_q (aq_load_el rfl rfl rfl rfl (fun _ h => absurd h List.not_mem_nil)) rfl rfl rfl ?_
          refine aops_p (ap_build zKr rfl zRc (by repeat (first | exact .nil | apply FillL.cons rfl zFlat rfl zRc))) rfl rfl rfl ?_
          first | refine aops_store rfl rfl zFlat zUpd rfl zRc ?_ | refine aops_store_own1 rfl rfl zScal zUpd rfl (by simp only [List.length_set, List.length_map]; omega) ?_
          refine aops_nil ?_
          refine blockQ_n ?_
          refine seqQ_n ?_
          refine awp_region ?_
          first | refine aops_p (ap_fieldAddr (off := 0) (sz := 1) (g := false) rfl rfl) rfl rfl rfl ?_ | refine aops_p (ap_fieldAddr_el (off := 0) (sz := 1) (g := false) rfl rfl zRc) rfl rfl rfl ?_
          first | refine aops_q (aq_load1 rfl zUpd List.not_mem_nil rfl zRc) rfl rfl rfl ?_ | refine aops_q (aq_load_el1 rfl rfl zScal (fun _ h => absurd h List.not_mem_nil)) rfl rfl rfl ?_ | refine aops_q (aq_load_el1' rfl rfl zScal (fun _ h => absurd h List.not_mem_nil)) rfl rfl rfl ?_ | refine aops_q (aq_load_own1 rfl zUpd List.not_mem_nil rfl zAss zScal) rfl rfl rfl ?_
          first | refine aops_q (aq_load rfl zUpd List.not_mem_nil rfl rfl zRc) rfl rfl rfl ?_ | refine aops_q (aq_load_el rfl rfl rfl rfl (fun _ h => absurd h List.not_mem_nil)) rfl rfl rfl ?_
          refine aops_unnil [1,4,6,19,20,21,65,66] 1 rfl rfl (by repeat (first | exact SelC.nil | apply SelC.cons rfl (Cv.agg (CvL.cons Cv.same (CvL.cons Cv.same (CvL.cons Cv.fz (CvL.cons Cv.same CvL.nil))))) | apply SelC.cons rfl Cv.same)) (by repeat (first | exact .nil | apply HeapA.box (by repeat (first | exact CvL.nil | apply CvL.cons Cv.same)) | apply HeapA.arr)) ?_; refine aops_unnil [1,4,6,19,20,21,65,66] 3 rfl rfl (by repeat (first | exact .nil | apply SelC.cons rfl (by first | exact Cv.fz | (apply Cv.agg; repeat (first | exact CvL.nil | apply CvL.cons (by first | exact Cv.fz | exact Cv.same))) | exact Cv.same))) (by repeat (first | exact .nil | apply HeapA.box (by repeat (first | exact CvL.nil | apply CvL.cons Cv.same)) | apply HeapA.arr)) ?_; refine aops_lit (e := 61) (sz := 4) (by_ := 64) rfl rfl zRc rfl rfl rfl rfl ?_
          first | refine aops_append (e := 61) (sz := 4) (by_ := 64) rfl zUpd rfl rfl rfl rfl rfl (by simp only [List.length_cons, List.length_nil, List.length_append, List.length_map, avs_len]; omega) (fun v68 hv68 => ?_) | refine aops_append_nil (e := 61) (sz := 4) (by_ := 64) rfl rfl rfl rfl rfl rfl (by simp only [List.length_cons, List.length_nil, List.length_append, List.length_map, avs_len]; omega) (fun v68 hv68 => ?_)
          first | refine aops_p (ap_fieldAddr (off := 0) (sz := 1) (g := false) rfl rfl) rfl rfl rfl ?_ | refine aops_p (ap_fieldAddr_el (off := 0) (sz := 1) (g := false) rfl rfl zRc) rfl rfl rfl ?_
          first | refine aops_store rfl rfl zFlat zUpd rfl zRc ?_ | refine aops_store_own1 rfl rfl zScal zUpd rfl (by simp only [List.length_set, List.length_map]; omega) ?_
          refine aops_nil ?_
          refine blockQ_n ?_
          refine seqQ_n ?_
          refine awp_region ?_
          refine aops_p (ap_arith rfl rfl rfl (by omega)) rfl rfl rfl ?_
          refine aops_p (ap_move rfl) rfl rfl rfl ?_
          refine aops_nil ?_
          refine seqQ_n ?_
          first
          | (rw [show D.agg [.b true, .i t0.th, .sl 1 (t0.nodes.map .i), .sl 3 (avs t0.inner)] = mv (joinM al dd) from by rw [joinM_1 hd1 ht0]; rfl, mv_snoc]; refine ⟨k + 1, _, q ++ [joinM al dd], ⟨by omega, join_next hx hI hdd, snoc_mem hqs (joinM_size (by omega) hdm)⟩, by omega, wk zSub (by repeat (first | exact .nil | refine .cons (by first | exact .here | exact .there .here | exact .there (.there .here) | exact .there (.there (.there .here)) | exact .there (.there (.there (.there .here)))) ?_))⟩)
          | (rw [show D.agg [.b true, .i ((avs dd).length : Int), .sl 1 [], .sl 3 (avs dd)] = mv (joinM al dd) from by rw [show al = true from by with_reducible assumption, joinM_2 hd1 hd2, avs_len]; rfl, mv_snoc]; refine ⟨k + 1, _, q ++ [joinM al dd], ⟨by omega, join_next hx hI hdd, snoc_mem hqs (joinM_size (by omega) hdm)⟩, by omega, wk zSub (by repeat (first | exact .nil | refine .cons (by first | exact .here | exact .there .here | exact .there (.there .here) | exact .there (.there (.there .here)) | exact .there (.there (.there (.there .here)))) ?_))⟩)
          | (rw [show D.agg [.b true, .i 1, .sl 1 [], .sl 3 (avs dd)] = mv (joinM al dd) from by rw [show al = false from by with_reducible assumption, joinM_3 hd1 hd2]; rfl, mv_snoc]; refine ⟨k + 1, _, q ++ [joinM al dd], ⟨by omega, join_next hx hI hdd, snoc_mem hqs (joinM_size (by omega) hdm)⟩, by omega, wk zSub (by repeat (first | exact .nil | refine .cons (by first | exact .here | exact .there .here | exact .there (.there .here) | exact .there (.there (.there .here)) | exact .there (.there (.there (.there .here)))) ?_))⟩)
          | (rw [show D.agg [.b false, .i 0, .sl 1 [], .sl 3 []] = mv (joinM al dd) from by rw [joinM_4 hd1 hd2]; rfl, mv_snoc]; refine ⟨k + 1, _, q ++ [joinM al dd], ⟨by omega, join_next hx hI hdd, snoc_mem hqs (joinM_size (by omega) hdm)⟩, by omega, wk zSub (by repeat (first | exact .nil | refine .cons (by first | exact .here | exact .there .here | exact .there (.there .here) | exact .there (.there (.there .here)) | exact .there (.there (.there (.there .here)))) ?_))⟩)
        · have hd1 : ¬ ((dd.length : Nat) : Int) = 1 := by have := of_decide_eq_false hc; omega
          refine awp_seq ?_
          refine awp_region ?_
          refine aops_p (ap_move rfl) rfl rfl rfl ?_
          first | refine aops_len rfl rfl rfl rfl (fun _ => ?_) | refine aops_p (ap_len_arr rfl zUpd rfl) rfl rfl rfl ?_ | refine aops_p (ap_len_nil rfl rfl) rfl rfl rfl ?_
          refine aops_p (ap_cmp rfl rfl rfl) rfl rfl rfl ?_
          refine aops_p (ap_assign rfl) rfl rfl rfl ?_
          refine aops_nil ?_
          refine seqQ_n ?_
          refine awp_cond rfl (fun hc => ?_) (fun hc => ?_)
          · have hd2 : (1 : Int) < (dd.length : Nat) := by have := of_decide_eq_true hc; omega
            refine awp_seq ?_
            refine awp_region ?_
            refine aops_p (ap_move rfl) rfl rfl rfl ?_
            refine aops_p (ap_build zKr rfl zRc (by repeat (first | exact .nil | apply FillL.cons rfl zFlat rfl zRc))) rfl rfl rfl ?_
            refine aops_p (ap_build zKr rfl zRc (by repeat (first | exact .nil | apply FillL.cons rfl zFlat rfl zRc))) rfl rfl rfl ?_
            first | refine aops_store rfl rfl zFlat zUpd rfl zRc ?_ | refine aops_store_own1 rfl rfl zScal zUpd rfl (by simp only [List.length_set, List.length_map]; omega) ?_
            refine aops_nil ?_
            refine seqQ_n ?_
            refine awp_seq ?_
            refine awp_region ?_
            refine aops_p (ap_move rfl) rfl rfl rfl ?_
            refine aops_nil ?_
            refine seqQ_n ?_
            refine awp_cond rfl (fun hc => ?_) (fun hc => ?_)
            · refine awp_region ?_
              refine aops_p (ap_move rfl) rfl rfl rfl ?_
              first | refine aops_len rfl rfl rfl rfl (fun _ => ?_) | refine aops_p (ap_len_arr rfl zUpd rfl) rfl rfl rfl ?_ | refine aops_p (ap_len_nil rfl rfl) rfl rfl rfl ?_
              first | refine aops_p (ap_fieldAddr (off := 1) (sz := 3) (g := true) rfl rfl) rfl rfl rfl ?_ | refine aops_p (ap_fieldAddr_el (off := 1) (sz := 3) (g := true) rfl rfl zRc) rfl rfl rfl ?_
              first | refine aops_p (ap_fieldAddr (off := 0) (sz := 1) (g := false) rfl rfl) rfl rfl rfl ?_ | refine aops_p (ap_fieldAddr_el (off := 0) (sz := 1) (g := false) rfl rfl zRc) rfl rfl rfl ?_
              first | refine aops_store rfl rfl zFlat zUpd rfl zRc ?_ | refine aops_store_own1 rfl rfl zScal zUpd rfl (by simp only [List.length_set, List.length_map]; omega) ?_
              refine aops_nil ?_
              refine blockQ_n ?_
              refine seqQ_n ?_
              refine awp_region ?_
              first | refine aops_p (ap_fieldAddr (off := 0) (sz := 1) (g := false) rfl rfl) rfl rfl rfl ?_ | refine aops_p (ap_fieldAddr_el (off := 0) (sz := 1) (g := false) rfl rfl zRc) rfl rfl rfl ?_
              first | refine aops_q (aq_load1 rfl zUpd List.not_mem_nil rfl zRc) rfl rfl rfl ?_ | refine aops_q (aq_load_el1 rfl rfl zScal (fun _ h => absurd h List.not_mem_nil)) rfl rfl rfl ?_ | refine aops_q (aq_load_el1' rfl rfl zScal (fun _ h => absurd h List.not_mem_nil)) rfl rfl rfl ?_ | refine aops_q (aq_load_own1 rfl zUpd List.not_mem_nil rfl zAss zScal) rfl rfl rfl ?_
              first | refine aops_q (aq_load rfl zUpd List.not_mem_nil rfl rfl zRc) rfl rfl rfl ?_ | refine aops_q (aq_load_el rfl rfl rfl rfl (fun _ h => absurd h List.not_mem_nil)) rfl rfl rfl ?_
              refine aops_unnil [1,4,6,19,20,21,65,66] 1 rfl rfl (by repeat (first | exact SelC.nil | apply SelC.cons rfl (Cv.agg (CvL.cons Cv.same (CvL.cons Cv.same (CvL.cons Cv.fz (CvL.cons Cv.same CvL.nil))))) | apply SelC.cons rfl Cv.same)) (by repeat (first | exact .nil | apply HeapA.box (by repeat (first | exact CvL.nil | apply CvL.cons Cv.same)) | apply HeapA.arr)) ?_; refine aops_unnil [1,4,6,19,20,21,65,66] 3 rfl rfl (by repeat (first | exact .nil | apply SelC.cons rfl (by first | exact Cv.fz | (apply Cv.agg; repeat (first | exact CvL.nil | apply CvL.cons (by first | exact Cv.fz | exact Cv.same))) | exact Cv.same))) (by repeat (first | exact .nil | apply HeapA.box (by repeat (first | exact CvL.nil | apply CvL.cons Cv.same)) | apply HeapA.arr)) ?_; refine aops_lit (e := 61) (sz := 4) (by_ := 64) rfl rfl zRc rfl rfl rfl rfl ?_
              first | refine aops_append (e := 61) (sz := 4) (by_ := 64) rfl zUpd rfl rfl rfl rfl rfl (by simp only [List.length_cons, List.length_nil, List.length_append, List.length_map, avs_len]; omega) (fun v68 hv68 => ?_) | refine aops_append_nil (e := 61) (sz := 4) (by_ := 64) rfl rfl rfl rfl rfl rfl (by simp only [List.length_cons, List.length_nil, List.length_append, List.length_map, avs_len]; omega) (fun v68 hv68 => ?_)
              first | refine aops_p (ap_fieldAddr (off := 0) (sz := 1) (g := false) rfl rfl) rfl rfl rfl ?_ | refine aops_p (ap_fieldAddr_el (off := 0) (sz := 1) (g := false) rfl rfl zRc) rfl rfl rfl ?_
              first | refine aops_store rfl rfl zFlat zUpd rfl zRc ?_ | refine aops_store_own1 rfl rfl zScal zUpd rfl (by simp only [List.length_set, List.length_map]; omega) ?_
              refine aops_nil ?_
              refine blockQ_n ?_
              refine seqQ_n ?_
              refine awp_region ?_
              refine aops_p (ap_arith rfl rfl rfl (by omega)) rfl rfl rfl ?_
              refine aops_p (ap_move rfl) rfl rfl rfl ?_
              refine aops_nil ?_
              refine seqQ_n ?_
              first
              | (rw [show D.agg [.b true, .i t0.th, .sl 1 (t0.nodes.map .i), .sl 3 (avs t0.inner)] = mv (joinM al dd) from by rw [joinM_1 hd1 ht0]; rfl, mv_snoc]; refine ⟨k + 1, _, q ++ [joinM al dd], ⟨by omega, join_next hx hI hdd, snoc_mem hqs (joinM_size (by omega) hdm)⟩, by omega, wk zSub (by repeat (first | exact .nil | refine .cons (by first | exact .here | exact .there .here | exact .there (.there .here) | exact .there (.there (.there .here)) | exact .there (.there (.there (.there .here)))) ?_))⟩)
              | (rw [show D.agg [.b true, .i ((avs dd).length : Int), .sl 1 [], .sl 3 (avs dd)] = mv (joinM al dd) from by rw [show al = true from by with_reducible assumption, joinM_2 hd1 hd2, avs_len]; rfl, mv_snoc]; refine ⟨k + 1, _, q ++ [joinM al dd], ⟨by omega, join_next hx hI hdd, snoc_mem hqs (joinM_size (by omega) hdm)⟩, by omega, wk zSub (by repeat (first | exact .nil | refine .cons (by first | exact .here | exact .there .here | exact .there (.there .here) | exact .there (.there (.there .here)) | exact .there (.there (.there (.there .here)))) ?_))⟩)
              | (rw [show D.agg [.b true, .i 1, .sl 1 [], .sl 3 (avs dd)] = mv (joinM al dd) from by rw [show al = false from by with_reducible assumption, joinM_3 hd1 hd2]; rfl, mv_snoc]; refine ⟨k + 1, _, q ++ [joinM al dd], ⟨by omega, join_next hx hI hdd, snoc_mem hqs (joinM_size (by omega) hdm)⟩, by omega, wk zSub (by repeat (first | exact .nil | refine .cons (by first | exact .here | exact .there .here | exact .there (.there .here) | exact .there (.there (.there .here)) | exact .there (.there (.there (.there .here)))) ?_))⟩)
              | (rw [show D.agg [.b false, .i 0, .sl 1 [], .sl 3 []] = mv (joinM al dd) from by rw [joinM_4 hd1 hd2]; rfl, mv_snoc]; refine ⟨k + 1, _, q ++ [joinM al dd], ⟨by omega, join_next hx hI hdd, snoc_mem hqs (joinM_size (by omega) hdm)⟩, by omega, wk zSub (by repeat (first | exact .nil | refine .cons (by first | exact .here | exact .there .here | exact .there (.there .here) | exact .there (.there (.there .here)) | exact .there (.there (.there (.there .here)))) ?_))⟩)
            · refine awp_skip ?_
              refine blockQ_n ?_
              refine seqQ_n ?_
              refine awp_region ?_
              first | refine aops_p (ap_fieldAddr (off := 0) (sz := 1) (g := false) rfl rfl) rfl rfl rfl ?_ | refine aops_p (ap_fieldAddr_el (off := 0) (sz := 1) (g := false) rfl rfl zRc) rfl rfl rfl ?_
              first | refine aops_q (aq_load1 rfl zUpd List.not_mem_nil rfl zRc) rfl rfl rfl ?_ | refine aops_q (aq_load_el1 rfl rfl zScal (fun _ h => absurd h List.not_mem_nil)) rfl rfl rfl ?_ | refine aops_q (aq_load_el1' rfl rfl zScal (fun _ h => absurd h List.not_mem_nil)) rfl rfl rfl ?_ | refine aops_q (aq_load_own1 rfl zUpd List.not_mem_nil rfl zAss zScal) rfl rfl rfl ?_
              first | refine aops_q (aq_load rfl zUpd List.not_mem_nil rfl rfl zRc) rfl rfl rfl ?_ | refine aops_q (aq_load_el rfl rfl rfl rfl (fun _ h => absurd h List.not_mem_nil)) rfl rfl rfl ?_
              refine aops_unnil [1,4,6,19,20,21,65,66] 1 rfl rfl (by repeat (first | exact SelC.nil | apply SelC.cons rfl (Cv.agg (CvL.cons Cv.same (CvL.cons Cv.same (CvL.cons Cv.fz (CvL.cons Cv.same CvL.nil))))) | apply SelC.cons rfl Cv.same)) (by repeat (first | exact .nil | apply HeapA.box (by repeat (first | exact CvL.nil | apply CvL.cons Cv.same)) | apply HeapA.arr)) ?_; refine aops_unnil [1,4,6,19,20,21,65,66] 3 rfl rfl (by repeat (first | exact .nil | apply SelC.cons rfl (by first | exact Cv.fz | (apply Cv.agg; repeat (first | exact CvL.nil | apply CvL.cons (by first | exact Cv.fz | exact Cv.same))) | exact Cv.same))) (by repeat (first | exact .nil | apply HeapA.box (by repeat (first | exact CvL.nil | apply CvL.cons Cv.same)) | apply HeapA.arr)) ?_; refine aops_lit (e := 61) (sz := 4) (by_ := 64) rfl rfl zRc rfl rfl rfl rfl ?_
              first | refine aops_append (e := 61) (sz := 4) (by_ := 64) rfl zUpd rfl rfl rfl rfl rfl (by simp only [List.length_cons, List.length_nil, List.length_append, List.length_map, avs_len]; omega) (fun v68 hv68 => ?_) | refine aops_append_nil (e := 61) (sz := 4) (by_ := 64) rfl rfl rfl rfl rfl rfl (by simp only [List.length_cons, List.length_nil, List.length_append, List.length_map, avs_len]; omega) (fun v68 hv68 => ?_)
              first | refine aops_p (ap_fieldAddr (off := 0) (sz := 1) (g := false) rfl rfl) rfl rfl rfl ?_ | refine aops_p (ap_fieldAddr_el (off := 0) (sz := 1) (g := false) rfl rfl zRc) rfl rfl rfl ?_
              first | refine aops_store rfl rfl zFlat zUpd rfl zRc ?_ | refine aops_store_own1 rfl rfl zScal zUpd rfl (by simp only [List.length_set, List.length_map]; omega) ?_
              refine aops_nil ?_
              refine blockQ_n ?_
              refine seqQ_n ?_
              refine awp_region ?_
              refine aops_p (ap_arith rfl rfl rfl (by omega)) rfl rfl rfl ?_
              refine aops_p (ap_move rfl) rfl rfl rfl ?_
              refine aops_nil ?_
              refine seqQ_n ?_
              first
              | (rw [show D.agg [.b true, .i t0.th, .sl 1 (t0.nodes.map .i), .sl 3 (avs t0.inner)] = mv (joinM al dd) from by rw [joinM_1 hd1 ht0]; rfl, mv_snoc]; refine ⟨k + 1, _, q ++ [joinM al dd], ⟨by omega, join_next hx hI hdd, snoc_mem hqs (joinM_size (by omega) hdm)⟩, by omega, wk zSub (by repeat (first | exact .nil | refine .cons (by first | exact .here | exact .there .here | exact .there (.there .here) | exact .there (.there (.there .here)) | exact .there (.there (.there (.there .here)))) ?_))⟩)
              | (rw [show D.agg [.b true, .i ((avs dd).length : Int), .sl 1 [], .sl 3 (avs dd)] = mv (joinM al dd) from by rw [show al = true from by with_reducible assumption, joinM_2 hd1 hd2, avs_len]; rfl, mv_snoc]; refine ⟨k + 1, _, q ++ [joinM al dd], ⟨by omega, join_next hx hI hdd, snoc_mem hqs (joinM_size (by omega) hdm)⟩, by omega, wk zSub (by repeat (first | exact .nil | refine .cons (by first | exact .here | exact .there .here | exact .there (.there .here) | exact .there (.there (.there .here)) | exact .there (.there (.there (.there .here)))) ?_))⟩)
              | (rw [show D.agg [.b true, .i 1, .sl 1 [], .sl 3 (avs dd)] = mv (joinM al dd) from by rw [show al = false from by with_reducible assumption, joinM_3 hd1 hd2]; rfl, mv_snoc]; refine ⟨k + 1, _, q ++ [joinM al dd], ⟨by omega, join_next hx hI hdd, snoc_mem hqs (joinM_size (by omega) hdm)⟩, by omega, wk zSub (by repeat (first | exact .nil | refine .cons (by first | exact .here | exact .there .here | exact .there (.there .here) | exact .there (.there (.there .here)) | exact .there (.there (.there (.there .here)))) ?_))⟩)
              | (rw [show D.agg [.b false, .i 0, .sl 1 [], .sl 3 []] = mv (joinM al dd) from by rw [joinM_4 hd1 hd2]; rfl, mv_snoc]; refine ⟨k + 1, _, q ++ [joinM al dd], ⟨by omega, join_next hx hI hdd, snoc_mem hqs (joinM_size (by omega) hdm)⟩, by omega, wk zSub (by repeat (first | exact .nil | refine .cons (by first | exact .here | exact .there .here | exact .there (.there .here) | exact .there (.there (.there .here)) | exact .there (.there (.there (.there .here)))) ?_))⟩)
          · have hd2 : ¬ (1 : Int) < (dd.length : Nat) := by have := of_decide_eq_false hc; omega
            refine awp_skip ?_
            refine blockQ_n ?_
            refine seqQ_n ?_
            refine awp_region ?_
            first | refine aops_p (ap_fieldAddr (off := 0) (sz := 1) (g := false) rfl rfl) rfl rfl rfl ?_ | refine aops_p (ap_fieldAddr_el (off := 0) (sz := 1) (g := false) rfl rfl zRc) rfl rfl rfl ?_
            first | refine aops_q (aq_load1 rfl zUpd List.not_mem_nil rfl zRc) rfl rfl rfl ?_ | refine aops_q (aq_load_el1 rfl rfl zScal (fun _ h => absurd h List.not_mem_nil)) rfl rfl rfl ?_ | refine aops_q (aq_load_el1' rfl rfl zScal (fun _ h => absurd h List.not_mem_nil)) rfl rfl rfl ?_ | refine aops_q (aq_load_own1 rfl zUpd List.not_mem_nil rfl zAss zScal) rfl rfl rfl ?_
            first | refine aops_q (aq_load rfl zUpd List.not_mem_nil rfl rfl zRc) rfl rfl rfl ?_ | refine aops_q (aq_load_el rfl rfl rfl rfl (fun _ h => absurd h List.not_mem_nil)) rfl rfl rfl ?_
            refine aops_unnil [1,4,6,19,20,21,65,66] 1 rfl rfl (by repeat (first | exact SelC.nil | apply SelC.cons rfl (Cv.agg (CvL.cons Cv.same (CvL.cons Cv.same (CvL.cons Cv.fz (CvL.cons Cv.same CvL.nil))))) | apply SelC.cons rfl Cv.same)) (by repeat (first | exact .nil | apply HeapA.box (by repeat (first | exact CvL.nil | apply CvL.cons Cv.same)) | apply HeapA.arr)) ?_; refine aops_unnil [1,4,6,19,20,21,65,66] 3 rfl rfl (by repeat (first | exact .nil | apply SelC.cons rfl (by first | exact Cv.fz | (apply Cv.agg; repeat (first | exact CvL.nil | apply CvL.cons (by first | exact Cv.fz | exact Cv.same))) | exact Cv.same))) (by repeat (first | exact .nil | apply HeapA.box (by repeat (first | exact CvL.nil | apply CvL.cons Cv.same)) | apply HeapA.arr)) ?_; refine aops_lit (e := 61) (sz := 4) (by_ := 64) rfl rfl zRc rfl rfl rfl rfl ?_
            first | refine aops_append (e := 61) (sz := 4) (by_ := 64) rfl zUpd rfl rfl rfl rfl rfl (by simp only [List.length_cons, List.length_nil, List.length_append, List.length_map, avs_len]; omega) (fun v68 hv68 => ?_) | refine aops_append_nil (e := 61) (sz := 4) (by_ := 64) rfl rfl rfl rfl rfl rfl (by simp only [List.length_cons, List.length_nil, List.length_append, List.length_map, avs_len]; omega) (fun v68 hv68 => ?_)
            first | refine aops_p (ap_fieldAddr (off := 0) (sz := 1) (g := false) rfl rfl) rfl rfl rfl ?_ | refine aops_p (ap_fieldAddr_el (off := 0) (sz := 1) (g := false) rfl rfl zRc) rfl rfl rfl ?_
            first | refine aops_store rfl rfl zFlat zUpd rfl zRc ?_ | refine aops_store_own1 rfl rfl zScal zUpd rfl (by simp only [List.length_set, List.length_map]; omega) ?_
            refine aops_nil ?_
            refine blockQ_n ?_
            refine seqQ_n ?_
            refine awp_region ?_
            refine aops_p (ap_arith rfl rfl rfl (by omega)) rfl rfl rfl ?_
            refine aops_p (ap_move rfl) rfl rfl rfl ?_
            refine aops_nil ?_
            refine seqQ_n ?_
            first
            | (rw [show D.agg [.b true, .i t0.th, .sl 1 (t0.nodes.map .i), .sl 3 (avs t0.inner)] = mv (joinM al dd) from by rw [joinM_1 hd1 ht0]; rfl, mv_snoc]; refine ⟨k + 1, _, q ++ [joinM al dd], ⟨by omega, join_next hx hI hdd, snoc_mem hqs (joinM_size (by omega) hdm)⟩, by omega, wk zSub (by repeat (first | exact .nil | refine .cons (by first | exact .here | exact .there .here | exact .there (.there .here) | exact .there (.there (.there .here)) | exact .there (.there (.there (.there .here)))) ?_))⟩)
            | (rw [show D.agg [.b true, .i ((avs dd).length : Int), .sl 1 [], .sl 3 (avs dd)] = mv (joinM al dd) from by rw [show al = true from by with_reducible assumption, joinM_2 hd1 hd2, avs_len]; rfl, mv_snoc]; refine ⟨k + 1, _, q ++ [joinM al dd], ⟨by omega, join_next hx hI hdd, snoc_mem hqs (joinM_size (by omega) hdm)⟩, by omega, wk zSub (by repeat (first | exact .nil | refine .cons (by first | exact .here | exact .there .here | exact .there (.there .here) | exact .there (.there (.there .here)) | exact .there (.there (.there (.there .here)))) ?_))⟩)
            | (rw [show D.agg [.b true, .i 1, .sl 1 [], .sl 3 (avs dd)] = mv (joinM al dd) from by rw [show al = false from by with_reducible assumption, joinM_3 hd1 hd2]; rfl, mv_snoc]; refine ⟨k + 1, _, q ++ [joinM al dd], ⟨by omega, join_next hx hI hdd, snoc_mem hqs (joinM_size (by omega) hdm)⟩, by omega, wk zSub (by repeat (first | exact .nil | refine .cons (by first | exact .here | exact .there .here | exact .there (.there .here) | exact .there (.there (.there .here)) | exact .there (.there (.there (.there .here)))) ?_))⟩)
            | (rw [show D.agg [.b false, .i 0, .sl 1 [], .sl 3 []] = mv (joinM al dd) from by rw [joinM_4 hd1 hd2]; rfl, mv_snoc]; refine ⟨k + 1, _, q ++ [joinM al dd], ⟨by omega, join_next hx hI hdd, snoc_mem hqs (joinM_size (by omega) hdm)⟩, by omega, wk zSub (by repeat (first | exact .nil | refine .cons (by first | exact .here | exact .there .here | exact .there (.there .here) | exact .there (.there (.there .here)) | exact .there (.there (.there (.there .here)))) ?_))⟩)
  · have hge := of_decide_eq_false hc
    have hF : q = l.map (fun x => joinM al (diffV x)) := by rw [hI, List.take_of_length_le (by omega)]
    refine awp_exit ?_
    refine seqQ_x ?_
    refine seqQ_x ?_
    refine blockQ_x rfl ?_
    refine seqQ_n ?_
    refine awp_seq ?_
    refine awp_seq ?_
    refine awp_freeze v [4,6] (by repeat (first | exact .here | apply Rem.there)) (by repeat (first | exact .nil | apply SelC.cons rfl (by first | exact Cv.fz | (apply Cv.agg; repeat (first | exact CvL.nil | apply CvL.cons (by first | exact Cv.fz | exact Cv.same))) | exact Cv.same))) (by repeat (first | exact .nil | apply HeapA.box (by repeat (first | exact CvL.nil | apply CvL.cons (by first | exact Cv.fz | exact Cv.same))) | apply HeapA.arr)) ?_
    refine awp_region ?_
    first | refine aops_q (aq_load rfl zUpd List.not_mem_nil rfl rfl zRc) rfl rfl rfl ?_ | refine aops_q (aq_load_el rfl rfl rfl rfl (fun _ h => absurd h List.not_mem_nil)) rfl rfl rfl ?_
    refine aops_call_v zRc (r6valid_con q (fun m hm => by have := hqs m hm; omega)) rfl rfl ?_
    refine aops_p (ap_assign rfl) rfl rfl rfl ?_
    refine aops_nil ?_
    refine seqQ_n ?_
    refine awp_seq ?_
    refine awp_region ?_
    refine aops_p (ap_move rfl) rfl rfl rfl ?_
    refine aops_p (ap_cmp rfl rfl rfl) rfl rfl rfl ?_
    refine aops_nil ?_
    refine seqQ_n ?_
    refine awp_cond rfl (fun hc => ?_) (fun hc => ?_)
    · have he := of_neq_true hc
      refine awp_seq ?_
      refine awp_region ?_
      refine aops_p (ap_build zKr rfl zRc (by repeat (first | exact .nil | apply FillL.cons rfl zFlat rfl zRc))) rfl rfl rfl ?_
      refine aops_p (ap_move rfl) rfl rfl rfl ?_
      first | refine aops_store rfl rfl zFlat zUpd rfl zRc ?_ | refine aops_store_own1 rfl rfl zScal zUpd rfl (by simp only [List.length_set, List.length_map]; omega) ?_
      refine aops_p (ap_assign rfl) rfl rfl rfl ?_
      refine aops_nil ?_
      refine seqQ_n ?_
      refine awp_unnil [4,5] 4 rfl (by repeat (first | exact .nil | apply SelC.cons rfl (by first | exact Cv.fz | (apply Cv.agg; repeat (first | exact CvL.nil | apply CvL.cons (by first | exact Cv.fz | exact Cv.same))) | exact Cv.same))) (by repeat (first | exact .nil | apply HeapA.box (by repeat (first | exact CvL.nil | apply CvL.cons (by first | exact Cv.fz | exact Cv.same))) | apply HeapA.arr)) ?_
      refine awp_ret ?_
      refine seqQ_r ?_
      refine post_ret (.cell rfl zUpd rfl rfl (.tmp rfl .nil)) (by repeat (first | exact .nil | refine .cons (by first | exact .here | exact .there .here | exact .there (.there .here) | exact .there (.there (.there .here)) | exact .there (.there (.there (.there .here)))) ?_)) ⟨[], _, rfl, fun e => absurd e he, rfl⟩
    · have he := of_neq_false hc
      refine awp_skip ?_
      refine seqQ_n ?_
      refine awp_seq ?_
      refine awp_region ?_
      first | refine aops_q (aq_load rfl zUpd List.not_mem_nil rfl rfl zRc) rfl rfl rfl ?_ | refine aops_q (aq_load_el rfl rfl rfl rfl (fun _ h => absurd h List.not_mem_nil)) rfl rfl rfl ?_
      first | refine aops_store rfl rfl zFlat zUpd rfl zRc ?_ | refine aops_store_own1 rfl rfl zScal zUpd rfl (by simp only [List.length_set, List.length_map]; omega) ?_
      refine aops_p (ap_assign rfl) rfl rfl rfl ?_
      refine aops_nil ?_
      refine seqQ_n ?_
      refine awp_ret ?_
      refine post_ret (.cell rfl zUpd rfl rfl (.tmp rfl .nil)) (by repeat (first | exact .nil | refine .cons (by first | exact .here | exact .there .here | exact .there (.there .here) | exact .there (.there (.there .here)) | exact .there (.there (.there (.there .here)))) ?_)) ⟨q, _, rfl, fun _ => ⟨hF, he⟩, rfl⟩
theorem near_con (b n : Nat) (l : List Int) (x : Trust) (hn : 1 ≤ n ∧ n ≤ 10) (hx : sizeT x ≤ 100000) (a : Nat) : Con Try.prog 20 [.p b 0, av x, .i n] [.box b 57 [.sl 1 (l.map .i), .i ((a : Nat) : Int)]] (fun d H => ∃ (t : Trust) (a' : Nat), d = av t ∧ sizeT t ≤ 100000 ∧ H = [.box b 57 [.sl 1 (l.map .i), .i ((a' : Nat) : Int)]]) := by
  have hcap : capB = 140737488355328 := rfl
  have hnl : (x.nodes.map D.i).length = x.nodes.length := by simp
  have hil := avs_len x.inner
  have hsx : sizeT x = x.nodes.length + x.inner.length + sizeL x.inner := rfl
  refine con_intro Try.func20 rfl Try.call20 rfl ?_
  refine awp_seq ?_
  refine awp_region ?_
  refine aops_box rfl zFlat rfl rfl (fun b4 => ?_)
  refine aops_alloc rfl zRc rfl rfl (fun b6 => ?_)
  refine aops_nil ?_
  refine seqQ_n ?_
  refine awp_seq ?_
  refine awp_seq ?_
  refine awp_region ?_
  refine aops_p (ap_move rfl) rfl rfl rfl ?_
  (refine aops_call zRc (N_con _ _ _ _ (by omega)) zSplit rfl rfl ?_; rintro _ _ ⟨r8, a8, rfl, hr8, rfl⟩)
  refine aops_nil ?_
  refine seqQ_n ?_
  refine awp_block ?_
  refine awp_seq ?_
  refine awp_region ?_
  refine aops_p (ap_cmp rfl rfl rfl) rfl rfl rfl ?_
  refine aops_p (ap_assign rfl) rfl rfl rfl ?_
  refine aops_nil ?_
  refine seqQ_n ?_
  refine awp_cond rfl (fun hc => ?_) (fun hc => ?_)
  · refine awp_region ?_
    first | refine aops_p (ap_fieldAddr (off := 1) (sz := 1) (g := false) rfl rfl) rfl rfl rfl ?_ | refine aops_p (ap_fieldAddr_el (off := 1) (sz := 1) (g := false) rfl rfl zRc) rfl rfl rfl ?_
    first | refine aops_q (aq_load1 rfl zUpd List.not_mem_nil rfl zRc) rfl rfl rfl ?_ | refine aops_q (aq_load_el1 rfl rfl zScal (fun _ h => absurd h List.not_mem_nil)) rfl rfl rfl ?_ | refine aops_q (aq_load_el1' rfl rfl zScal (fun _ h => absurd h List.not_mem_nil)) rfl rfl rfl ?_ | refine aops_q (aq_load_own1 rfl zUpd List.not_mem_nil rfl zAss zScal) rfl rfl rfl ?_
    first | refine aops_len rfl rfl rfl rfl (fun _ => ?_) | refine aops_p (ap_len_arr rfl zUpd rfl) rfl rfl rfl ?_ | refine aops_p (ap_len_nil rfl rfl) rfl rfl rfl ?_
    first | refine aops_p (ap_fieldAddr (off := 2) (sz := 1) (g := false) rfl rfl) rfl rfl rfl ?_ | refine aops_p (ap_fieldAddr_el (off := 2) (sz := 1) (g := false) rfl rfl zRc) rfl rfl rfl ?_
    first | refine aops_q (aq_load1 rfl zUpd List.not_mem_nil rfl zRc) rfl rfl rfl ?_ | refine aops_q (aq_load_el1 rfl rfl zScal (fun _ h => absurd h List.not_mem_nil)) rfl rfl rfl ?_ | refine aops_q (aq_load_el1' rfl rfl zScal (fun _ h => absurd h List.not_mem_nil)) rfl rfl rfl ?_ | refine aops_q (aq_load_own1 rfl zUpd List.not_mem_nil rfl zAss zScal) rfl rfl rfl ?_
    first | refine aops_len rfl rfl rfl rfl (fun _ => ?_) | refine aops_p (ap_len_arr rfl zUpd rfl) rfl rfl rfl ?_ | refine aops_p (ap_len_nil rfl rfl) rfl rfl rfl ?_
    refine aops_p (ap_arith rfl rfl rfl (by omega)) rfl rfl rfl ?_
    first | refine aops_p (ap_fieldAddr (off := 0) (sz := 1) (g := false) rfl rfl) rfl rfl rfl ?_ | refine aops_p (ap_fieldAddr_el (off := 0) (sz := 1) (g := false) rfl rfl zRc) rfl rfl rfl ?_
    first | refine aops_q (aq_load1 rfl zUpd List.not_mem_nil rfl zRc) rfl rfl rfl ?_ | refine aops_q (aq_load_el1 rfl rfl zScal (fun _ h => absurd h List.not_mem_nil)) rfl rfl rfl ?_ | refine aops_q (aq_load_el1' rfl rfl zScal (fun _ h => absurd h List.not_mem_nil)) rfl rfl rfl ?_ | refine aops_q (aq_load_own1 rfl zUpd List.not_mem_nil rfl zAss zScal) rfl rfl rfl ?_
    refine aops_p (ap_arithw rfl rfl rfl) rfl rfl rfl ?_
    refine aops_p (ap_min rfl rfl) rfl rfl rfl ?_
    first | refine aops_p (ap_fieldAddr (off := 0) (sz := 1) (g := false) rfl rfl) rfl rfl rfl ?_ | refine aops_p (ap_fieldAddr_el (off := 0) (sz := 1) (g := false) rfl rfl zRc) rfl rfl rfl ?_
    first | refine aops_store rfl rfl zFlat zUpd rfl zRc ?_ | refine aops_store_own1 rfl rfl zScal zUpd rfl (by simp only [List.length_set, List.length_map]; omega) ?_
    refine aops_nil ?_
    refine blockQ_n ?_
    refine seqQ_n ?_
    refine awp_seq ?_
    refine awp_region ?_
    first | refine aops_q (aq_load rfl zUpd List.not_mem_nil rfl rfl zRc) rfl rfl rfl ?_ | refine aops_q (aq_load_el rfl rfl rfl rfl (fun _ h => absurd h List.not_mem_nil)) rfl rfl rfl ?_
    first | refine aops_store rfl rfl zFlat zUpd rfl zRc ?_ | refine aops_store_own1 rfl rfl zScal zUpd rfl (by simp only [List.length_set, List.length_map]; omega) ?_
    refine aops_nil ?_
    refine seqQ_n ?_
    refine awp_ret ?_
    first | (with_reducible have h0 := ht; exact post_ret (.cell rfl zUpd rfl rfl .nil) (by repeat (first | exact .nil | refine .cons (by first | exact .here | exact .there .here | exact .there (.there .here) | exact .there (.there (.there .here)) | exact .there (.there (.there (.there .here)))) ?_)) ⟨t, _, rfl, ht.size, rfl⟩) | exact post_ret (.cell rfl zUpd rfl rfl .nil) (by repeat (first | exact .nil | refine .cons (by first | exact .here | exact .there .here | exact .there (.there .here) | exact .there (.there (.there .here)) | exact .there (.there (.there (.there .here)))) ?_)) ⟨.mk _ x.nodes x.inner, _, rfl, by rw [sizeT_mk]; omega, rfl⟩
  · refine awp_seq ?_
    refine awp_region ?_
    refine aops_p (ap_cmp rfl rfl rfl) rfl rfl rfl ?_
    refine aops_p (ap_assign rfl) rfl rfl rfl ?_
    refine aops_nil ?_
    refine seqQ_n ?_
    refine awp_cond rfl (fun hc => ?_) (fun hc => ?_)
    · refine awp_region ?_
      first | refine aops_p (ap_fieldAddr (off := 0) (sz := 1) (g := false) rfl rfl) rfl rfl rfl ?_ | refine aops_p (ap_fieldAddr_el (off := 0) (sz := 1) (g := false) rfl rfl zRc) rfl rfl rfl ?_
      first | refine aops_q (aq_load1 rfl zUpd List.not_mem_nil rfl zRc) rfl rfl rfl ?_ | refine aops_q (aq_load_el1 rfl rfl zScal (fun _ h => absurd h List.not_mem_nil)) rfl rfl rfl ?_ | refine aops_q (aq_load_el1' rfl rfl zScal (fun _ h => absurd h List.not_mem_nil)) rfl rfl rfl ?_ | refine aops_q (aq_load_own1 rfl zUpd List.not_mem_nil rfl zAss zScal) rfl rfl rfl ?_
      refine aops_p (ap_arithw rfl rfl rfl) rfl rfl rfl ?_
      refine aops_p (ap_max rfl rfl) rfl rfl rfl ?_
      first | refine aops_p (ap_fieldAddr (off := 0) (sz := 1) (g := false) rfl rfl) rfl rfl rfl ?_ | refine aops_p (ap_fieldAddr_el (off := 0) (sz := 1) (g := false) rfl rfl zRc) rfl rfl rfl ?_
      first | refine aops_store rfl rfl zFlat zUpd rfl zRc ?_ | refine aops_store_own1 rfl rfl zScal zUpd rfl (by simp only [List.length_set, List.length_map]; omega) ?_
      refine aops_nil ?_
      refine blockQ_n ?_
      refine seqQ_n ?_
      refine awp_seq ?_
      refine awp_region ?_
      first | refine aops_q (aq_load rfl zUpd List.not_mem_nil rfl rfl zRc) rfl rfl rfl ?_ | refine aops_q (aq_load_el rfl rfl rfl rfl (fun _ h => absurd h List.not_mem_nil)) rfl rfl rfl ?_
      first | refine aops_store rfl rfl zFlat zUpd rfl zRc ?_ | refine aops_store_own1 rfl rfl zScal zUpd rfl (by simp only [List.length_set, List.length_map]; omega) ?_
      refine aops_nil ?_
      refine seqQ_n ?_
      refine awp_ret ?_
      first | (with_reducible have h0 := ht; exact post_ret (.cell rfl zUpd rfl rfl .nil) (by repeat (first | exact .nil | refine .cons (by first | exact .here | exact .there .here | exact .there (.there .here) | exact .there (.there (.there .here)) | exact .there (.there (.there (.there .here)))) ?_)) ⟨t, _, rfl, ht.size, rfl⟩) | exact post_ret (.cell rfl zUpd rfl rfl .nil) (by repeat (first | exact .nil | refine .cons (by first | exact .here | exact .there .here | exact .there (.there .here) | exact .there (.there (.there .here)) | exact .there (.there (.there (.there .here)))) ?_)) ⟨.mk _ x.nodes x.inner, _, rfl, by rw [sizeT_mk]; omega, rfl⟩
    · refine awp_seq ?_
      refine awp_region ?_
      refine aops_p (ap_move rfl) rfl rfl rfl ?_
      refine aops_p (ap_move rfl) rfl rfl rfl ?_
      (refine aops_call zRc (Trust2_con _ _ _ hn _) zSplit rfl rfl ?_; rintro _ _ ⟨t, a11, rfl, ht, rfl⟩)
      first | refine aops_store rfl rfl zFlat zUpd rfl zRc ?_ | refine aops_store_own1 rfl rfl zScal zUpd rfl (by simp only [List.length_set, List.length_map]; omega) ?_
      refine aops_nil ?_
      refine seqQ_n ?_
      refine awp_ret ?_
      refine blockQ_r ?_
      refine seqQ_r ?_
      first | (with_reducible have h0 := ht; exact post_ret (.cell rfl zUpd rfl rfl .nil) (by repeat (first | exact .nil | refine .cons (by first | exact .here | exact .there .here | exact .there (.there .here) | exact .there (.there (.there .here)) | exact .there (.there (.there (.there .here)))) ?_)) ⟨t, _, rfl, ht.size, rfl⟩) | exact post_ret (.cell rfl zUpd rfl rfl .nil) (by repeat (first | exact .nil | refine .cons (by first | exact .here | exact .there .here | exact .there (.there .here) | exact .there (.there (.there .here)) | exact .there (.there (.there (.there .here)))) ?_)) ⟨.mk _ x.nodes x.inner, _, rfl, by rw [sizeT_mk]; omega, rfl⟩
theorem low_con (l : List (List Trust)) (hl : l.length ≤ 6) (hm : ∀ x ∈ l, x.length ≤ 4 ∧ ∀ t ∈ x, sizeT t ≤ 100000) : Con Try.prog 21 [.sl 1 (l.map tsv)] [] (fun d H => ∃ (q : List Mem) (e : Int), d = .tup [cv q, .i e] ∧ (e = 0 → q = l.map (fun x => joinM false (diffV x)) ∧ validC q = 0) ∧ H = []) := by
  have hcap : capB = 140737488355328 := rfl
  refine con_intro Try.func21 rfl Try.call21 rfl ?_
  refine awp_seq ?_
  refine awp_region ?_
  refine aops_alloc rfl zRc rfl rfl (fun b2 => ?_)
  refine aops_p (ap_assign rfl) rfl rfl rfl ?_
  refine aops_nil ?_
  refine seqQ_n ?_
  refine awp_seq ?_
  refine awp_region ?_
  refine aops_p (ap_move rfl) rfl rfl rfl ?_
  (refine aops_call zRc (joined_con l false hl hm) zSplit rfl rfl ?_; rintro _ _ ⟨q, e, rfl, hq, rfl⟩)
  refine aops_p (ap_extract rfl rfl) rfl rfl rfl ?_
  refine aops_p (ap_extract rfl rfl) rfl rfl rfl ?_
  first | refine aops_store rfl rfl zFlat zUpd rfl zRc ?_ | refine aops_store_own1 rfl rfl zScal zUpd rfl (by simp only [List.length_set, List.length_map]; omega) ?_
  refine aops_p (ap_assign rfl) rfl rfl rfl ?_
  refine aops_nil ?_
  refine seqQ_n ?_
  refine awp_ret ?_
  refine post_ret (.cell rfl zUpd rfl rfl (.tmp rfl .nil)) (by repeat (first | exact .nil | refine .cons (by first | exact .here | exact .there .here | exact .there (.there .here) | exact .there (.there (.there .here)) | exact .there (.there (.there (.there .here)))) ?_)) ⟨q, e, rfl, hq, rfl⟩
theorem high_con (l : List (List Trust)) (hl : l.length ≤ 6) (hm : ∀ x ∈ l, x.length ≤ 4 ∧ ∀ t ∈ x, sizeT t ≤ 100000) : Con Try.prog 22 [.sl 1 (l.map tsv)] [] (fun d H => ∃ (q : List Mem) (e : Int), d = .tup [cv q, .i e] ∧ (e = 0 → q = l.map (fun x => joinM true (diffV x)) ∧ validC q = 0) ∧ H = []) := by
  have hcap : capB = 140737488355328 := rfl
  refine con_intro Try.func22 rfl Try.call22 rfl ?_
  refine awp_seq ?_
  refine awp_region ?_
  refine aops_alloc rfl zRc rfl rfl (fun b2 => ?_)
  refine aops_p (ap_assign rfl) rfl rfl rfl ?_
  refine aops_nil ?_
  refine seqQ_n ?_
  refine awp_seq ?_
  refine awp_region ?_
  refine aops_p (ap_move rfl) rfl rfl rfl ?_
  (refine aops_call zRc (joined_con l true hl hm) zSplit rfl rfl ?_; rintro _ _ ⟨q, e, rfl, hq, rfl⟩)
  refine aops_p (ap_extract rfl rfl) rfl rfl rfl ?_
  refine aops_p (ap_extract rfl rfl) rfl rfl rfl ?_
  first | refine aops_store rfl rfl zFlat zUpd rfl zRc ?_ | refine aops_store_own1 rfl rfl zScal zUpd rfl (by simp only [List.length_set, List.length_map]; omega) ?_
  refine aops_p (ap_assign rfl) rfl rfl rfl ?_
  refine aops_nil ?_
  refine seqQ_n ?_
  refine awp_ret ?_
  refine post_ret (.cell rfl zUpd rfl rfl (.tmp rfl .nil)) (by repeat (first | exact .nil | refine .cons (by first | exact .here | exact .there .here | exact .there (.there .here) | exact .there (.there (.there .here)) | exact .there (.there (.there (.there .here)))) ?_)) ⟨q, e, rfl, hq, rfl⟩
abbrev TSS := List (List Trust)
theorem tsv_put (q : TSS) (x : List Trust) : List.map tsv q ++ [D.sl 3 (avs x)] = List.map tsv (q ++ [x]) := by rw [List.map_append]; rfl
theorem tsv_put0 (q : TSS) : List.map tsv q ++ [D.sl 3 []] = List.map tsv (q ++ [[]]) := by rw [List.map_append]; rfl
end Go.Proofs.Ytegejdhkckndaaa
