/- The walks of: fanswers_con. Each says what one function of the program answers, for the arguments that its statement names. No condition beyond what each theorem says. -/
import Derived.Test.YtanlbfnlnfkcjaaFederatedAnswersW8
import Derived.Test.YtanlbfnlnfkcjaaProg
import Derived.KernelRfl
import Derived.Tactics
import Derived.Tactics2
import Derived.StillTactics
set_option linter.unusedVariables false
set_option linter.unusedSimpArgs false
set_option linter.unnecessarySimpa false
set_option maxRecDepth 4000
namespace Go.Proofs.Ytanlbfnlnfkcjaa
open Go Go.Av Go.Tq
set_option maxHeartbeats 6000000 in
theorem fanswers_con (l : List Int) (raw : List Mem) (v a0 b0 : Int) (lm : List Msg) (x0 : Cl) (tt : Trust) : Con Try.prog 6 [.sl 1 (l.map .i), cv raw, .i v, .i a0, .i b0, .sl 7 (lm.map msv), clv x0, av tt] [] (Is (.b true) []) := by
  have hcap : capB = 140737488355328 := rfl
  refine con_intro Try.func6 rfl Try.call6 rfl ?_
  refine awp_seq ?_
  refine awp_region ?_
  refine aops_box rfl zFlat rfl rfl (fun b9 => ?_)
  refine aops_box rfl zFlat rfl rfl (fun b14 => ?_)
  refine aops_box rfl zFlat rfl rfl (fun b15 => ?_)
  refine aops_p (ap_assign rfl) rfl rfl rfl ?_
  refine aops_nil ?_
  refine seqQ_n ?_
  refine awp_seq ?_
  refine awp_seq ?_
  refine awp_region ?_
  first | refine aops_q (aq_load rfl zUpd List.not_mem_nil rfl rfl zRc) rfl rfl rfl ?_ | refine aops_q (aq_load_el rfl rfl rfl rfl (fun _ h => absurd h List.not_mem_nil)) rfl rfl rfl ?_
  (refine aops_call zRc (smallC_con raw) zSplit rfl rfl ?_; rintro _ _ ⟨c36, rfl, hs36, rfl⟩)
  refine aops_p (ap_not rfl) rfl rfl rfl ?_
  refine aops_p (ap_move rfl) rfl rfl rfl ?_
  all_goals (first | (refine aops_yes rfl rfl rfl rfl zDec ?_; (refine aops_p (ap_move rfl) rfl rfl rfl ?_)) | refine aops_no_u rfl rfl rfl ?_ | refine aops_no_f rfl rfl rfl rfl zDec ?_ | (refine aops_guard_f rfl rfl rfl rfl (fun hg => ?_) (fun hg => ?_); case' _ => (refine aops_p (ap_move rfl) rfl rfl rfl ?_)))
  all_goals (first | (refine aops_yes rfl rfl rfl rfl zDec ?_; ((refine aops_call zRc (smallMs_con lm) zSplit rfl rfl ?_; rintro _ _ ⟨c40, rfl, hs40, rfl⟩))) | refine aops_no_u rfl rfl rfl ?_ | refine aops_no_f rfl rfl rfl rfl zDec ?_ | (refine aops_guard_f rfl rfl rfl rfl (fun hg => ?_) (fun hg => ?_); case' _ => ((refine aops_call zRc (smallMs_con lm) zSplit rfl rfl ?_; rintro _ _ ⟨c40, rfl, hs40, rfl⟩))))
  all_goals (first | (refine aops_yes rfl rfl rfl rfl zDec ?_; (refine aops_p (ap_not rfl) rfl rfl rfl ?_)) | refine aops_no_u rfl rfl rfl ?_ | refine aops_no_f rfl rfl rfl rfl zDec ?_ | (refine aops_guard_f rfl rfl rfl rfl (fun hg => ?_) (fun hg => ?_); case' _ => (refine aops_p (ap_not rfl) rfl rfl rfl ?_)))
  all_goals (first | refine aops_p (ap_pick_true rfl zDec rfl) rfl rfl rfl ?_ | refine aops_p (ap_pick_false rfl zDec rfl) rfl rfl rfl ?_)
  all_goals (refine aops_p (ap_move rfl) rfl rfl rfl ?_)
  all_goals (first | (refine aops_yes rfl rfl rfl rfl zDec ?_; (first | refine aops_q (aq_load rfl zUpd List.not_mem_nil rfl rfl zRc) rfl rfl rfl ?_ | refine aops_q (aq_load_el rfl rfl rfl rfl (fun _ h => absurd h List.not_mem_nil)) rfl rfl rfl ?_)) | refine aops_no_u rfl rfl rfl ?_ | refine aops_no_f rfl rfl rfl rfl zDec ?_ | (refine aops_guard_f rfl rfl rfl rfl (fun hg => ?_) (fun hg => ?_); case' _ => (first | refine aops_q (aq_load rfl zUpd List.not_mem_nil rfl rfl zRc) rfl rfl rfl ?_ | refine aops_q (aq_load_el rfl rfl rfl rfl (fun _ h => absurd h List.not_mem_nil)) rfl rfl rfl ?_)))
  all_goals (first | (refine aops_yes rfl rfl rfl rfl zDec ?_; ((refine aops_call zRc (small_con tt) zSplit rfl rfl ?_; rintro _ _ ⟨c45, rfl, hs45, rfl⟩))) | refine aops_no_u rfl rfl rfl ?_ | refine aops_no_f rfl rfl rfl rfl zDec ?_ | (refine aops_guard_f rfl rfl rfl rfl (fun hg => ?_) (fun hg => ?_); case' _ => ((refine aops_call zRc (small_con tt) zSplit rfl rfl ?_; rintro _ _ ⟨c45, rfl, hs45, rfl⟩))))
  all_goals (first | (refine aops_yes rfl rfl rfl rfl zDec ?_; (refine aops_p (ap_not rfl) rfl rfl rfl ?_)) | refine aops_no_u rfl rfl rfl ?_ | refine aops_no_f rfl rfl rfl rfl zDec ?_ | (refine aops_guard_f rfl rfl rfl rfl (fun hg => ?_) (fun hg => ?_); case' _ => (refine aops_p (ap_not rfl) rfl rfl rfl ?_)))
  all_goals (first | refine aops_p (ap_pick_true rfl zDec rfl) rfl rfl rfl ?_ | refine aops_p (ap_pick_false rfl zDec rfl) rfl rfl rfl ?_)
  all_goals (
    refine aops_nil ?_
    refine seqQ_n ?_
    refine awp_cond rfl (fun hc => ?_) (fun hc => ?_)
    · first
      | (exact absurd hc (by decide))
      | (refine awp_seq ?_
         refine awp_region ?_
         refine aops_call_v zRc (awake18_con) rfl rfl ?_
         refine aops_p (ap_assign rfl) rfl rfl rfl ?_
         refine aops_nil ?_
         refine seqQ_n ?_
         refine awp_ret ?_
         refine seqQ_r ?_
         first | (refine post_is (.tmp rfl .nil) (by repeat (first | exact .nil | refine .cons (by first | exact .here | exact .there .here | exact .there (.there .here) | exact .there (.there (.there .here)) | exact .there (.there (.there (.there .here)))) ?_)) rfl) | (exfalso; simp at hc; done) | (exfalso; simp at hg; done)
        )
    · first
      | (exact absurd hc (by decide))
      | (have hlm := hs40 (not_f (c := c40) (by with_reducible assumption))
         have htt := hs45 (not_f (c := c45) (by with_reducible assumption))
         obtain ⟨hlml2, hlmz⟩ := hlm
         refine awp_skip ?_
         refine seqQ_n ?_
         refine awp_seq ?_
         refine awp_region ?_
         refine aops_p (ap_move rfl) rfl rfl rfl ?_
         (refine aops_call zRc (New_con l) zSplit rfl rfl ?_; rintro _ _ ⟨b50, rfl, rfl⟩)
         refine aops_p (ap_assign rfl) rfl rfl rfl ?_
         refine aops_nil ?_
         refine seqQ_n ?_
         refine awp_seq ?_
         refine awp_region ?_
         refine aops_p (ap_move rfl) rfl rfl rfl ?_
         (refine aops_call zRc (Config10_con _ _ _) zSplit rfl rfl ?_; rintro _ _ ⟨c, a52, rfl, ⟨hc0, hcl⟩, rfl⟩)
         refine aops_alloc rfl zRc rfl rfl (fun b18 => ?_)
         first | refine aops_store rfl rfl zFlat zUpd rfl zRc ?_ | refine aops_store_own1 rfl rfl zScal zUpd rfl (by simp only [List.length_set, List.length_map]; omega) ?_
         refine aops_nil ?_
         refine seqQ_n ?_
         refine awp_seq ?_
         refine awp_seq ?_
         refine awp_draw (Hm := [.box b50 _ _]) zKr zSplit ?_
         first | refine aany_take 0 rfl (.none rfl) zKr zKr zKr (ar_load rfl zUpd rfl rfl zRc) rfl rfl ?_ | refine aany_take 0 rfl (.none rfl) zKr zKr zKr (AQ.ar (aq_load_el rfl rfl rfl rfl (fun _ h => h))) rfl rfl ?_
         refine aany_take 1 rfl (.none rfl) zKr zKr zKr (AP.ar (ap_move rfl)) rfl rfl ?_
         first | refine aany_take 2 rfl (.none rfl) zKr zKr zKr (ar_load rfl zUpd rfl rfl zRc) rfl rfl ?_ | refine aany_take 2 rfl (.none rfl) zKr zKr zKr (AQ.ar (aq_load_el rfl rfl rfl rfl (fun _ h => h))) rfl rfl ?_
         first | refine aany_take 4 rfl (.none rfl) zKr zKr zKr (ar_load rfl zUpd rfl rfl zRc) rfl rfl ?_ | refine aany_take 4 rfl (.none rfl) zKr zKr zKr (AQ.ar (aq_load_el rfl rfl rfl rfl (fun _ h => h))) rfl rfl ?_
         refine aany_take 7 rfl (.none rfl) zKr zKr zKr (AP.ar (ap_move rfl)) rfl rfl ?_
         refine aany_one 3 zKr rfl (.none rfl) ?_
         (refine aops_call zRc (bentC_con _ _ c hc0.len 100000 ⟨by omega, okc_size hc0⟩ _) zSplit rfl rfl ?_; rintro _ _ ⟨c2, a56, rfl, hc2, rfl⟩)
         refine aops_nil ?_
         refine aany_one 5 zKr rfl (.none rfl) ?_
         refine aops_lit (e := 38) (sz := 1) (by_ := 24) rfl rfl zRc rfl rfl rfl rfl ?_
         refine aops_nil ?_
         first | refine aany_take 6 rfl (.none rfl) zKr zKr zKr (AP.ar (ap_len rfl rfl)) rfl rfl ?_ | refine aany_take 6 rfl (.none rfl) zKr zKr zKr (ar_len_arr rfl zUpd rfl) rfl rfl ?_ | refine aany_take 6 rfl (.none rfl) zKr zKr zKr (AP.ar (ap_len_nil rfl rfl)) rfl rfl ?_
         refine aany_nil zKr ?_
         all_goals (
           refine seqQ_n ?_
           refine awp_block ?_
           obtain ⟨ys, hys⟩ : ∃ ys, ys = [c, c2, raw] := ⟨_, rfl⟩
           have hyl : (ys.map cv).length = 3 := by rw [hys]; rfl
           have hyl2 : ys.length = 3 := by rw [hys]; rfl
           rw [show [D.agg [.sl 4 (c.map mv)], cv c2, D.agg [.sl 4 (raw.map mv)]] = ys.map cv from by rw [hys]; rfl]
           refine awp_loop2 [2, 3, 4, 5, 14, 15, 17, 58, 59] [.box b14 _ _, .box b15 _ _] (fun (k : Nat) (a : Nat) r => (60, .i (k : Int)) :: r) (fun (k : Nat) (a : Nat) r => .box b50 104 [.sl 1 ((l.take 400).map .i), .i ((a : Nat) : Int)] :: r) (fun (k : Nat) (a : Nat) => k ≤ 3) (fun (k : Nat) (a : Nat) => 3 - k) (0) (a56) zRc (by omega) (wk zSub (by repeat (first | exact .nil | refine .cons (by first | exact .here | exact .there .here | exact .there (.there .here) | exact .there (.there (.there .here)) | exact .there (.there (.there (.there .here)))) ?_))) ?_
           intro k a hk
           refine awp_seq ?_
           refine awp_region ?_
           refine aops_p (ap_cmp rfl rfl rfl) rfl rfl rfl ?_
           refine aops_nil ?_
           refine seqQ_n ?_
           refine awp_seq ?_
           refine awp_cond rfl (fun hc => ?_) (fun hc => ?_)
           · have hlt := of_decide_eq_true hc
             obtain ⟨y, hy, _⟩ := drop_cons (l := ys) (k := k) (by omega)
             have hy' := getMap cv hy
             refine awp_skip ?_
             refine seqQ_n ?_
             refine awp_seq ?_
             refine awp_block ?_
             refine awp_seq ?_
             refine awp_region ?_
             first | refine aops_p (ap_index rfl rfl rfl rfl (by decide) rfl zAss) rfl rfl rfl ?_ | refine aops_p (ap_index rfl rfl rfl rfl (by decide) (by omega) zAss) rfl rfl rfl ?_ | refine aops_p (ap_index_own rfl rfl rfl rfl rfl (by first | omega | (simp only [List.length_map, List.length_set, avs_len]; omega))) rfl rfl rfl ?_
             first | refine aops_q (aq_load rfl zUpd List.not_mem_nil rfl rfl zRc) rfl rfl rfl ?_ | refine aops_q (aq_load_el rfl rfl rfl rfl (fun _ h => absurd h List.not_mem_nil)) rfl rfl rfl ?_
             refine aops_alloc rfl zRc rfl rfl (fun b20 => ?_)
             first | refine aops_store rfl rfl zFlat zUpd rfl zRc ?_ | refine aops_store_own1 rfl rfl zScal zUpd rfl (by simp only [List.length_set, List.length_map]; omega) ?_
             refine aops_nil ?_
             refine seqQ_n ?_
             refine awp_seq ?_
             refine awp_region ?_
             refine aops_p (ap_move rfl) rfl rfl rfl ?_
             refine aops_p (ap_move rfl) rfl rfl rfl ?_
             (refine aops_call zRc (N_con _ _ _ _ (by omega)) zSplit rfl rfl ?_; rintro _ _ ⟨r66, a66, rfl, hr66, rfl⟩; obtain ⟨x66, rfl⟩ := Int.eq_ofNat_of_zero_le hr66.1)
             refine aops_lit (e := 3) (sz := 1) (by_ := 8) rfl rfl zRc rfl rfl rfl rfl ?_
             first | refine aops_len rfl rfl rfl rfl (fun _ => ?_) | refine aops_p (ap_len_arr rfl zUpd rfl) rfl rfl rfl ?_ | refine aops_p (ap_len_nil rfl rfl) rfl rfl rfl ?_
             refine aops_p (ap_move rfl) rfl rfl rfl ?_
             refine aops_nil ?_
             refine seqQ_n ?_
             refine awp_block ?_
             obtain ⟨zs, hzs⟩ : ∃ zs : List Int, zs = [v, x66] := ⟨_, rfl⟩
             have hzl : (zs.map D.i).length = 2 := by rw [hzs]; rfl
             have hzl2 : zs.length = 2 := by rw [hzs]; rfl
             rw [show [D.i v, .i x66] = zs.map D.i from by rw [hzs]; rfl]
             refine awp_loop2 [2, 3, 4, 5, 14, 15, 17, 20, 58, 59, 60, 67, 68] [.box b14 _ _, .box b15 _ _, .box b20 _ _] (fun (j : Nat) (a : Nat) r => (69, .i (j : Int)) :: r) (fun (j : Nat) (a : Nat) r => .box b50 104 [.sl 1 ((l.take 400).map .i), .i ((a : Nat) : Int)] :: r) (fun (j : Nat) (a : Nat) => j ≤ 2) (fun (j : Nat) (a : Nat) => 2 - j) (0) (a66) zRc (by omega) (wk zSub (by repeat (first | exact .nil | refine .cons (by first | exact .here | exact .there .here | exact .there (.there .here) | exact .there (.there (.there .here)) | exact .there (.there (.there (.there .here)))) ?_))) ?_
             intro j a hj
             refine awp_seq ?_
             refine awp_region ?_
             refine aops_p (ap_cmp rfl rfl rfl) rfl rfl rfl ?_
             refine aops_nil ?_
             refine seqQ_n ?_
             refine awp_seq ?_
             refine awp_cond rfl (fun hc => ?_) (fun hc => ?_)
             · have hlt := of_decide_eq_true hc
               obtain ⟨z, hz, _⟩ := drop_cons (l := zs) (k := j) (by omega)
               have hz' := getMap D.i hz
               refine awp_skip ?_
               refine seqQ_n ?_
               refine awp_seq ?_
               refine awp_block ?_
               refine awp_seq ?_
               refine awp_region ?_
               first | refine aops_p (ap_index rfl rfl rfl rfl (by decide) rfl zAss) rfl rfl rfl ?_ | refine aops_p (ap_index rfl rfl rfl rfl (by decide) (by omega) zAss) rfl rfl rfl ?_ | refine aops_p (ap_index_own rfl rfl rfl rfl rfl (by first | omega | (simp only [List.length_map, List.length_set, avs_len]; omega))) rfl rfl rfl ?_
               first | refine aops_q (aq_load1 rfl zUpd List.not_mem_nil rfl zRc) rfl rfl rfl ?_ | refine aops_q (aq_load_el1 rfl rfl zScal (fun _ h => absurd h List.not_mem_nil)) rfl rfl rfl ?_ | refine aops_q (aq_load_el1' rfl rfl zScal (fun _ h => absurd h List.not_mem_nil)) rfl rfl rfl ?_ | refine aops_q (aq_load_own1 rfl zUpd List.not_mem_nil rfl zAss zScal) rfl rfl rfl ?_
               refine aops_p (ap_assign rfl) rfl rfl rfl ?_
               refine aops_nil ?_
               refine seqQ_n ?_
               refine awp_seq ?_
               refine awp_region ?_
               refine aops_p (ap_move rfl) rfl rfl rfl ?_
               refine aops_p (ap_move rfl) rfl rfl rfl ?_
               refine aops_p (ap_buildA rfl rfl rfl zRc (by repeat (first | exact .nil | apply FillL.cons rfl zFlat rfl zRc))) rfl rfl rfl ?_
               refine aops_p (ap_move rfl) rfl rfl rfl ?_
               (refine aops_call zRc (N_con _ _ _ _ (by omega)) zSplit rfl rfl ?_; rintro _ _ ⟨r77, a77, rfl, hr77, rfl⟩; obtain ⟨x77, rfl⟩ := Int.eq_ofNat_of_zero_le hr77.1)
               refine aops_p (ap_move rfl) rfl rfl rfl ?_
               (refine aops_call zRc (N_con _ _ _ _ (by omega)) zSplit rfl rfl ?_; rintro _ _ ⟨r79, a79, rfl, hr79, rfl⟩; obtain ⟨x79, rfl⟩ := Int.eq_ofNat_of_zero_le hr79.1)
               refine aops_p (ap_buildA rfl rfl rfl zRc (by repeat (first | exact .nil | apply FillL.cons rfl zFlat rfl zRc))) rfl rfl rfl ?_
               refine aops_p (ap_move rfl) rfl rfl rfl ?_
               (refine aops_call zRc (N_con _ _ _ _ (by omega)) zSplit rfl rfl ?_; rintro _ _ ⟨r82, a82, rfl, hr82, rfl⟩; obtain ⟨x82, rfl⟩ := Int.eq_ofNat_of_zero_le hr82.1)
               refine aops_p (ap_buildA rfl rfl rfl zRc (by repeat (first | exact .nil | apply FillL.cons rfl zFlat rfl zRc))) rfl rfl rfl ?_
               refine aops_p (ap_move rfl) rfl rfl rfl ?_
               (refine aops_call zRc (N_con _ _ _ _ (by omega)) zSplit rfl rfl ?_; rintro _ _ ⟨r85, a85, rfl, hr85, rfl⟩; obtain ⟨x85, rfl⟩ := Int.eq_ofNat_of_zero_le hr85.1)
               refine aops_p (ap_buildA rfl rfl rfl zRc (by repeat (first | exact .nil | apply FillL.cons rfl zFlat rfl zRc))) rfl rfl rfl ?_
               refine aops_p (ap_move rfl) rfl rfl rfl ?_
               refine aops_p (ap_move rfl) rfl rfl rfl ?_
               (refine aops_call zRc (N_con _ _ _ _ (by omega)) zSplit rfl rfl ?_; rintro _ _ ⟨r89, a89, rfl, hr89, rfl⟩; obtain ⟨x89, rfl⟩ := Int.eq_ofNat_of_zero_le hr89.1)
               refine aops_p (ap_buildA rfl rfl rfl zRc (by repeat (first | exact .nil | apply FillL.cons rfl zFlat rfl zRc))) rfl rfl rfl ?_
               refine aops_lit (e := 72) (sz := 2) (by_ := 16) rfl rfl zRc rfl rfl rfl rfl ?_
               first | refine aops_len rfl rfl rfl rfl (fun _ => ?_) | refine aops_p (ap_len_arr rfl zUpd rfl) rfl rfl rfl ?_ | refine aops_p (ap_len_nil rfl rfl) rfl rfl rfl ?_
               refine aops_p (ap_move rfl) rfl rfl rfl ?_
               refine aops_nil ?_
               refine seqQ_n ?_
               refine awp_block ?_
               obtain ⟨ps, hps⟩ : ∃ ps : List (Int × Int), ps = [(a0, b0), ((x77 : Int), (x79 : Int)), ((x82 : Int), 0), (0, (x85 : Int)), (a0, (x89 : Int))] := ⟨_, rfl⟩
               have hpl : (ps.map pf).length = 5 := by rw [hps]; rfl
               have hpl2 : ps.length = 5 := by rw [hps]; rfl
               rw [show [D.agg [.i a0, .i b0], D.agg [.i x77, .i x79], D.agg [.i x82, .i 0], D.agg [.i 0, .i x85], D.agg [.i a0, .i x89]] = ps.map pf from by rw [hps]; rfl]
               refine awp_loop1 [2, 3, 4, 5, 14, 15, 17, 20, 22, 58, 59, 60, 67, 68, 69, 91, 92] [.box b14 _ _, .box b15 _ _, .box b20 _ _, .box b50 _ _] (fun (i : Nat) r => (93, .i (i : Int)) :: r) (fun (i : Nat) r => r) (fun (i : Nat) => i ≤ 5) (fun (i : Nat) => 5 - i) (0) zRc (by omega) (wk zSub (by repeat (first | exact .nil | refine .cons (by first | exact .here | exact .there .here | exact .there (.there .here) | exact .there (.there (.there .here)) | exact .there (.there (.there (.there .here)))) ?_))) ?_
               intro i hi
               refine awp_seq ?_
               refine awp_region ?_
               refine aops_p (ap_cmp rfl rfl rfl) rfl rfl rfl ?_
               refine aops_nil ?_
               refine seqQ_n ?_
               refine awp_seq ?_
               refine awp_cond rfl (fun hc => ?_) (fun hc => ?_)
               · have hlt := of_decide_eq_true hc
                 obtain ⟨p, hp, _⟩ := drop_cons (l := ps) (k := i) (by omega)
                 have hp' := getMap pf hp
                 refine awp_skip ?_
                 refine seqQ_n ?_
                 refine awp_seq ?_
                 refine awp_block ?_
                 refine awp_seq ?_
                 refine awp_region ?_
                 first | refine aops_p (ap_index rfl rfl rfl rfl (by decide) rfl zAss) rfl rfl rfl ?_ | refine aops_p (ap_index rfl rfl rfl rfl (by decide) (by omega) zAss) rfl rfl rfl ?_ | refine aops_p (ap_index_own rfl rfl rfl rfl rfl (by first | omega | (simp only [List.length_map, List.length_set, avs_len]; omega))) rfl rfl rfl ?_
                 first | refine aops_q (aq_load rfl zUpd List.not_mem_nil rfl rfl zRc) rfl rfl rfl ?_ | refine aops_q (aq_load_el rfl rfl rfl rfl (fun _ h => absurd h List.not_mem_nil)) rfl rfl rfl ?_
                 refine aops_alloc rfl zRc rfl rfl (fun b24 => ?_)
                 first | refine aops_store rfl rfl zFlat zUpd rfl zRc ?_ | refine aops_store_own1 rfl rfl zScal zUpd rfl (by simp only [List.length_set, List.length_map]; omega) ?_
                 refine aops_nil ?_
                 refine seqQ_n ?_
                 refine awp_seq ?_
                 refine awp_draw (Hm := []) zKr zSplit ?_
                 first | refine aany_take 0 rfl (.none rfl) zKr zKr zKr (ar_load rfl zUpd rfl rfl zRc) rfl rfl ?_ | refine aany_take 0 rfl (.none rfl) zKr zKr zKr (AQ.ar (aq_load_el rfl rfl rfl rfl (fun _ h => h))) rfl rfl ?_
                 refine aany_take 1 rfl (.none rfl) zKr zKr zKr (AP.ar (ap_move rfl)) rfl rfl ?_
                 refine aany_take 2 rfl (.none rfl) zKr zKr zKr (AP.ar (ap_index_arr (k := 0) rfl rfl rfl rfl rfl rfl)) rfl rfl ?_
                 first | refine aany_take 3 rfl (.none rfl) zKr zKr zKr (ar_load1 rfl zUpd rfl zRc) rfl rfl ?_ | refine aany_take 3 rfl (.none rfl) zKr zKr zKr (AQ.ar (aq_load_el1 rfl rfl zScal (fun _ h => h))) rfl rfl ?_ | refine aany_take 3 rfl (.none rfl) zKr zKr zKr (AQ.ar (aq_load_el1' rfl rfl zScal (fun _ h => h))) rfl rfl ?_ | refine aany_take 3 rfl (.none rfl) zKr zKr zKr (ar_load_own1 rfl zUpd rfl zAss zScal) rfl rfl ?_
                 refine aany_take 4 rfl (.none rfl) zKr zKr zKr (AP.ar (ap_index_arr (k := 1) rfl rfl rfl rfl rfl rfl)) rfl rfl ?_
                 first | refine aany_take 5 rfl (.none rfl) zKr zKr zKr (ar_load1 rfl zUpd rfl zRc) rfl rfl ?_ | refine aany_take 5 rfl (.none rfl) zKr zKr zKr (AQ.ar (aq_load_el1 rfl rfl zScal (fun _ h => h))) rfl rfl ?_ | refine aany_take 5 rfl (.none rfl) zKr zKr zKr (AQ.ar (aq_load_el1' rfl rfl zScal (fun _ h => h))) rfl rfl ?_ | refine aany_take 5 rfl (.none rfl) zKr zKr zKr (ar_load_own1 rfl zUpd rfl zAss zScal) rfl rfl ?_
                 first | refine aany_take 7 rfl (.none rfl) zKr zKr zKr (ar_load rfl zUpd rfl rfl zRc) rfl rfl ?_ | refine aany_take 7 rfl (.none rfl) zKr zKr zKr (AQ.ar (aq_load_el rfl rfl rfl rfl (fun _ h => h))) rfl rfl ?_
                 refine aany_take 8 rfl (.none rfl) zKr zKr zKr (AP.ar (ap_move rfl)) rfl rfl ?_
                 refine aany_take 9 rfl (.none rfl) zKr zKr zKr (AP.ar (ap_index_arr (k := 0) rfl rfl rfl rfl rfl rfl)) rfl rfl ?_
                 first | refine aany_take 10 rfl (.none rfl) zKr zKr zKr (ar_load1 rfl zUpd rfl zRc) rfl rfl ?_ | refine aany_take 10 rfl (.none rfl) zKr zKr zKr (AQ.ar (aq_load_el1 rfl rfl zScal (fun _ h => h))) rfl rfl ?_ | refine aany_take 10 rfl (.none rfl) zKr zKr zKr (AQ.ar (aq_load_el1' rfl rfl zScal (fun _ h => h))) rfl rfl ?_ | refine aany_take 10 rfl (.none rfl) zKr zKr zKr (ar_load_own1 rfl zUpd rfl zAss zScal) rfl rfl ?_
                 refine aany_take 11 rfl (.none rfl) zKr zKr zKr (AP.ar (ap_index_arr (k := 1) rfl rfl rfl rfl rfl rfl)) rfl rfl ?_
                 first | refine aany_take 12 rfl (.none rfl) zKr zKr zKr (ar_load1 rfl zUpd rfl zRc) rfl rfl ?_ | refine aany_take 12 rfl (.none rfl) zKr zKr zKr (AQ.ar (aq_load_el1 rfl rfl zScal (fun _ h => h))) rfl rfl ?_ | refine aany_take 12 rfl (.none rfl) zKr zKr zKr (AQ.ar (aq_load_el1' rfl rfl zScal (fun _ h => h))) rfl rfl ?_ | refine aany_take 12 rfl (.none rfl) zKr zKr zKr (ar_load_own1 rfl zUpd rfl zAss zScal) rfl rfl ?_
                 refine aany_one 6 zKr rfl (.none rfl) ?_
                 refine aops_call_b zRc (accepts_con y z p.1 p.2) rfl rfl (fun c103 hc103 => ?_)
                 refine aops_nil ?_
                 refine aany_one 13 zKr rfl (.none rfl) ?_
                 refine aops_call_v zRc (raccepts_is hc103) rfl rfl ?_
                 refine aops_nil ?_
                 refine aany_take 14 rfl (.none rfl) zKr zKr zKr (AP.ar (ap_neb rfl rfl rfl)) rfl rfl ?_
                 refine aany_take 15 rfl (.none rfl) zKr zKr zKr (AP.ar (ap_move rfl)) rfl rfl ?_
                 refine aany_guard 15 rfl (fun hg => ?_) (fun hg => ?_)
                 rotate_left
                 case' _ =>
                   first
                   | (exact absurd hg (by decide))
                   | (exfalso; simp at hg; done)
                   | (first | refine aany_take 16 rfl (.yes rfl rfl zDec) zKr zKr zKr (ar_load rfl zUpd rfl rfl zRc) rfl rfl ?_ | refine aany_take 16 rfl (.yes rfl rfl zDec) zKr zKr zKr (AQ.ar (aq_load_el rfl rfl rfl rfl (fun _ h => h))) rfl rfl ?_
                      refine aany_take 17 rfl (.yes rfl rfl zDec) zKr zKr zKr (AP.ar (ap_move rfl)) rfl rfl ?_
                      refine aany_take 18 rfl (.yes rfl rfl zDec) zKr zKr zKr (AP.ar (ap_index_arr (k := 0) rfl rfl rfl rfl rfl rfl)) rfl rfl ?_
                      first | refine aany_take 19 rfl (.yes rfl rfl zDec) zKr zKr zKr (ar_load1 rfl zUpd rfl zRc) rfl rfl ?_ | refine aany_take 19 rfl (.yes rfl rfl zDec) zKr zKr zKr (AQ.ar (aq_load_el1 rfl rfl zScal (fun _ h => h))) rfl rfl ?_ | refine aany_take 19 rfl (.yes rfl rfl zDec) zKr zKr zKr (AQ.ar (aq_load_el1' rfl rfl zScal (fun _ h => h))) rfl rfl ?_ | refine aany_take 19 rfl (.yes rfl rfl zDec) zKr zKr zKr (ar_load_own1 rfl zUpd rfl zAss zScal) rfl rfl ?_
                      first | refine aany_take 21 rfl (.yes rfl rfl zDec) zKr zKr zKr (ar_load rfl zUpd rfl rfl zRc) rfl rfl ?_ | refine aany_take 21 rfl (.yes rfl rfl zDec) zKr zKr zKr (AQ.ar (aq_load_el rfl rfl rfl rfl (fun _ h => h))) rfl rfl ?_
                      refine aany_take 22 rfl (.yes rfl rfl zDec) zKr zKr zKr (AP.ar (ap_move rfl)) rfl rfl ?_
                      refine aany_take 23 rfl (.yes rfl rfl zDec) zKr zKr zKr (AP.ar (ap_index_arr (k := 0) rfl rfl rfl rfl rfl rfl)) rfl rfl ?_
                      first | refine aany_take 24 rfl (.yes rfl rfl zDec) zKr zKr zKr (ar_load1 rfl zUpd rfl zRc) rfl rfl ?_ | refine aany_take 24 rfl (.yes rfl rfl zDec) zKr zKr zKr (AQ.ar (aq_load_el1 rfl rfl zScal (fun _ h => h))) rfl rfl ?_ | refine aany_take 24 rfl (.yes rfl rfl zDec) zKr zKr zKr (AQ.ar (aq_load_el1' rfl rfl zScal (fun _ h => h))) rfl rfl ?_ | refine aany_take 24 rfl (.yes rfl rfl zDec) zKr zKr zKr (ar_load_own1 rfl zUpd rfl zAss zScal) rfl rfl ?_
                      refine aany_one 20 zKr rfl (.yes rfl rfl zDec) ?_
                      refine aops_call_b zRc (confirms_con y z p.1) rfl rfl (fun c117 hc117 => ?_)
                      refine aops_nil ?_
                      refine aany_one 25 zKr rfl (.yes rfl rfl zDec) ?_
                      refine aops_call_v zRc (rconfirms_is hc117) rfl rfl ?_
                      refine aops_nil ?_
                      refine aany_take 26 rfl (.yes rfl rfl zDec) zKr zKr zKr (AP.ar (ap_neb rfl rfl rfl)) rfl rfl ?_
                      first | refine aany_take 27 rfl (.none rfl) zKr zKr zKr (AP.ar (ap_pick_true rfl zDec rfl)) rfl rfl ?_ | refine aany_take 27 rfl (.none rfl) zKr zKr zKr (AP.ar (ap_pick_false rfl zDec rfl)) rfl rfl ?_
                      refine aany_nil zKr ?_
                     )
                 rotate_right
                 case' _ =>
                   first
                   | (exact absurd hg (by decide))
                   | (exfalso; simp at hg; done)
                   | (refine aany_skip 16 rfl (.no rfl rfl (by first | (show _ = true; with_reducible assumption) | exact zDec)) zKr zKr zKr rfl rfl ?_
                      refine aany_skip 17 rfl (.no rfl rfl (by first | (show _ = true; with_reducible assumption) | exact zDec)) zKr zKr zKr rfl rfl ?_
                      refine aany_skip 18 rfl (.no rfl rfl (by first | (show _ = true; with_reducible assumption) | exact zDec)) zKr zKr zKr rfl rfl ?_
                      refine aany_skip 19 rfl (.no rfl rfl (by first | (show _ = true; with_reducible assumption) | exact zDec)) zKr zKr zKr rfl rfl ?_
                      refine aany_skip 20 rfl (.no rfl rfl (by first | (show _ = true; with_reducible assumption) | exact zDec)) zKr zKr zKr rfl rfl ?_
                      refine aany_skip 21 rfl (.no rfl rfl (by first | (show _ = true; with_reducible assumption) | exact zDec)) zKr zKr zKr rfl rfl ?_
                      refine aany_skip 22 rfl (.no rfl rfl (by first | (show _ = true; with_reducible assumption) | exact zDec)) zKr zKr zKr rfl rfl ?_
                      refine aany_skip 23 rfl (.no rfl rfl (by first | (show _ = true; with_reducible assumption) | exact zDec)) zKr zKr zKr rfl rfl ?_
                      refine aany_skip 24 rfl (.no rfl rfl (by first | (show _ = true; with_reducible assumption) | exact zDec)) zKr zKr zKr rfl rfl ?_
                      refine aany_skip 25 rfl (.no rfl rfl (by first | (show _ = true; with_reducible assumption) | exact zDec)) zKr zKr zKr rfl rfl ?_
                      refine aany_skip 26 rfl (.no rfl rfl (by first | (show _ = true; with_reducible assumption) | exact zDec)) zKr zKr zKr rfl rfl ?_
                      first | refine aany_take 27 rfl (.none rfl) zKr zKr zKr (AP.ar (ap_pick_true rfl zDec rfl)) rfl rfl ?_ | refine aany_take 27 rfl (.none rfl) zKr zKr zKr (AP.ar (ap_pick_false rfl zDec rfl)) rfl rfl ?_
                      refine aany_nil zKr ?_
                     )
                 all_goals (
                   refine seqQ_n ?_
                   refine awp_cond rfl (fun hc => ?_) (fun hc => ?_)
                   · first
                     | (exact absurd hc (by decide))
                     | (refine awp_seq ?_
                        refine awp_region ?_
                        refine aops_p (ap_assign rfl) rfl rfl rfl ?_
                        refine aops_nil ?_
                        refine seqQ_n ?_
                        refine awp_ret ?_
                        refine blockQ_r ?_
                        refine seqQ_r ?_
                        refine seqQ_r ?_
                        refine blockQ_r ?_
                        refine blockQ_r ?_
                        refine seqQ_r ?_
                        refine seqQ_r ?_
                        refine blockQ_r ?_
                        refine blockQ_r ?_
                        refine seqQ_r ?_
                        refine seqQ_r ?_
                        refine blockQ_r ?_
                        refine seqQ_r ?_
                        first | (refine post_is (.tmp rfl .nil) (by repeat (first | exact .nil | refine .cons (by first | exact .here | exact .there .here | exact .there (.there .here) | exact .there (.there (.there .here)) | exact .there (.there (.there (.there .here)))) ?_)) rfl) | (exfalso; simp at hc; done) | (exfalso; simp at hg; done)
                       )
                   · first
                     | (exact absurd hc (by decide))
                     | (refine awp_skip ?_
                        refine blockQ_n ?_
                        refine seqQ_n ?_
                        refine awp_region ?_
                        refine aops_p (ap_arith rfl rfl rfl (by omega)) rfl rfl rfl ?_
                        refine aops_p (ap_move rfl) rfl rfl rfl ?_
                        refine aops_nil ?_
                        refine seqQ_n ?_
                        refine ⟨i + 1, by omega, by omega, wk zSub (by repeat (first | exact .nil | refine .cons (by first | exact .here | exact .there .here | exact .there (.there .here) | exact .there (.there (.there .here)) | exact .there (.there (.there (.there .here)))) ?_))⟩
                       )
                   )
               · refine awp_exit ?_
                 refine seqQ_x ?_
                 refine seqQ_x ?_
                 refine blockQ_x rfl ?_
                 refine blockQ_n ?_
                 refine seqQ_n ?_
                 refine awp_region ?_
                 refine aops_p (ap_arith rfl rfl rfl (by omega)) rfl rfl rfl ?_
                 refine aops_p (ap_move rfl) rfl rfl rfl ?_
                 refine aops_nil ?_
                 refine seqQ_n ?_
                 refine ⟨j + 1, _, by omega, by omega, wk zSub (by repeat (first | exact .nil | refine .cons (by first | exact .here | exact .there .here | exact .there (.there .here) | exact .there (.there (.there .here)) | exact .there (.there (.there (.there .here)))) ?_))⟩
             · refine awp_exit ?_
               refine seqQ_x ?_
               refine seqQ_x ?_
               refine blockQ_x rfl ?_
               refine blockQ_n ?_
               refine seqQ_n ?_
               refine awp_region ?_
               refine aops_p (ap_arith rfl rfl rfl (by omega)) rfl rfl rfl ?_
               refine aops_p (ap_move rfl) rfl rfl rfl ?_
               refine aops_nil ?_
               refine seqQ_n ?_
               refine ⟨k + 1, _, by omega, by omega, wk zSub (by repeat (first | exact .nil | refine .cons (by first | exact .here | exact .there .here | exact .there (.there .here) | exact .there (.there (.there .here)) | exact .there (.there (.there (.there .here)))) ?_))⟩
           · refine awp_exit ?_
             refine seqQ_x ?_
             refine seqQ_x ?_
             refine blockQ_x rfl ?_
             refine seqQ_n ?_
             refine awp_seq ?_
             refine awp_region ?_
             refine aops_p (ap_move rfl) rfl rfl rfl ?_
             (refine aops_call zRc (msgs56_con _ _ _) zSplit rfl rfl ?_; rintro _ _ ⟨pm, a129, rfl, ⟨hpl, hpm⟩, rfl⟩; have hpml : (pm.map msv).length = pm.length := (by simp); have hlml : (lm.map msv).length = lm.length := (by simp))
             refine aops_p (ap_assign rfl) rfl rfl rfl ?_
             refine aops_nil ?_
             refine seqQ_n ?_
             refine awp_seq ?_
             refine awp_seq ?_
             refine awp_region ?_
             refine aops_p (ap_move rfl) rfl rfl rfl ?_
             refine aops_p (ap_move rfl) rfl rfl rfl ?_
             (refine aops_call zRc (mmsg5_con _ _ _) zSplit rfl rfl ?_; rintro _ _ ⟨m132, a132, rfl, hm132, rfl⟩)
             (refine aops_call zRc (bentM_con _ _ m132 hm132.2.1 _) zSplit rfl rfl ?_; rintro _ _ ⟨x133, a133, rfl, hx133, rfl⟩)
             refine aops_own (e := 67) (sz := 7) (by_ := 120) rfl rfl zRc rfl rfl rfl rfl (fun v134 hv134 => ?_)
             refine aops_p (ap_move rfl) rfl rfl rfl ?_
             first | refine aops_append (e := 67) (sz := 7) (by_ := 120) rfl zUpd rfl rfl rfl rfl rfl (by simp only [List.length_cons, List.length_nil, List.length_append, List.length_map]; omega) (fun v136 hv136 => ?_) | refine aops_append_nil (e := 67) (sz := 7) (by_ := 120) rfl rfl rfl rfl rfl rfl (by simp only [List.length_cons, List.length_nil, List.length_append, List.length_map]; omega) (fun v136 hv136 => ?_)
             refine aops_p (ap_move rfl) rfl rfl rfl ?_
             first | refine aops_append (e := 67) (sz := 7) (by_ := 120) rfl zUpd rfl rfl rfl rfl rfl (by simp only [List.length_cons, List.length_nil, List.length_append, List.length_map]; omega) (fun v138 hv138 => ?_) | refine aops_append_nil (e := 67) (sz := 7) (by_ := 120) rfl rfl rfl rfl rfl rfl (by simp only [List.length_cons, List.length_nil, List.length_append, List.length_map]; omega) (fun v138 hv138 => ?_)
             first | refine aops_len rfl rfl rfl rfl (fun _ => ?_) | refine aops_p (ap_len_arr rfl zUpd rfl) rfl rfl rfl ?_ | refine aops_p (ap_len_nil rfl rfl) rfl rfl rfl ?_
             refine aops_p (ap_move rfl) rfl rfl rfl ?_
             refine aops_nil ?_
             refine seqQ_n ?_
             refine awp_block ?_
             refine awp_freeze v138 [2,5,14,15,17,25,138,139,140] (by repeat (first | exact .here | apply Rem.there)) (by repeat (first | exact .nil | apply SelC.cons rfl (by first | exact Cv.fz | (apply Cv.agg; repeat (first | exact CvL.nil | apply CvL.cons (by first | exact Cv.fz | exact Cv.same))) | exact Cv.same))) (by repeat (first | exact .nil | apply HeapA.box (by repeat (first | exact CvL.nil | apply CvL.cons (by first | exact Cv.fz | exact Cv.same))) | apply HeapA.arr)) ?_
             obtain ⟨es, hes⟩ : ∃ es : List Msg, es = [x133] ++ pm ++ lm := ⟨_, rfl⟩
             have hel : (es.map msv).length = es.length := by simp
             have hes27 : es.length ≤ 30 := by rw [hes]; simp only [List.length_append, List.length_cons, List.length_nil]; omega
             have hesz : ∀ e ∈ es, sizeT e.t ≤ 200000 := by rw [hes]; intro e he; simp only [List.mem_append, List.mem_cons, List.not_mem_nil, or_false] at he; rcases he with (rfl | he) | he <;> first | exact hx133 | exact (by have := (hpm e he).2.1; omega) | exact (by have := hlmz e he; omega)
             rw [show [msv x133] ++ pm.map msv ++ lm.map msv = es.map msv from by rw [hes]; simp]
             refine awp_loop1 [2, 5, 14, 15, 17, 25, 138, 139] [.box b14 _ _, .box b15 _ _, .box b50 _ _] (fun (k : Nat) r => (140, .i (k : Int)) :: r) (fun (k : Nat) r => r) (fun (k : Nat) => k ≤ es.length) (fun (k : Nat) => es.length - k) (0) zRc (by omega) (wk zSub (by repeat (first | exact .nil | refine .cons (by first | exact .here | exact .there .here | exact .there (.there .here) | exact .there (.there (.there .here)) | exact .there (.there (.there (.there .here)))) ?_))) ?_
             intro k hk
             refine awp_seq ?_
             refine awp_region ?_
             refine aops_p (ap_cmp rfl rfl rfl) rfl rfl rfl ?_
             refine aops_nil ?_
             refine seqQ_n ?_
             refine awp_seq ?_
             refine awp_cond rfl (fun hc => ?_) (fun hc => ?_)
             · have hlt := of_decide_eq_true hc
               obtain ⟨e, he, _⟩ := drop_cons (l := es) (k := k) (by omega)
               have he' := getMap msv he
               have hez := hesz e (List.mem_of_getElem? he)
               refine awp_skip ?_
               refine seqQ_n ?_
               refine awp_seq ?_
               refine awp_block ?_
               refine awp_seq ?_
               refine awp_region ?_
               first | refine aops_p (ap_index rfl rfl rfl rfl (by decide) rfl zAss) rfl rfl rfl ?_ | refine aops_p (ap_index rfl rfl rfl rfl (by decide) (by omega) zAss) rfl rfl rfl ?_ | refine aops_p (ap_index_own rfl rfl rfl rfl rfl (by first | omega | (simp only [List.length_map, List.length_set, avs_len]; omega))) rfl rfl rfl ?_
               first | refine aops_q (aq_load rfl zUpd List.not_mem_nil rfl rfl zRc) rfl rfl rfl ?_ | refine aops_q (aq_load_el rfl rfl rfl rfl (fun _ h => absurd h List.not_mem_nil)) rfl rfl rfl ?_
               refine aops_alloc rfl zRc rfl rfl (fun b27 => ?_)
               first | refine aops_store rfl rfl zFlat zUpd rfl zRc ?_ | refine aops_store_own1 rfl rfl zScal zUpd rfl (by simp only [List.length_set, List.length_map]; omega) ?_
               refine aops_nil ?_
               refine seqQ_n ?_
               refine awp_seq ?_
               refine awp_draw (Hm := []) zKr zSplit ?_
               first | refine aany_take 0 rfl (.none rfl) zKr zKr zKr (ar_load rfl zUpd rfl rfl zRc) rfl rfl ?_ | refine aany_take 0 rfl (.none rfl) zKr zKr zKr (AQ.ar (aq_load_el rfl rfl rfl rfl (fun _ h => h))) rfl rfl ?_
               first | refine aany_take 2 rfl (.none rfl) zKr zKr zKr (ar_load rfl zUpd rfl rfl zRc) rfl rfl ?_ | refine aany_take 2 rfl (.none rfl) zKr zKr zKr (AQ.ar (aq_load_el rfl rfl rfl rfl (fun _ h => h))) rfl rfl ?_
               refine aany_one 1 zKr rfl (.none rfl) ?_
               refine aops_call_b zRc (fplain_con e (by omega)) rfl rfl (fun c145 hc145 => ?_)
               refine aops_nil ?_
               refine aany_one 3 zKr rfl (.none rfl) ?_
               refine aops_call_v zRc (rfplain_is (by omega) hc145) rfl rfl ?_
               refine aops_nil ?_
               refine aany_take 4 rfl (.none rfl) zKr zKr zKr (AP.ar (ap_neb rfl rfl rfl)) rfl rfl ?_
               refine aany_nil zKr ?_
               all_goals (
                 refine seqQ_n ?_
                 refine awp_cond rfl (fun hc => ?_) (fun hc => ?_)
                 · first
                   | (exact absurd hc (by decide))
                   | (refine awp_seq ?_
                      refine awp_region ?_
                      refine aops_p (ap_assign rfl) rfl rfl rfl ?_
                      refine aops_nil ?_
                      refine seqQ_n ?_
                      refine awp_ret ?_
                      refine blockQ_r ?_
                      refine seqQ_r ?_
                      refine seqQ_r ?_
                      refine blockQ_r ?_
                      refine seqQ_r ?_
                      first | (refine post_is (.tmp rfl .nil) (by repeat (first | exact .nil | refine .cons (by first | exact .here | exact .there .here | exact .there (.there .here) | exact .there (.there (.there .here)) | exact .there (.there (.there (.there .here)))) ?_)) rfl) | (exfalso; simp at hc; done) | (exfalso; simp at hg; done)
                     )
                 · first
                   | (exact absurd hc (by decide))
                   | (refine awp_skip ?_
                      refine blockQ_n ?_
                      refine seqQ_n ?_
                      refine awp_region ?_
                      refine aops_p (ap_arith rfl rfl rfl (by omega)) rfl rfl rfl ?_
                      refine aops_p (ap_move rfl) rfl rfl rfl ?_
                      refine aops_nil ?_
                      refine seqQ_n ?_
                      refine ⟨k + 1, by omega, by omega, wk zSub (by repeat (first | exact .nil | refine .cons (by first | exact .here | exact .there .here | exact .there (.there .here) | exact .there (.there (.there .here)) | exact .there (.there (.there (.there .here)))) ?_))⟩
                     )
                 )
             · refine awp_exit ?_
               refine seqQ_x ?_
               refine seqQ_x ?_
               refine blockQ_x rfl ?_
               refine seqQ_n ?_
               refine awp_seq ?_
               refine awp_region ?_
               refine aops_own (e := 67) (sz := 7) (by_ := 120) rfl rfl zRc rfl rfl rfl rfl (fun v150 hv150 => ?_)
               refine aops_p (ap_move rfl) rfl rfl rfl ?_
               first | refine aops_append (e := 67) (sz := 7) (by_ := 120) rfl zUpd rfl rfl rfl rfl rfl (by simp only [List.length_cons, List.length_nil, List.length_append, List.length_map]; omega) (fun v152 hv152 => ?_) | refine aops_append_nil (e := 67) (sz := 7) (by_ := 120) rfl rfl rfl rfl rfl rfl (by simp only [List.length_cons, List.length_nil, List.length_append, List.length_map]; omega) (fun v152 hv152 => ?_)
               refine aops_p (ap_move rfl) rfl rfl rfl ?_
               refine aops_p (ap_move rfl) rfl rfl rfl ?_
               (refine aops_call zRc (mmsg5_con _ _ _) zSplit rfl rfl ?_; rintro _ _ ⟨m155, a155, rfl, hm155, rfl⟩)
               (refine aops_call zRc (bentM_con _ _ m155 hm155.2.1 _) zSplit rfl rfl ?_; rintro _ _ ⟨x156, a156, rfl, hx156, rfl⟩)
               refine aops_lit (e := 67) (sz := 7) (by_ := 120) rfl rfl zRc rfl rfl rfl rfl ?_
               first | refine aops_append (e := 67) (sz := 7) (by_ := 120) rfl zUpd rfl rfl rfl rfl rfl (by simp only [List.length_cons, List.length_nil, List.length_append, List.length_map]; omega) (fun v158 hv158 => ?_) | refine aops_append_nil (e := 67) (sz := 7) (by_ := 120) rfl rfl rfl rfl rfl rfl (by simp only [List.length_cons, List.length_nil, List.length_append, List.length_map]; omega) (fun v158 hv158 => ?_)
               refine aops_p (ap_assign rfl) rfl rfl rfl ?_
               refine aops_nil ?_
               refine seqQ_n ?_
               refine awp_seq ?_
               refine awp_seq ?_
               refine awp_freeze v158 [2,5,14,15,17,25,28] (by repeat (first | exact .here | apply Rem.there)) (by repeat (first | exact .nil | apply SelC.cons rfl (by first | exact Cv.fz | (apply Cv.agg; repeat (first | exact CvL.nil | apply CvL.cons (by first | exact Cv.fz | exact Cv.same))) | exact Cv.same))) (by repeat (first | exact .nil | apply HeapA.box (by repeat (first | exact CvL.nil | apply CvL.cons (by first | exact Cv.fz | exact Cv.same))) | apply HeapA.arr)) ?_
               refine awp_region ?_
               refine aops_p (ap_move rfl) rfl rfl rfl ?_
               refine aops_p (ap_move rfl) rfl rfl rfl ?_
               refine aops_p (ap_move rfl) rfl rfl rfl ?_
               refine aops_lit (e := 59) (sz := 1) (by_ := 24) rfl rfl zRc rfl rfl rfl rfl ?_
               first | refine aops_len rfl rfl rfl rfl (fun _ => ?_) | refine aops_p (ap_len_arr rfl zUpd rfl) rfl rfl rfl ?_ | refine aops_p (ap_len_nil rfl rfl) rfl rfl rfl ?_
               refine aops_p (ap_move rfl) rfl rfl rfl ?_
               refine aops_nil ?_
               refine seqQ_n ?_
               refine awp_block ?_
               obtain ⟨ws, hws⟩ : ∃ ws : List (List Msg), ws = [pm, pm ++ [x156], lm] := ⟨_, rfl⟩
               have hwl : (ws.map (fun w : List Msg => D.sl 7 (w.map msv))).length = 3 := by rw [hws]; rfl
               have hwl2 : ws.length = 3 := by rw [hws]; rfl
               have hwsz : ∀ w ∈ ws, ∀ m ∈ w, sizeT m.t ≤ 200000 := by rw [hws]; intro w hw m hm; simp only [List.mem_cons, List.not_mem_nil, or_false] at hw; rcases hw with rfl | rfl | rfl <;> first | exact (by have := (hpm m hm).2.1; omega) | exact (by have := hlmz m hm; omega) | exact ((List.mem_append.1 hm).elim (fun h => by have := (hpm m h).2.1; omega) (fun h => by obtain rfl : m = x156 := (by simpa using h); exact hx156))
               rw [show [D.sl 7 (pm.map msv), .sl 7 ([] ++ pm.map msv ++ [msv x156]), .sl 7 (lm.map msv)] = ws.map (fun w : List Msg => D.sl 7 (w.map msv)) from by rw [hws]; simp]
               obtain ⟨m40, h40, hsz40⟩ : ∃ m40 : Mem, (c4.map mv)[0]? = some (mv m40) ∧ sizeT m40.t ≤ 200000 := ⟨_, rfl, by decide⟩
               refine awp_loop2 [2, 14, 15, 17, 162, 163] [.box b14 _ _, .box b15 _ _] (fun (k : Nat) (a : Nat) r => (164, .i (k : Int)) :: r) (fun (k : Nat) (a : Nat) r => .box b50 104 [.sl 1 ((l.take 400).map .i), .i ((a : Nat) : Int)] :: r) (fun (k : Nat) (a : Nat) => k ≤ 3) (fun (k : Nat) (a : Nat) => 3 - k) (0) (a156) zRc (by omega) (wk zSub (by repeat (first | exact .nil | refine .cons (by first | exact .here | exact .there .here | exact .there (.there .here) | exact .there (.there (.there .here)) | exact .there (.there (.there (.there .here)))) ?_))) ?_
               intro k a hk
               refine awp_seq ?_
               refine awp_region ?_
               refine aops_p (ap_cmp rfl rfl rfl) rfl rfl rfl ?_
               refine aops_nil ?_
               refine seqQ_n ?_
               refine awp_seq ?_
               refine awp_cond rfl (fun hc => ?_) (fun hc => ?_)
               · have hlt := of_decide_eq_true hc
                 obtain ⟨w, hw, _⟩ := drop_cons (l := ws) (k := k) (by omega)
                 have hw' := getMap (fun w : List Msg => D.sl 7 (w.map msv)) hw
                 have hw8 := hwsz w (List.mem_of_getElem? hw)
                 have hw9 : ∀ m ∈ w, sizeT m.t ≤ 1000000000 := fun m hm => by have := hw8 m hm; omega
                 refine awp_skip ?_
                 refine seqQ_n ?_
                 refine awp_seq ?_
                 refine awp_block ?_
                 refine awp_seq ?_
                 refine awp_region ?_
                 first | refine aops_p (ap_index rfl rfl rfl rfl (by decide) rfl zAss) rfl rfl rfl ?_ | refine aops_p (ap_index rfl rfl rfl rfl (by decide) (by omega) zAss) rfl rfl rfl ?_ | refine aops_p (ap_index_own rfl rfl rfl rfl rfl (by first | omega | (simp only [List.length_map, List.length_set, avs_len]; omega))) rfl rfl rfl ?_
                 first | refine aops_q (aq_load1 rfl zUpd List.not_mem_nil rfl zRc) rfl rfl rfl ?_ | refine aops_q (aq_load_el1 rfl rfl zScal (fun _ h => absurd h List.not_mem_nil)) rfl rfl rfl ?_ | refine aops_q (aq_load_el1' rfl rfl zScal (fun _ h => absurd h List.not_mem_nil)) rfl rfl rfl ?_ | refine aops_q (aq_load_own1 rfl zUpd List.not_mem_nil rfl zAss zScal) rfl rfl rfl ?_
                 refine aops_p (ap_assign rfl) rfl rfl rfl ?_
                 refine aops_nil ?_
                 refine seqQ_n ?_
                 refine awp_seq ?_
                 refine awp_seq ?_
                 refine awp_draw (Hm := [.box b50 _ _]) zKr zSplit ?_
                 first | refine aany_take 0 rfl (.none rfl) zKr zKr zKr (ar_load rfl zUpd rfl rfl zRc) rfl rfl ?_ | refine aany_take 0 rfl (.none rfl) zKr zKr zKr (AQ.ar (aq_load_el rfl rfl rfl rfl (fun _ h => h))) rfl rfl ?_
                 refine aany_take 1 rfl (.none rfl) zKr zKr zKr (AP.ar (ap_move rfl)) rfl rfl ?_
                 refine aany_take 3 rfl (.none rfl) zKr zKr zKr (AP.ar (ap_move rfl)) rfl rfl ?_
                 refine aany_take 7 rfl (.none rfl) zKr zKr zKr (AP.ar (ap_move rfl)) rfl rfl ?_
                 refine aany_one 2 zKr rfl (.none rfl) ?_
                 (refine aops_call zRc (mclaim_con _ _ _) zSplit rfl rfl ?_; rintro _ _ ⟨x170, a170, rfl, rfl⟩)
                 refine aops_nil ?_
                 refine aany_one 4 zKr rfl (.none rfl) ?_
                 (refine aops_call zRc (mclaim_con _ _ _) zSplit rfl rfl ?_; rintro _ _ ⟨x172, a172, rfl, rfl⟩)
                 refine aops_nil ?_
                 refine aany_one 5 zKr rfl (.none rfl) ?_
                 refine aops_lit (e := 69) (sz := 2) (by_ := 16) rfl rfl zRc rfl rfl rfl rfl ?_
                 refine aops_nil ?_
                 first | refine aany_take 6 rfl (.none rfl) zKr zKr zKr (AP.ar (ap_len rfl rfl)) rfl rfl ?_ | refine aany_take 6 rfl (.none rfl) zKr zKr zKr (ar_len_arr rfl zUpd rfl) rfl rfl ?_ | refine aany_take 6 rfl (.none rfl) zKr zKr zKr (AP.ar (ap_len_nil rfl rfl)) rfl rfl ?_
                 refine aany_nil zKr ?_
                 all_goals (
                   refine seqQ_n ?_
                   refine awp_block ?_
                   obtain ⟨zs, hzs⟩ : ∃ zs : List Cl, zs = [x0, x170, x172] := ⟨_, rfl⟩
                   have hzl : (zs.map clv).length = 3 := by rw [hzs]; rfl
                   have hzl2 : zs.length = 3 := by rw [hzs]; rfl
                   first | rw [show [D.agg [.i x0.a, .i x0.b], clv x170, clv x172] = zs.map clv from by rw [hzs]; rfl] | rw [show [D.agg [.i x0.a, .i x0.b], D.agg [.i x170.a, .i x170.b], D.agg [.i x172.a, .i x172.b]] = zs.map clv from by rw [hzs]; rfl]
                   refine awp_loop1 [2, 14, 15, 17, 30, 162, 163, 164, 173, 174] [.box b14 _ _, .box b15 _ _, .box b50 _ _] (fun (j : Nat) r => (175, .i (j : Int)) :: r) (fun (j : Nat) r => r) (fun (j : Nat) => j ≤ 3) (fun (j : Nat) => 3 - j) (0) zRc (by omega) (wk zSub (by repeat (first | exact .nil | refine .cons (by first | exact .here | exact .there .here | exact .there (.there .here) | exact .there (.there (.there .here)) | exact .there (.there (.there (.there .here)))) ?_))) ?_
                   intro j hj
                   refine awp_seq ?_
                   refine awp_region ?_
                   refine aops_p (ap_cmp rfl rfl rfl) rfl rfl rfl ?_
                   refine aops_nil ?_
                   refine seqQ_n ?_
                   refine awp_seq ?_
                   refine awp_cond rfl (fun hc => ?_) (fun hc => ?_)
                   · have hlt := of_decide_eq_true hc
                     obtain ⟨z, hz, _⟩ := drop_cons (l := zs) (k := j) (by omega)
                     have hz' := getMap clv hz
                     refine awp_skip ?_
                     refine seqQ_n ?_
                     refine awp_seq ?_
                     refine awp_block ?_
                     refine awp_seq ?_
                     refine awp_region ?_
                     first | refine aops_p (ap_index rfl rfl rfl rfl (by decide) rfl zAss) rfl rfl rfl ?_ | refine aops_p (ap_index rfl rfl rfl rfl (by decide) (by omega) zAss) rfl rfl rfl ?_ | refine aops_p (ap_index_own rfl rfl rfl rfl rfl (by first | omega | (simp only [List.length_map, List.length_set, avs_len]; omega))) rfl rfl rfl ?_
                     first | refine aops_q (aq_load rfl zUpd List.not_mem_nil rfl rfl zRc) rfl rfl rfl ?_ | refine aops_q (aq_load_el rfl rfl rfl rfl (fun _ h => absurd h List.not_mem_nil)) rfl rfl rfl ?_
                     refine aops_alloc rfl zRc rfl rfl (fun b32 => ?_)
                     first | refine aops_store rfl rfl zFlat zUpd rfl zRc ?_ | refine aops_store_own1 rfl rfl zScal zUpd rfl (by simp only [List.length_set, List.length_map]; omega) ?_
                     refine aops_nil ?_
                     refine seqQ_n ?_
                     refine awp_seq ?_
                     refine awp_draw (Hm := []) zKr zSplit ?_
                     refine aany_take 0 rfl (.none rfl) zKr zKr zKr (AP.ar (ap_move rfl)) rfl rfl ?_
                     first | refine aany_take 1 rfl (.none rfl) zKr zKr zKr (ar_load rfl zUpd rfl rfl zRc) rfl rfl ?_ | refine aany_take 1 rfl (.none rfl) zKr zKr zKr (AQ.ar (aq_load_el rfl rfl rfl rfl (fun _ h => h))) rfl rfl ?_
                     refine aany_take 3 rfl (.none rfl) zKr zKr zKr (AP.ar (ap_move rfl)) rfl rfl ?_
                     first | refine aany_take 4 rfl (.none rfl) zKr zKr zKr (ar_load rfl zUpd rfl rfl zRc) rfl rfl ?_ | refine aany_take 4 rfl (.none rfl) zKr zKr zKr (AQ.ar (aq_load_el rfl rfl rfl rfl (fun _ h => h))) rfl rfl ?_
                     refine aany_one 2 zKr rfl (.none rfl) ?_
                     refine aops_call_v zRc (fvotes_con w hw9 z) rfl rfl ?_
                     refine aops_nil ?_
                     refine aany_one 5 zKr rfl (.none rfl) ?_
                     refine aops_call_v zRc (rvotes_con w hw9 z) rfl rfl ?_
                     refine aops_nil ?_
                     refine aany_take 6 rfl (.none rfl) zKr zKr zKr (AP.ar (ap_cmp rfl rfl rfl)) rfl rfl ?_
                     refine aany_take 7 rfl (.none rfl) zKr zKr zKr (AP.ar (ap_move rfl)) rfl rfl ?_
                     refine aany_guard 7 rfl (fun hg => ?_) (fun hg => ?_)
                     rotate_left
                     case' _ =>
                       first
                       | (exact absurd hg (by decide))
                       | (exfalso; simp at hg; done)
                       | (refine aany_take 8 rfl (.yes rfl rfl zDec) zKr zKr zKr (AP.ar (ap_move rfl)) rfl rfl ?_
                          first | refine aany_take 9 rfl (.yes rfl rfl zDec) zKr zKr zKr (ar_load rfl zUpd rfl rfl zRc) rfl rfl ?_ | refine aany_take 9 rfl (.yes rfl rfl zDec) zKr zKr zKr (AQ.ar (aq_load_el rfl rfl rfl rfl (fun _ h => h))) rfl rfl ?_
                          refine aany_take 11 rfl (.yes rfl rfl zDec) zKr zKr zKr (AP.ar (ap_move rfl)) rfl rfl ?_
                          first | refine aany_take 12 rfl (.yes rfl rfl zDec) zKr zKr zKr (ar_load rfl zUpd rfl rfl zRc) rfl rfl ?_ | refine aany_take 12 rfl (.yes rfl rfl zDec) zKr zKr zKr (AQ.ar (aq_load_el rfl rfl rfl rfl (fun _ h => h))) rfl rfl ?_
                          refine aany_one 10 zKr rfl (.yes rfl rfl zDec) ?_
                          refine aops_call_v zRc (facc_con w hw9 z) rfl rfl ?_
                          refine aops_nil ?_
                          refine aany_one 13 zKr rfl (.yes rfl rfl zDec) ?_
                          refine aops_call_v zRc (racc_con w hw9 z) rfl rfl ?_
                          refine aops_nil ?_
                          refine aany_take 14 rfl (.yes rfl rfl zDec) zKr zKr zKr (AP.ar (ap_cmp rfl rfl rfl)) rfl rfl ?_
                          first | refine aany_take 15 rfl (.none rfl) zKr zKr zKr (AP.ar (ap_pick_true rfl zDec rfl)) rfl rfl ?_ | refine aany_take 15 rfl (.none rfl) zKr zKr zKr (AP.ar (ap_pick_false rfl zDec rfl)) rfl rfl ?_
                          refine aany_nil zKr ?_
                         )
                     rotate_right
                     case' _ =>
                       first
                       | (exact absurd hg (by decide))
                       | (exfalso; simp at hg; done)
                       | (refine aany_skip 8 rfl (.no rfl rfl (by first | (show _ = true; with_reducible assumption) | exact zDec)) zKr zKr zKr rfl rfl ?_
                          refine aany_skip 9 rfl (.no rfl rfl (by first | (show _ = true; with_reducible assumption) | exact zDec)) zKr zKr zKr rfl rfl ?_
                          refine aany_skip 10 rfl (.no rfl rfl (by first | (show _ = true; with_reducible assumption) | exact zDec)) zKr zKr zKr rfl rfl ?_
                          refine aany_skip 11 rfl (.no rfl rfl (by first | (show _ = true; with_reducible assumption) | exact zDec)) zKr zKr zKr rfl rfl ?_
                          refine aany_skip 12 rfl (.no rfl rfl (by first | (show _ = true; with_reducible assumption) | exact zDec)) zKr zKr zKr rfl rfl ?_
                          refine aany_skip 13 rfl (.no rfl rfl (by first | (show _ = true; with_reducible assumption) | exact zDec)) zKr zKr zKr rfl rfl ?_
                          refine aany_skip 14 rfl (.no rfl rfl (by first | (show _ = true; with_reducible assumption) | exact zDec)) zKr zKr zKr rfl rfl ?_
                          first | refine aany_take 15 rfl (.none rfl) zKr zKr zKr (AP.ar (ap_pick_true rfl zDec rfl)) rfl rfl ?_ | refine aany_take 15 rfl (.none rfl) zKr zKr zKr (AP.ar (ap_pick_false rfl zDec rfl)) rfl rfl ?_
                          refine aany_nil zKr ?_
                         )
                     all_goals (
                       refine seqQ_n ?_
                       refine awp_cond rfl (fun hc => ?_) (fun hc => ?_)
                       · first
                         | (exact absurd hc (by decide))
                         | (refine awp_seq ?_
                            refine awp_region ?_
                            refine aops_p (ap_assign rfl) rfl rfl rfl ?_
                            refine aops_nil ?_
                            refine seqQ_n ?_
                            refine awp_ret ?_
                            refine blockQ_r ?_
                            refine seqQ_r ?_
                            refine seqQ_r ?_
                            refine blockQ_r ?_
                            refine seqQ_r ?_
                            refine blockQ_r ?_
                            refine seqQ_r ?_
                            refine seqQ_r ?_
                            refine blockQ_r ?_
                            refine seqQ_r ?_
                            first | (refine post_is (.tmp rfl .nil) (by repeat (first | exact .nil | refine .cons (by first | exact .here | exact .there .here | exact .there (.there .here) | exact .there (.there (.there .here)) | exact .there (.there (.there (.there .here)))) ?_)) rfl) | (exfalso; simp at hc; done) | (exfalso; simp at hg; done)
                           )
                       · first
                         | (exact absurd hc (by decide))
                         | (refine awp_skip ?_
                            refine blockQ_n ?_
                            refine seqQ_n ?_
                            refine awp_region ?_
                            refine aops_p (ap_arith rfl rfl rfl (by omega)) rfl rfl rfl ?_
                            refine aops_p (ap_move rfl) rfl rfl rfl ?_
                            refine aops_nil ?_
                            refine seqQ_n ?_
                            refine ⟨j + 1, by omega, by omega, wk zSub (by repeat (first | exact .nil | refine .cons (by first | exact .here | exact .there .here | exact .there (.there .here) | exact .there (.there (.there .here)) | exact .there (.there (.there (.there .here)))) ?_))⟩
                           )
                       )
                   · refine awp_exit ?_
                     refine seqQ_x ?_
                     refine seqQ_x ?_
                     refine blockQ_x rfl ?_
                     refine seqQ_n ?_
                     refine awp_seq ?_
                     refine awp_region ?_
                     refine aops_p (ap_move rfl) rfl rfl rfl ?_
                     refine aops_p (ap_move rfl) rfl rfl rfl ?_
                     (refine aops_call zRc (N_con _ _ _ _ (by omega)) zSplit rfl rfl ?_; rintro _ _ ⟨r198, a198, rfl, hr198, rfl⟩; obtain ⟨x198, rfl⟩ := Int.eq_ofNat_of_zero_le hr198.1)
                     refine aops_lit (e := 3) (sz := 1) (by_ := 8) rfl rfl zRc rfl rfl rfl rfl ?_
                     first | refine aops_len rfl rfl rfl rfl (fun _ => ?_) | refine aops_p (ap_len_arr rfl zUpd rfl) rfl rfl rfl ?_ | refine aops_p (ap_len_nil rfl rfl) rfl rfl rfl ?_
                     refine aops_p (ap_move rfl) rfl rfl rfl ?_
                     refine aops_nil ?_
                     refine seqQ_n ?_
                     refine awp_block ?_
                     obtain ⟨us, hus⟩ : ∃ us : List Int, us = [v, x198] := ⟨_, rfl⟩
                     have hul : (us.map D.i).length = 2 := by rw [hus]; rfl
                     have hul2 : us.length = 2 := by rw [hus]; rfl
                     rw [show [D.i v, .i x198] = us.map D.i from by rw [hus]; rfl]
                     refine awp_loop1 [2, 14, 15, 17, 30, 162, 163, 164, 199, 200] [.box b14 _ _, .box b15 _ _, .box b50 _ _] (fun (j : Nat) r => (201, .i (j : Int)) :: r) (fun (j : Nat) r => r) (fun (j : Nat) => j ≤ 2) (fun (j : Nat) => 2 - j) (0) zRc (by omega) (wk zSub (by repeat (first | exact .nil | refine .cons (by first | exact .here | exact .there .here | exact .there (.there .here) | exact .there (.there (.there .here)) | exact .there (.there (.there (.there .here)))) ?_))) ?_
                     intro j hj
                     refine awp_seq ?_
                     refine awp_region ?_
                     refine aops_p (ap_cmp rfl rfl rfl) rfl rfl rfl ?_
                     refine aops_nil ?_
                     refine seqQ_n ?_
                     refine awp_seq ?_
                     refine awp_cond rfl (fun hc => ?_) (fun hc => ?_)
                     · have hlt := of_decide_eq_true hc
                       obtain ⟨z, hz, _⟩ := drop_cons (l := us) (k := j) (by omega)
                       have hz' := getMap D.i hz
                       refine awp_skip ?_
                       refine seqQ_n ?_
                       refine awp_seq ?_
                       refine awp_block ?_
                       refine awp_seq ?_
                       refine awp_region ?_
                       first | refine aops_p (ap_index rfl rfl rfl rfl (by decide) rfl zAss) rfl rfl rfl ?_ | refine aops_p (ap_index rfl rfl rfl rfl (by decide) (by omega) zAss) rfl rfl rfl ?_ | refine aops_p (ap_index_own rfl rfl rfl rfl rfl (by first | omega | (simp only [List.length_map, List.length_set, avs_len]; omega))) rfl rfl rfl ?_
                       first | refine aops_q (aq_load1 rfl zUpd List.not_mem_nil rfl zRc) rfl rfl rfl ?_ | refine aops_q (aq_load_el1 rfl rfl zScal (fun _ h => absurd h List.not_mem_nil)) rfl rfl rfl ?_ | refine aops_q (aq_load_el1' rfl rfl zScal (fun _ h => absurd h List.not_mem_nil)) rfl rfl rfl ?_ | refine aops_q (aq_load_own1 rfl zUpd List.not_mem_nil rfl zAss zScal) rfl rfl rfl ?_
                       refine aops_p (ap_assign rfl) rfl rfl rfl ?_
                       refine aops_nil ?_
                       refine seqQ_n ?_
                       refine awp_seq ?_
                       refine awp_draw (Hm := []) zKr zSplit ?_
                       refine aany_take 0 rfl (.none rfl) zKr zKr zKr (AP.ar (ap_move rfl)) rfl rfl ?_
                       first | refine aany_take 1 rfl (.none rfl) zKr zKr zKr (ar_load rfl zUpd rfl rfl zRc) rfl rfl ?_ | refine aany_take 1 rfl (.none rfl) zKr zKr zKr (AQ.ar (aq_load_el rfl rfl rfl rfl (fun _ h => h))) rfl rfl ?_
                       refine aany_take 2 rfl (.none rfl) zKr zKr zKr (AP.ar (ap_move rfl)) rfl rfl ?_
                       refine aany_take 4 rfl (.none rfl) zKr zKr zKr (AP.ar (ap_move rfl)) rfl rfl ?_
                       first | refine aany_take 5 rfl (.none rfl) zKr zKr zKr (ar_load rfl zUpd rfl rfl zRc) rfl rfl ?_ | refine aany_take 5 rfl (.none rfl) zKr zKr zKr (AQ.ar (aq_load_el rfl rfl rfl rfl (fun _ h => h))) rfl rfl ?_
                       refine aany_take 6 rfl (.none rfl) zKr zKr zKr (AP.ar (ap_move rfl)) rfl rfl ?_
                       refine aany_one 3 zKr rfl (.none rfl) ?_
                       refine aops_call_v zRc (view_con z tt (by omega) w hw8) rfl rfl ?_
                       refine aops_nil ?_
                       refine aany_one 7 zKr rfl (.none rfl) ?_
                       refine aops_call_v zRc (rview_con z tt (by omega) w hw8) rfl rfl ?_
                       refine aops_nil ?_
                       refine aany_one 8 zKr rfl (.none rfl) ?_
                       refine aops_call_v zRc (rsameC_self _) rfl rfl ?_
                       refine aops_nil ?_
                       refine aany_take 9 rfl (.none rfl) zKr zKr zKr (AP.ar (ap_not rfl)) rfl rfl ?_
                       refine aany_take 10 rfl (.none rfl) zKr zKr zKr (AP.ar (ap_move rfl)) rfl rfl ?_
                       refine aany_guard 10 rfl (fun hg => ?_) (fun hg => ?_)
                       rotate_left
                       case' _ =>
                         first
                         | (exact absurd hg (by decide))
                         | (exfalso; simp at hg; done)
                         | (refine aany_take 11 rfl (.yes rfl rfl zDec) zKr zKr zKr (AP.ar (ap_move rfl)) rfl rfl ?_
                            refine aany_take 17 rfl (.yes rfl rfl zDec) zKr zKr zKr (AP.ar (ap_move rfl)) rfl rfl ?_
                            refine aany_take 19 rfl (.yes rfl rfl zDec) zKr zKr zKr (AP.ar (ap_move rfl)) rfl rfl ?_
                            refine aany_take 25 rfl (.yes rfl rfl zDec) zKr zKr zKr (AP.ar (ap_move rfl)) rfl rfl ?_
                            refine aany_one 12 zKr rfl (.yes rfl rfl zDec) ?_
                            refine aops_call_v zRc (four_con) rfl rfl ?_
                            refine aops_nil ?_
                            refine aany_take 13 rfl (.yes rfl rfl zDec) zKr zKr zKr (AP.ar (ap_field (off := 0) (sz := 1) rfl rfl zRc)) rfl rfl ?_
                            refine aany_take 14 rfl (.yes rfl rfl zDec) zKr zKr zKr (AP.ar (ap_index (k := 0) rfl rfl rfl rfl (by decide) rfl h40)) rfl rfl ?_
                            first | refine aany_take 15 rfl (.yes rfl rfl zDec) zKr zKr zKr (AP.ar (ap_fieldAddr (off := 1) (sz := 3) (g := true) rfl rfl)) rfl rfl ?_ | refine aany_take 15 rfl (.yes rfl rfl zDec) zKr zKr zKr (AP.ar (ap_fieldAddr_el (off := 1) (sz := 3) (g := true) rfl rfl zRc)) rfl rfl ?_
                            first | refine aany_take 16 rfl (.yes rfl rfl zDec) zKr zKr zKr (ar_load rfl zUpd rfl rfl zRc) rfl rfl ?_ | refine aany_take 16 rfl (.yes rfl rfl zDec) zKr zKr zKr (AQ.ar (aq_load_el rfl rfl rfl rfl (fun _ h => h))) rfl rfl ?_
                            refine aany_one 18 zKr rfl (.yes rfl rfl zDec) ?_
                            refine aops_call_v zRc (view_con z m40.t hsz40 w hw8) rfl rfl ?_
                            refine aops_nil ?_
                            refine aany_one 20 zKr rfl (.yes rfl rfl zDec) ?_
                            refine aops_call_v zRc (four_con) rfl rfl ?_
                            refine aops_nil ?_
                            refine aany_take 21 rfl (.yes rfl rfl zDec) zKr zKr zKr (AP.ar (ap_field (off := 0) (sz := 1) rfl rfl zRc)) rfl rfl ?_
                            refine aany_take 22 rfl (.yes rfl rfl zDec) zKr zKr zKr (AP.ar (ap_index (k := 0) rfl rfl rfl rfl (by decide) rfl h40)) rfl rfl ?_
                            first | refine aany_take 23 rfl (.yes rfl rfl zDec) zKr zKr zKr (AP.ar (ap_fieldAddr (off := 1) (sz := 3) (g := true) rfl rfl)) rfl rfl ?_ | refine aany_take 23 rfl (.yes rfl rfl zDec) zKr zKr zKr (AP.ar (ap_fieldAddr_el (off := 1) (sz := 3) (g := true) rfl rfl zRc)) rfl rfl ?_
                            first | refine aany_take 24 rfl (.yes rfl rfl zDec) zKr zKr zKr (ar_load rfl zUpd rfl rfl zRc) rfl rfl ?_ | refine aany_take 24 rfl (.yes rfl rfl zDec) zKr zKr zKr (AQ.ar (aq_load_el rfl rfl rfl rfl (fun _ h => h))) rfl rfl ?_
                            refine aany_one 26 zKr rfl (.yes rfl rfl zDec) ?_
                            refine aops_call_v zRc (rview_con z m40.t hsz40 w hw8) rfl rfl ?_
                            refine aops_nil ?_
                            refine aany_one 27 zKr rfl (.yes rfl rfl zDec) ?_
                            refine aops_call_v zRc (rsameC_self _) rfl rfl ?_
                            refine aops_nil ?_
                            refine aany_take 28 rfl (.yes rfl rfl zDec) zKr zKr zKr (AP.ar (ap_not rfl)) rfl rfl ?_
                            first | refine aany_take 29 rfl (.none rfl) zKr zKr zKr (AP.ar (ap_pick_true rfl zDec rfl)) rfl rfl ?_ | refine aany_take 29 rfl (.none rfl) zKr zKr zKr (AP.ar (ap_pick_false rfl zDec rfl)) rfl rfl ?_
                            refine aany_nil zKr ?_
                           )
                       rotate_right
                       case' _ =>
                         first
                         | (exact absurd hg (by decide))
                         | (exfalso; simp at hg; done)
                         | (refine aany_skip 11 rfl (.no rfl rfl (by first | (show _ = true; with_reducible assumption) | exact zDec)) zKr zKr zKr rfl rfl ?_
                            refine aany_skip 12 rfl (.no rfl rfl (by first | (show _ = true; with_reducible assumption) | exact zDec)) zKr zKr zKr rfl rfl ?_
                            refine aany_skip 13 rfl (.no rfl rfl (by first | (show _ = true; with_reducible assumption) | exact zDec)) zKr zKr zKr rfl rfl ?_
                            refine aany_skip 14 rfl (.no rfl rfl (by first | (show _ = true; with_reducible assumption) | exact zDec)) zKr zKr zKr rfl rfl ?_
                            refine aany_skip 15 rfl (.no rfl rfl (by first | (show _ = true; with_reducible assumption) | exact zDec)) zKr zKr zKr rfl rfl ?_
                            refine aany_skip 16 rfl (.no rfl rfl (by first | (show _ = true; with_reducible assumption) | exact zDec)) zKr zKr zKr rfl rfl ?_
                            refine aany_skip 17 rfl (.no rfl rfl (by first | (show _ = true; with_reducible assumption) | exact zDec)) zKr zKr zKr rfl rfl ?_
                            refine aany_skip 18 rfl (.no rfl rfl (by first | (show _ = true; with_reducible assumption) | exact zDec)) zKr zKr zKr rfl rfl ?_
                            refine aany_skip 19 rfl (.no rfl rfl (by first | (show _ = true; with_reducible assumption) | exact zDec)) zKr zKr zKr rfl rfl ?_
                            refine aany_skip 20 rfl (.no rfl rfl (by first | (show _ = true; with_reducible assumption) | exact zDec)) zKr zKr zKr rfl rfl ?_
                            refine aany_skip 21 rfl (.no rfl rfl (by first | (show _ = true; with_reducible assumption) | exact zDec)) zKr zKr zKr rfl rfl ?_
                            refine aany_skip 22 rfl (.no rfl rfl (by first | (show _ = true; with_reducible assumption) | exact zDec)) zKr zKr zKr rfl rfl ?_
                            refine aany_skip 23 rfl (.no rfl rfl (by first | (show _ = true; with_reducible assumption) | exact zDec)) zKr zKr zKr rfl rfl ?_
                            refine aany_skip 24 rfl (.no rfl rfl (by first | (show _ = true; with_reducible assumption) | exact zDec)) zKr zKr zKr rfl rfl ?_
                            refine aany_skip 25 rfl (.no rfl rfl (by first | (show _ = true; with_reducible assumption) | exact zDec)) zKr zKr zKr rfl rfl ?_
                            refine aany_skip 26 rfl (.no rfl rfl (by first | (show _ = true; with_reducible assumption) | exact zDec)) zKr zKr zKr rfl rfl ?_
                            refine aany_skip 27 rfl (.no rfl rfl (by first | (show _ = true; with_reducible assumption) | exact zDec)) zKr zKr zKr rfl rfl ?_
                            refine aany_skip 28 rfl (.no rfl rfl (by first | (show _ = true; with_reducible assumption) | exact zDec)) zKr zKr zKr rfl rfl ?_
                            first | refine aany_take 29 rfl (.none rfl) zKr zKr zKr (AP.ar (ap_pick_true rfl zDec rfl)) rfl rfl ?_ | refine aany_take 29 rfl (.none rfl) zKr zKr zKr (AP.ar (ap_pick_false rfl zDec rfl)) rfl rfl ?_
                            refine aany_nil zKr ?_
                           )
                       all_goals (
                         refine seqQ_n ?_
                         refine awp_cond rfl (fun hc => ?_) (fun hc => ?_)
                         · first
                           | (exact absurd hc (by decide))
                           | (refine awp_seq ?_
                              refine awp_region ?_
                              refine aops_p (ap_assign rfl) rfl rfl rfl ?_
                              refine aops_nil ?_
                              refine seqQ_n ?_
                              refine awp_ret ?_
                              refine blockQ_r ?_
                              refine seqQ_r ?_
                              refine seqQ_r ?_
                              refine blockQ_r ?_
                              refine blockQ_r ?_
                              refine seqQ_r ?_
                              refine seqQ_r ?_
                              refine blockQ_r ?_
                              refine seqQ_r ?_
                              first | (refine post_is (.tmp rfl .nil) (by repeat (first | exact .nil | refine .cons (by first | exact .here | exact .there .here | exact .there (.there .here) | exact .there (.there (.there .here)) | exact .there (.there (.there (.there .here)))) ?_)) rfl) | (exfalso; simp at hc; done) | (exfalso; simp at hg; done)
                             )
                         · first
                           | (exact absurd hc (by decide))
                           | (refine awp_skip ?_
                              refine blockQ_n ?_
                              refine seqQ_n ?_
                              refine awp_region ?_
                              refine aops_p (ap_arith rfl rfl rfl (by omega)) rfl rfl rfl ?_
                              refine aops_p (ap_move rfl) rfl rfl rfl ?_
                              refine aops_nil ?_
                              refine seqQ_n ?_
                              refine ⟨j + 1, by omega, by omega, wk zSub (by repeat (first | exact .nil | refine .cons (by first | exact .here | exact .there .here | exact .there (.there .here) | exact .there (.there (.there .here)) | exact .there (.there (.there (.there .here)))) ?_))⟩
                             )
                         )
                     · refine awp_exit ?_
                       refine seqQ_x ?_
                       refine seqQ_x ?_
                       refine blockQ_x rfl ?_
                       refine blockQ_n ?_
                       refine seqQ_n ?_
                       refine awp_region ?_
                       refine aops_p (ap_arith rfl rfl rfl (by omega)) rfl rfl rfl ?_
                       refine aops_p (ap_move rfl) rfl rfl rfl ?_
                       refine aops_nil ?_
                       refine seqQ_n ?_
                       refine ⟨k + 1, _, by omega, by omega, wk zSub (by repeat (first | exact .nil | refine .cons (by first | exact .here | exact .there .here | exact .there (.there .here) | exact .there (.there (.there .here)) | exact .there (.there (.there (.there .here)))) ?_))⟩
                   )
               · refine awp_exit ?_
                 refine seqQ_x ?_
                 refine seqQ_x ?_
                 refine blockQ_x rfl ?_
                 refine seqQ_n ?_
                 refine awp_seq ?_
                 refine awp_region ?_
                 refine aops_call_v zRc (awake18_con) rfl rfl ?_
                 refine aops_p (ap_assign rfl) rfl rfl rfl ?_
                 refine aops_nil ?_
                 refine seqQ_n ?_
                 refine awp_ret ?_
                 first | (refine post_is (.tmp rfl .nil) (by repeat (first | exact .nil | refine .cons (by first | exact .here | exact .there .here | exact .there (.there .here) | exact .there (.there (.there .here)) | exact .there (.there (.there (.there .here)))) ?_)) rfl) | (exfalso; simp at hc; done) | (exfalso; simp at hg; done)
           )
        )
    )
end Go.Proofs.Ytanlbfnlnfkcjaa
