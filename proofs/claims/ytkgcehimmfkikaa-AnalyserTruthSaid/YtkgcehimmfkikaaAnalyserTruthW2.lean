/- The walks of: elimin_con, great_con, inside_con, quorum_con, rNodes_con, rdecl_con, of_con, indexF_con, containsF_con, lev1_con, level_con, validT_con, quorum0_con, quorumV_con, rquorum0_con, rquorumN_con, rquorum_con, blank_con, member_con, validC_con, lower_con. Each says what one function of the program answers, for the arguments that its statement names. No condition beyond what each theorem says. -/
import Derived.Test.YtkgcehimmfkikaaAnalyserTruthW1
import Derived.Test.YtkgcehimmfkikaaProg
import Derived.KernelRfl
import Derived.Tactics
import Derived.Tactics2
import Derived.StillTactics
set_option linter.unusedVariables false
set_option linter.unusedSimpArgs false
set_option linter.unnecessarySimpa false
set_option maxRecDepth 4000
namespace Go.Proofs.Ytkgcehimmfkikaa
open Go Go.Av Go.Tq
theorem elimin_con (c : List Mem) (s0 : Int) : Con none Try.prog 64 [cv c, .i s0] [] (Is (.tup [.i (great c s0 : Int), .sl 1 ((gOrder c s0).map .i)]) []) := by
  have hcap : capB = 140737488355328 := rfl
  have hdl := declC_lt c
  refine con_intro Try.func64 rfl Try.call64 rfl ?_
  refine awp_seq ?_
  refine awp_region ?_
  refine aops_box rfl zFlat rfl rfl (fun b2 => ?_)
  refine aops_p (ap_assign rfl) rfl rfl rfl ?_
  refine aops_p (ap_assign rfl) rfl rfl rfl ?_
  refine aops_nil ?_
  refine seqQ_n ?_
  refine awp_seq ?_
  refine awp_seq ?_
  refine awp_region ?_
  refine aops_p (ap_move rfl) rfl rfl rfl ?_
  refine aops_call_b zRc (valid_con s0) rfl rfl (fun c10 hc10 => ?_)
  refine aops_p (ap_not rfl) rfl rfl rfl ?_
  refine aops_nil ?_
  refine seqQ_n ?_
  refine awp_cond rfl (fun hc => ?_) (fun hc => ?_)
  · have hv0 := hc10.trans (not_t hc)
    refine awp_seq ?_
    refine awp_region ?_
    refine aops_p (ap_assign rfl) rfl rfl rfl ?_
    refine aops_p (ap_assign rfl) rfl rfl rfl ?_
    refine aops_nil ?_
    refine seqQ_n ?_
    refine awp_unnil [4,5] 1 rfl (by repeat (first | exact .nil | apply SelC.cons rfl (by first | exact Cv.fz | (apply Cv.agg; repeat (first | exact CvL.nil | apply CvL.cons (by first | exact Cv.fz | exact Cv.same))) | exact Cv.same))) (by repeat (first | exact .nil | apply HeapA.box (by repeat (first | exact CvL.nil | apply CvL.cons (by first | exact Cv.fz | exact Cv.same))) | apply HeapA.arr)) ?_
    refine awp_ret ?_
    refine seqQ_r ?_
    refine post_is (.tmp rfl (.tmp rfl .nil)) (by repeat (first | exact .nil | refine .cons (by first | exact .here | exact .there .here | exact .there (.there .here) | exact .there (.there (.there .here)) | exact .there (.there (.there (.there .here)))) ?_)) ?_
    unfold great gOrder; rw [hv0]; rfl
  · have hv0 := hc10.trans (not_f hc)
    obtain ⟨m, rfl, hm⟩ := valid_nat hv0
    refine awp_skip ?_
    refine seqQ_n ?_
    refine awp_seq ?_
    refine awp_region ?_
    refine aops_p (ap_assign rfl) rfl rfl rfl ?_
    refine aops_nil ?_
    refine seqQ_n ?_
    refine awp_seq ?_
    refine awp_region ?_
    refine aops_p (ap_move rfl) rfl rfl rfl ?_
    first | refine aops_q (aq_load rfl zUpd List.not_mem_nil rfl rfl zRc) rfl rfl rfl ?_ | refine aops_q (aq_load_el rfl rfl rfl rfl (fun _ h => absurd h List.not_mem_nil)) rfl rfl rfl ?_
    refine aops_call_v zRc (decl_con c) rfl rfl ?_
    refine aops_p (ap_bits rfl rfl rfl (by omega) (by omega)) rfl rfl rfl ?_
    refine aops_p (ap_assign rfl) rfl rfl rfl ?_
    refine aops_nil ?_
    refine seqQ_n ?_
    refine awp_block ?_
    refine awp_loop3 [2] [.box b2 _ _] (fun (s : Nat) (v : Value) (q : List Int) r => (1, .i (s : Int)) :: (6, .v v) :: r) (fun (s : Nat) (v : Value) (q : List Int) r => .arr v 3 1 (q.map .i) :: r) (fun (s : Nat) (v : Value) (q : List Int) => q.length + s ≤ 1023 ∧ In c s ∧ elim c s q = elim c (m &&& declC c) []) (fun (s : Nat) (v : Value) (q : List Int) => s) (m &&& declC c) (.slice none 0 0) ([]) zRc ⟨by have := and_lt (a := m) (declC_lt c); simp; omega, In.and c m, rfl⟩ ((wk_own 3 1 rfl).trans (wk zSub (by repeat (first | exact .nil | refine .cons (by first | exact .here | exact .there .here | exact .there (.there .here) | exact .there (.there (.there .here)) | exact .there (.there (.there (.there .here)))) ?_)))) ?_
    intro s v q ⟨hql, hin, hI⟩
    have hs : s < 1024 := by omega
    refine awp_block ?_
    refine awp_seq ?_
    refine awp_region ?_
    first | refine aops_q (aq_load rfl zUpd List.not_mem_nil rfl rfl zRc) rfl rfl rfl ?_ | refine aops_q (aq_load_el rfl rfl rfl rfl (fun _ h => absurd h List.not_mem_nil)) rfl rfl rfl ?_
    refine aops_p (ap_move rfl) rfl rfl rfl ?_
    (refine aops_call zRc (unh_con c s hs hin) zSplit rfl rfl ?_; rintro _ _ ⟨k, b, rfl, hb1, hb0, rfl⟩)
    refine aops_p (ap_move rfl) rfl rfl rfl ?_
    refine aops_p (ap_extract rfl rfl) rfl rfl rfl ?_
    refine aops_p (ap_extract rfl rfl) rfl rfl rfl ?_
    refine aops_p (ap_assign rfl) rfl rfl rfl ?_
    refine aops_p (ap_assign rfl) rfl rfl rfl ?_
    refine aops_nil ?_
    refine seqQ_n ?_
    refine awp_seq ?_
    refine awp_seq ?_
    refine awp_region ?_
    refine aops_p (ap_move rfl) rfl rfl rfl ?_
    refine aops_p (ap_not rfl) rfl rfl rfl ?_
    refine aops_nil ?_
    refine seqQ_n ?_
    refine awp_cond rfl (fun hc => ?_) (fun hc => ?_)
    · have hu := hb0 (not_t hc)
      rw [elim_none hu] at hI
      refine awp_seq ?_
      refine awp_region ?_
      refine aops_p (ap_move rfl) rfl rfl rfl ?_
      refine aops_p (ap_move rfl) rfl rfl rfl ?_
      refine aops_p (ap_assign rfl) rfl rfl rfl ?_
      refine aops_p (ap_assign rfl) rfl rfl rfl ?_
      refine aops_nil ?_
      refine seqQ_n ?_
      refine awp_freeze v [4,5] (by repeat (first | exact .here | apply Rem.there)) (by repeat (first | exact .nil | apply SelC.cons rfl (by first | exact Cv.fz | (apply Cv.agg; repeat (first | exact CvL.nil | apply CvL.cons (by first | exact Cv.fz | exact Cv.same))) | exact Cv.same))) (by repeat (first | exact .nil | apply HeapA.box (by repeat (first | exact CvL.nil | apply CvL.cons (by first | exact Cv.fz | exact Cv.same))) | apply HeapA.arr)) ?_
      refine awp_ret ?_
      refine seqQ_r ?_
      refine blockQ_r ?_
      refine seqQ_r ?_
      refine blockQ_r ?_
      refine post_is (.tmp rfl (.tmp rfl .nil)) (by repeat (first | exact .nil | refine .cons (by first | exact .here | exact .there .here | exact .there (.there .here) | exact .there (.there (.there .here)) | exact .there (.there (.there (.there .here)))) ?_)) ?_
      rw [great_eq c hm, gOrder_eq c hm, ← hI]; rfl
    · have hu := hb1 (not_f hc)
      obtain ⟨j, x, rfl, hj, _, _⟩ := hin.get hs (unh_has hu).1
      have hcl : clr s j < s := by have := unh_drop hu; rwa [Int.toNat_natCast] at this
      have hp := pow_lt10 hj
      refine awp_skip ?_
      refine seqQ_n ?_
      refine awp_seq ?_
      refine awp_region ?_
      refine aops_p (ap_move rfl) rfl rfl rfl ?_
      refine aops_p (ap_move rfl) rfl rfl rfl ?_
      refine aops_lit (e := 3) (sz := 1) (by_ := 8) rfl rfl zRc rfl rfl rfl rfl ?_
      first | refine aops_append (e := 3) (sz := 1) (by_ := 8) rfl zUpd rfl rfl rfl rfl rfl (by simp only [List.length_cons, List.length_nil, List.length_append, List.length_map, avs_len]; omega) (fun v29 hv29 => ?_) | refine aops_append_nil (e := 3) (sz := 1) (by_ := 8) rfl rfl rfl rfl rfl rfl (by simp only [List.length_cons, List.length_nil, List.length_append, List.length_map, avs_len]; omega) (fun v29 hv29 => ?_)
      refine aops_p (ap_assign rfl) rfl rfl rfl ?_
      refine aops_nil ?_
      refine seqQ_n ?_
      refine awp_region ?_
      refine aops_p (ap_move rfl) rfl rfl rfl ?_
      refine aops_p (ap_move rfl) rfl rfl rfl ?_
      refine aops_p (ap_shl (p := 1) rfl rfl rfl (by omega) (by omega)) rfl rfl rfl ?_
      refine aops_p (ap_bits rfl rfl rfl (by omega) (by omega)) rfl rfl rfl ?_
      refine aops_p (ap_assign rfl) rfl rfl rfl ?_
      refine aops_nil ?_
      refine blockQ_n ?_
      refine seqQ_n ?_
      rw [mapi_snoc]
      refine ⟨clr s j, v29, q ++ [(j : Int)], ⟨by simp only [List.length_append, List.length_cons, List.length_nil]; omega, hin.clr, by rw [← hI, elim_some hu, Int.toNat_natCast]⟩, hcl, ?_⟩
      unfold clr; rw [Nat.one_mul]
      exact (wk zSub (by repeat (first | exact .nil | refine .cons (by first | exact .here | exact .there .here | exact .there (.there .here) | exact .there (.there (.there .here)) | exact .there (.there (.there (.there .here)))) ?_)))
theorem great_con (c : List Mem) (s : Int) : Con none Try.prog 54 [cv c, .i s] [] (Is (.i (great c s : Int)) []) := by
  have hcap : capB = 140737488355328 := rfl
  refine con_intro Try.func54 rfl Try.call54 rfl ?_
  refine awp_seq ?_
  refine awp_region ?_
  refine aops_box rfl zFlat rfl rfl (fun b2 => ?_)
  refine aops_p (ap_assign rfl) rfl rfl rfl ?_
  refine aops_nil ?_
  refine seqQ_n ?_
  refine awp_seq ?_
  refine awp_region ?_
  first | refine aops_q (aq_load rfl zUpd List.not_mem_nil rfl rfl zRc) rfl rfl rfl ?_ | refine aops_q (aq_load_el rfl rfl rfl rfl (fun _ h => absurd h List.not_mem_nil)) rfl rfl rfl ?_
  refine aops_p (ap_move rfl) rfl rfl rfl ?_
  refine aops_call_v zRc (elimin_con c _) rfl rfl ?_
  refine aops_p (ap_move rfl) rfl rfl rfl ?_
  refine aops_p (ap_extract rfl rfl) rfl rfl rfl ?_
  refine aops_p (ap_extract rfl rfl) rfl rfl rfl ?_
  refine aops_p (ap_assign rfl) rfl rfl rfl ?_
  refine aops_p (ap_assign rfl) rfl rfl rfl ?_
  refine aops_nil ?_
  refine seqQ_n ?_
  refine awp_seq ?_
  refine awp_region ?_
  refine aops_p (ap_move rfl) rfl rfl rfl ?_
  refine aops_p (ap_assign rfl) rfl rfl rfl ?_
  refine aops_nil ?_
  refine seqQ_n ?_
  refine awp_ret ?_
  refine post_is (.tmp rfl .nil) (by repeat (first | exact .nil | refine .cons (by first | exact .here | exact .there .here | exact .there (.there .here) | exact .there (.there (.there .here)) | exact .there (.there (.there (.there .here)))) ?_)) rfl
theorem of_neq_true {a b : Int} (h : (!decide (a = b)) = true) : ¬ a = b := by simpa using h
theorem of_neq_false {a b : Int} (h : (!decide (a = b)) = false) : a = b := by simpa using h
theorem validn {s : Nat} (h : s < 1024) : Con none Try.prog 47 [.i s] [] (Is (.b true) []) := by rw [← valid_n h]; exact valid_con s
theorem inside_con (c : List Mem) (s : Nat) (hs : s < 1024) : Con none Try.prog 48 [cv c, .i s] [] (Is (.b (insideC c s)) []) := by
  have hcap : capB = 140737488355328 := rfl
  have hdl := declC_lt c
  refine con_intro Try.func48 rfl Try.call48 rfl ?_
  refine awp_seq ?_
  refine awp_region ?_
  refine aops_box rfl zFlat rfl rfl (fun b2 => ?_)
  refine aops_p (ap_assign rfl) rfl rfl rfl ?_
  refine aops_nil ?_
  refine seqQ_n ?_
  refine awp_seq ?_
  refine awp_region ?_
  refine aops_p (ap_move rfl) rfl rfl rfl ?_
  first | refine aops_q (aq_load rfl zUpd List.not_mem_nil rfl rfl zRc) rfl rfl rfl ?_ | refine aops_q (aq_load_el rfl rfl rfl rfl (fun _ h => absurd h List.not_mem_nil)) rfl rfl rfl ?_
  refine aops_call_v zRc (decl_con c) rfl rfl ?_
  refine aops_p (ap_bits rfl rfl rfl (by omega) (by omega)) rfl rfl rfl ?_
  refine aops_p (ap_cmp rfl rfl rfl) rfl rfl rfl ?_
  refine aops_p (ap_assign rfl) rfl rfl rfl ?_
  refine aops_nil ?_
  refine seqQ_n ?_
  refine awp_ret ?_
  refine post_is (.tmp rfl .nil) (by repeat (first | exact .nil | refine .cons (by first | exact .here | exact .there .here | exact .there (.there .here) | exact .there (.there (.there .here)) | exact .there (.there (.there (.there .here)))) ?_)) rfl
theorem quorum_con (c : List Mem) (s : Nat) (hs : s < 1024) : Con none Try.prog 30 [cv c, .i s] [] (Is (.b (quorumC c s)) []) := by
  have hcap : capB = 140737488355328 := rfl
  refine con_intro Try.func30 rfl Try.call30 rfl ?_
  refine awp_seq ?_
  refine awp_region ?_
  refine aops_box rfl zFlat rfl rfl (fun b2 => ?_)
  refine aops_p (ap_assign rfl) rfl rfl rfl ?_
  refine aops_nil ?_
  refine seqQ_n ?_
  refine awp_seq ?_
  refine awp_seq ?_
  refine awp_region ?_
  refine aops_p (ap_move rfl) rfl rfl rfl ?_
  refine aops_call_v zRc (validn hs) rfl rfl ?_
  refine aops_p (ap_not rfl) rfl rfl rfl ?_
  refine aops_p (ap_move rfl) rfl rfl rfl ?_
  all_goals (first | (refine aops_yes rfl rfl rfl rfl zDec ?_; (refine aops_p (ap_move rfl) rfl rfl rfl ?_)) | refine aops_no_u rfl rfl rfl ?_ | refine aops_no_f rfl rfl rfl rfl zDec ?_ | (refine aops_guard_f rfl rfl rfl rfl (fun hg => ?_) (fun hg => ?_); case' _ => (refine aops_p (ap_move rfl) rfl rfl rfl ?_)))
  all_goals (first | (refine aops_yes rfl rfl rfl rfl zDec ?_; (refine aops_p (ap_cmp rfl rfl rfl) rfl rfl rfl ?_)) | refine aops_no_u rfl rfl rfl ?_ | refine aops_no_f rfl rfl rfl rfl zDec ?_ | (refine aops_guard_f rfl rfl rfl rfl (fun hg => ?_) (fun hg => ?_); case' _ => (refine aops_p (ap_cmp rfl rfl rfl) rfl rfl rfl ?_)))
  all_goals (first | refine aops_p (ap_pick_true rfl zDec rfl) rfl rfl rfl ?_ | refine aops_p (ap_pick_false rfl zDec rfl) rfl rfl rfl ?_)
  all_goals (refine aops_p (ap_move rfl) rfl rfl rfl ?_)
  all_goals (first | (refine aops_yes rfl rfl rfl rfl zDec ?_; (first | refine aops_q (aq_load rfl zUpd List.not_mem_nil rfl rfl zRc) rfl rfl rfl ?_ | refine aops_q (aq_load_el rfl rfl rfl rfl (fun _ h => absurd h List.not_mem_nil)) rfl rfl rfl ?_)) | refine aops_no_u rfl rfl rfl ?_ | refine aops_no_f rfl rfl rfl rfl zDec ?_ | (refine aops_guard_f rfl rfl rfl rfl (fun hg => ?_) (fun hg => ?_); case' _ => (first | refine aops_q (aq_load rfl zUpd List.not_mem_nil rfl rfl zRc) rfl rfl rfl ?_ | refine aops_q (aq_load_el rfl rfl rfl rfl (fun _ h => absurd h List.not_mem_nil)) rfl rfl rfl ?_)))
  all_goals (first | (refine aops_yes rfl rfl rfl rfl zDec ?_; (refine aops_p (ap_move rfl) rfl rfl rfl ?_)) | refine aops_no_u rfl rfl rfl ?_ | refine aops_no_f rfl rfl rfl rfl zDec ?_ | (refine aops_guard_f rfl rfl rfl rfl (fun hg => ?_) (fun hg => ?_); case' _ => (refine aops_p (ap_move rfl) rfl rfl rfl ?_)))
  all_goals (first | (refine aops_yes rfl rfl rfl rfl zDec ?_; (refine aops_call_b zRc (inside_con c s hs) rfl rfl (fun c17 hc17 => ?_))) | refine aops_no_u rfl rfl rfl ?_ | refine aops_no_f rfl rfl rfl rfl zDec ?_ | (refine aops_guard_f rfl rfl rfl rfl (fun hg => ?_) (fun hg => ?_); case' _ => (refine aops_call_b zRc (inside_con c s hs) rfl rfl (fun c17 hc17 => ?_))))
  all_goals (first | (refine aops_yes rfl rfl rfl rfl zDec ?_; (refine aops_p (ap_not rfl) rfl rfl rfl ?_)) | refine aops_no_u rfl rfl rfl ?_ | refine aops_no_f rfl rfl rfl rfl zDec ?_ | (refine aops_guard_f rfl rfl rfl rfl (fun hg => ?_) (fun hg => ?_); case' _ => (refine aops_p (ap_not rfl) rfl rfl rfl ?_)))
  all_goals (first | refine aops_p (ap_pick_true rfl zDec rfl) rfl rfl rfl ?_ | refine aops_p (ap_pick_false rfl zDec rfl) rfl rfl rfl ?_)
  all_goals (
    refine aops_nil ?_
    refine seqQ_n ?_
    refine awp_cond rfl (fun hc => ?_) (fun hc => ?_)
    · first
      | (exact absurd hc (by decide))
      | (refine awp_seq ?_
         refine awp_region ?_
         refine aops_p (ap_assign rfl) rfl rfl rfl ?_
         refine aops_nil ?_
         refine seqQ_n ?_
         refine awp_ret ?_
         refine seqQ_r ?_
         refine post_is (.tmp rfl .nil) (by repeat (first | exact .nil | refine .cons (by first | exact .here | exact .there .here | exact .there (.there .here) | exact .there (.there (.there .here)) | exact .there (.there (.there (.there .here)))) ?_)) ?_
         first | (rw [quorum_f1 (hc17.trans (not_t (by with_reducible assumption)))]; rfl) | (rw [quorum_f2 (by with_reducible assumption)]; rfl)
        )
    · first
      | (exact absurd hc (by decide))
      | (have hi0 := hc17.trans (not_f hc)
         have hin := (insideC_iff hs).1 hi0
         refine awp_skip ?_
         refine seqQ_n ?_
         refine awp_seq ?_
         refine awp_region ?_
         first | refine aops_q (aq_load rfl zUpd List.not_mem_nil rfl rfl zRc) rfl rfl rfl ?_ | refine aops_q (aq_load_el rfl rfl rfl rfl (fun _ h => absurd h List.not_mem_nil)) rfl rfl rfl ?_
         refine aops_p (ap_move rfl) rfl rfl rfl ?_
         (refine aops_call zRc (unh_con c s hs hin) zSplit rfl rfl ?_; rintro _ _ ⟨k, b, rfl, hb1, hb0, rfl⟩)
         refine aops_p (ap_move rfl) rfl rfl rfl ?_
         refine aops_p (ap_extract rfl rfl) rfl rfl rfl ?_
         refine aops_p (ap_extract rfl rfl) rfl rfl rfl ?_
         refine aops_p (ap_assign rfl) rfl rfl rfl ?_
         refine aops_p (ap_assign rfl) rfl rfl rfl ?_
         refine aops_nil ?_
         refine seqQ_n ?_
         refine awp_seq ?_
         refine awp_region ?_
         refine aops_p (ap_move rfl) rfl rfl rfl ?_
         refine aops_p (ap_not rfl) rfl rfl rfl ?_
         refine aops_p (ap_assign rfl) rfl rfl rfl ?_
         refine aops_nil ?_
         refine seqQ_n ?_
         refine awp_ret ?_
         refine post_is (.tmp rfl .nil) (by repeat (first | exact .nil | refine .cons (by first | exact .here | exact .there .here | exact .there (.there .here) | exact .there (.there (.there .here)) | exact .there (.there (.there (.there .here)))) ?_)) ?_
         rw [quorum_t (by with_reducible assumption) hi0 hb1 hb0]; rfl
        )
    )
theorem rNodes_con (s : Int) : Con none Try.prog 35 [.i s] [] (Is (.sl 1 ((nodesOf s).map .i)) []) := by
  have hcap : capB = 140737488355328 := rfl
  refine con_intro Try.func35 rfl Try.call35 rfl ?_
  refine awp_seq ?_
  refine awp_region ?_
  refine aops_p (ap_assign rfl) rfl rfl rfl ?_
  refine aops_nil ?_
  refine seqQ_n ?_
  refine awp_seq ?_
  refine awp_region ?_
  refine aops_p (ap_assign rfl) rfl rfl rfl ?_
  refine aops_nil ?_
  refine seqQ_n ?_
  refine awp_seq ?_
  refine awp_seq ?_
  refine awp_region ?_
  refine aops_p (ap_assign rfl) rfl rfl rfl ?_
  refine aops_nil ?_
  refine seqQ_n ?_
  refine awp_block ?_
  refine awp_loop3 [0] [] (fun (k : Nat) (v : Value) (q : List Int) r => (3, .v v) :: (4, .i (k : Int)) :: r) (fun (k : Nat) (v : Value) (q : List Int) r => .arr v 3 1 (q.map .i) :: r) (fun (k : Nat) (v : Value) (q : List Int) => k ≤ 10 ∧ q.length ≤ k ∧ q = (upTo k).filter fun x => has s x) (fun (k : Nat) (v : Value) (q : List Int) => 10 - k) (0) (.slice none 0 0) ([]) zRc ⟨by omega, by simp, rfl⟩ ((wk_own 3 1 rfl).trans (wk zSub (by repeat (first | exact .nil | refine .cons (by first | exact .here | exact .there .here | exact .there (.there .here) | exact .there (.there (.there .here)) | exact .there (.there (.there (.there .here)))) ?_)))) ?_
  intro k v q ⟨hk, hql, hI⟩
  refine awp_seq ?_
  refine awp_seq ?_
  refine awp_region ?_
  refine aops_p (ap_move rfl) rfl rfl rfl ?_
  refine aops_p (ap_cmp rfl rfl rfl) rfl rfl rfl ?_
  refine aops_nil ?_
  refine seqQ_n ?_
  refine awp_cond rfl (fun hc => ?_) (fun hc => ?_)
  · have hlt := of_decide_eq_true hc
    refine awp_skip ?_
    refine seqQ_n ?_
    refine awp_seq ?_
    refine awp_block ?_
    refine awp_seq ?_
    refine awp_region ?_
    refine aops_p (ap_move rfl) rfl rfl rfl ?_
    refine aops_p (ap_move rfl) rfl rfl rfl ?_
    refine aops_call_b zRc (rhas_con _ _) rfl rfl (fun c11 hc11 => ?_)
    refine aops_nil ?_
    refine seqQ_n ?_
    refine awp_cond rfl (fun hc => ?_) (fun hc => ?_)
    · refine awp_region ?_
      refine aops_p (ap_move rfl) rfl rfl rfl ?_
      refine aops_p (ap_move rfl) rfl rfl rfl ?_
      refine aops_lit (e := 3) (sz := 1) (by_ := 8) rfl rfl zRc rfl rfl rfl rfl ?_
      first | refine aops_append (e := 3) (sz := 1) (by_ := 8) rfl zUpd rfl rfl rfl rfl rfl (by simp only [List.length_cons, List.length_nil, List.length_append, List.length_map, avs_len]; omega) (fun v15 hv15 => ?_) | refine aops_append_nil (e := 3) (sz := 1) (by_ := 8) rfl rfl rfl rfl rfl rfl (by simp only [List.length_cons, List.length_nil, List.length_append, List.length_map, avs_len]; omega) (fun v15 hv15 => ?_)
      refine aops_p (ap_assign rfl) rfl rfl rfl ?_
      refine aops_nil ?_
      refine blockQ_n ?_
      refine seqQ_n ?_
      refine awp_region ?_
      refine aops_p (ap_move rfl) rfl rfl rfl ?_
      refine aops_p (ap_arith rfl rfl rfl (by omega)) rfl rfl rfl ?_
      refine aops_p (ap_assign rfl) rfl rfl rfl ?_
      refine aops_nil ?_
      refine seqQ_n ?_
      first | (rw [mapi_snoc]; refine ⟨k + 1, _, q ++ [(k : Int)], ⟨by omega, by simp only [List.length_append, List.length_cons, List.length_nil]; omega, by rw [nodesTo_succ, if_pos (hc11.trans (by with_reducible assumption)), ← hI]⟩, by omega, wk zSub (by repeat (first | exact .nil | refine .cons (by first | exact .here | exact .there .here | exact .there (.there .here) | exact .there (.there (.there .here)) | exact .there (.there (.there (.there .here)))) ?_))⟩) | refine ⟨k + 1, _, q, ⟨by omega, by omega, by rw [nodesTo_succ, if_neg (by rw [hc11.trans (by with_reducible assumption)]; decide), ← hI, List.append_nil]⟩, by omega, wk zSub (by repeat (first | exact .nil | refine .cons (by first | exact .here | exact .there .here | exact .there (.there .here) | exact .there (.there (.there .here)) | exact .there (.there (.there (.there .here)))) ?_))⟩
    · refine awp_skip ?_
      refine blockQ_n ?_
      refine seqQ_n ?_
      refine awp_region ?_
      refine aops_p (ap_move rfl) rfl rfl rfl ?_
      refine aops_p (ap_arith rfl rfl rfl (by omega)) rfl rfl rfl ?_
      refine aops_p (ap_assign rfl) rfl rfl rfl ?_
      refine aops_nil ?_
      refine seqQ_n ?_
      first | (rw [mapi_snoc]; refine ⟨k + 1, _, q ++ [(k : Int)], ⟨by omega, by simp only [List.length_append, List.length_cons, List.length_nil]; omega, by rw [nodesTo_succ, if_pos (hc11.trans (by with_reducible assumption)), ← hI]⟩, by omega, wk zSub (by repeat (first | exact .nil | refine .cons (by first | exact .here | exact .there .here | exact .there (.there .here) | exact .there (.there (.there .here)) | exact .there (.there (.there (.there .here)))) ?_))⟩) | refine ⟨k + 1, _, q, ⟨by omega, by omega, by rw [nodesTo_succ, if_neg (by rw [hc11.trans (by with_reducible assumption)]; decide), ← hI, List.append_nil]⟩, by omega, wk zSub (by repeat (first | exact .nil | refine .cons (by first | exact .here | exact .there .here | exact .there (.there .here) | exact .there (.there (.there .here)) | exact .there (.there (.there (.there .here)))) ?_))⟩
  · have hge := of_decide_eq_false hc
    obtain rfl : k = 10 := by omega
    refine awp_exit ?_
    refine seqQ_x ?_
    refine seqQ_x ?_
    refine blockQ_x rfl ?_
    refine seqQ_n ?_
    refine awp_seq ?_
    refine awp_freeze v [3] (by repeat (first | exact .here | apply Rem.there)) (by repeat (first | exact .nil | apply SelC.cons rfl (by first | exact Cv.fz | (apply Cv.agg; repeat (first | exact CvL.nil | apply CvL.cons (by first | exact Cv.fz | exact Cv.same))) | exact Cv.same))) (by repeat (first | exact .nil | apply HeapA.box (by repeat (first | exact CvL.nil | apply CvL.cons (by first | exact Cv.fz | exact Cv.same))) | apply HeapA.arr)) ?_
    refine awp_region ?_
    refine aops_p (ap_move rfl) rfl rfl rfl ?_
    refine aops_p (ap_assign rfl) rfl rfl rfl ?_
    refine aops_nil ?_
    refine seqQ_n ?_
    refine awp_ret ?_
    refine post_is (.tmp rfl .nil) (by repeat (first | exact .nil | refine .cons (by first | exact .here | exact .there .here | exact .there (.there .here) | exact .there (.there (.there .here)) | exact .there (.there (.there (.there .here)))) ?_)) ?_
    rw [hI]; rfl
theorem rdecl_con (c : List Mem) : Con none Try.prog 34 [cv c] [] (Is (.i (declC c : Int)) []) := by
  have hcap : capB = 140737488355328 := rfl
  have hl1 : (c.map mv).length = c.length := by simp
  refine con_intro Try.func34 rfl Try.call34 rfl ?_
  refine awp_seq ?_
  refine awp_region ?_
  refine aops_box rfl zFlat rfl rfl (fun b1 => ?_)
  refine aops_p (ap_assign rfl) rfl rfl rfl ?_
  refine aops_nil ?_
  refine seqQ_n ?_
  refine awp_seq ?_
  refine awp_region ?_
  refine aops_p (ap_assign rfl) rfl rfl rfl ?_
  refine aops_nil ?_
  refine seqQ_n ?_
  refine awp_seq ?_
  refine awp_seq ?_
  refine awp_region ?_
  first | refine aops_p (ap_fieldAddr (off := 0) (sz := 1) (g := false) rfl rfl) rfl rfl rfl ?_ | refine aops_p (ap_fieldAddr_el (off := 0) (sz := 1) (g := false) rfl rfl zRc) rfl rfl rfl ?_
  first | refine aops_q (aq_load1 rfl zUpd List.not_mem_nil rfl zRc) rfl rfl rfl ?_ | refine aops_q (aq_load_el1 rfl rfl zScal (fun _ h => absurd h List.not_mem_nil)) rfl rfl rfl ?_ | refine aops_q (aq_load_el1' rfl rfl zScal (fun _ h => absurd h List.not_mem_nil)) rfl rfl rfl ?_ | refine aops_q (aq_load_own1 rfl zUpd List.not_mem_nil rfl zAss zScal) rfl rfl rfl ?_
  first | refine aops_len rfl rfl rfl rfl (fun _ => ?_) | refine aops_p (ap_len_arr rfl zUpd rfl) rfl rfl rfl ?_ | refine aops_p (ap_len_nil rfl rfl) rfl rfl rfl ?_
  refine aops_p (ap_move rfl) rfl rfl rfl ?_
  refine aops_nil ?_
  refine seqQ_n ?_
  refine awp_block ?_
  refine awp_loop2 [7, 8] [] (fun (k : Nat) (s : Nat) r => (3, .i (s : Int)) :: (9, .i (k : Int)) :: r) (fun (k : Nat) (s : Nat) r => r) (fun (k : Nat) (s : Nat) => k ≤ c.length ∧ s < 1024 ∧ declGo s k (c.drop k) = declC c) (fun (k : Nat) (s : Nat) => c.length - k) (0) (0) zRc ⟨by omega, by omega, by simp [declC]⟩ (wk zSub (by repeat (first | exact .nil | refine .cons (by first | exact .here | exact .there .here | exact .there (.there .here) | exact .there (.there (.there .here)) | exact .there (.there (.there (.there .here)))) ?_))) ?_
  intro k s ⟨hk, hs, hI⟩
  refine awp_seq ?_
  refine awp_region ?_
  refine aops_p (ap_cmp rfl rfl rfl) rfl rfl rfl ?_
  refine aops_nil ?_
  refine seqQ_n ?_
  refine awp_seq ?_
  refine awp_cond rfl (fun hc => ?_) (fun hc => ?_)
  · have hlt := of_decide_eq_true hc
    obtain ⟨x, hx, hd⟩ := drop_cons (l := c) (k := k) (by omega)
    have hx' := getMap mv hx
    refine awp_skip ?_
    refine seqQ_n ?_
    refine awp_seq ?_
    refine awp_block ?_
    refine awp_seq ?_
    refine awp_region ?_
    refine aops_p (ap_move rfl) rfl rfl rfl ?_
    first | refine aops_p (ap_index rfl rfl rfl rfl (by decide) rfl zAss) rfl rfl rfl ?_ | refine aops_p (ap_index rfl rfl rfl rfl (by decide) (by omega) zAss) rfl rfl rfl ?_ | refine aops_p (ap_index_own rfl rfl rfl rfl rfl (by first | omega | (simp only [List.length_map, List.length_set, avs_len]; omega))) rfl rfl rfl ?_
    first | refine aops_q (aq_load rfl zUpd List.not_mem_nil rfl rfl zRc) rfl rfl rfl ?_ | refine aops_q (aq_load_el rfl rfl rfl rfl (fun _ h => absurd h List.not_mem_nil)) rfl rfl rfl ?_
    refine aops_alloc rfl zRc rfl rfl (fun b5 => ?_)
    refine aops_p (ap_assign rfl) rfl rfl rfl ?_
    first | refine aops_store rfl rfl zFlat zUpd rfl zRc ?_ | refine aops_store_own1 rfl rfl zScal zUpd rfl (by simp only [List.length_set, List.length_map]; omega) ?_
    refine aops_nil ?_
    refine seqQ_n ?_
    refine awp_seq ?_
    refine awp_region ?_
    refine aops_p (ap_move rfl) rfl rfl rfl ?_
    refine aops_p (ap_cmp rfl rfl rfl) rfl rfl rfl ?_
    refine aops_p (ap_move rfl) rfl rfl rfl ?_
    all_goals (first | (refine aops_yes rfl rfl rfl rfl zDec ?_; (first | refine aops_p (ap_fieldAddr (off := 0) (sz := 1) (g := false) rfl rfl) rfl rfl rfl ?_ | refine aops_p (ap_fieldAddr_el (off := 0) (sz := 1) (g := false) rfl rfl zRc) rfl rfl rfl ?_)) | refine aops_no_u rfl rfl rfl ?_ | refine aops_no_t rfl rfl rfl rfl zDec ?_ | (refine aops_guard_t rfl rfl rfl rfl (fun hg => ?_) (fun hg => ?_); case' _ => (first | refine aops_p (ap_fieldAddr (off := 0) (sz := 1) (g := false) rfl rfl) rfl rfl rfl ?_ | refine aops_p (ap_fieldAddr_el (off := 0) (sz := 1) (g := false) rfl rfl zRc) rfl rfl rfl ?_)))
    all_goals (first | (refine aops_yes rfl rfl rfl rfl zDec ?_; (first | refine aops_q (aq_load1 rfl zUpd List.not_mem_nil rfl zRc) rfl rfl rfl ?_ | refine aops_q (aq_load_el1 rfl rfl zScal (fun _ h => absurd h List.not_mem_nil)) rfl rfl rfl ?_ | refine aops_q (aq_load_el1' rfl rfl zScal (fun _ h => absurd h List.not_mem_nil)) rfl rfl rfl ?_ | refine aops_q (aq_load_own1 rfl zUpd List.not_mem_nil rfl zAss zScal) rfl rfl rfl ?_)) | refine aops_no_u rfl rfl rfl ?_ | refine aops_no_t rfl rfl rfl rfl zDec ?_ | (refine aops_guard_t rfl rfl rfl rfl (fun hg => ?_) (fun hg => ?_); case' _ => (first | refine aops_q (aq_load1 rfl zUpd List.not_mem_nil rfl zRc) rfl rfl rfl ?_ | refine aops_q (aq_load_el1 rfl rfl zScal (fun _ h => absurd h List.not_mem_nil)) rfl rfl rfl ?_ | refine aops_q (aq_load_el1' rfl rfl zScal (fun _ h => absurd h List.not_mem_nil)) rfl rfl rfl ?_ | refine aops_q (aq_load_own1 rfl zUpd List.not_mem_nil rfl zAss zScal) rfl rfl rfl ?_)))
    all_goals (first | refine aops_p (ap_pick_true rfl zDec rfl) rfl rfl rfl ?_ | refine aops_p (ap_pick_false rfl zDec rfl) rfl rfl rfl ?_)
    all_goals (
      refine aops_nil ?_
      refine seqQ_n ?_
      refine awp_cond rfl (fun hc => ?_) (fun hc => ?_)
      · first
        | (exact absurd hc (by decide))
        | (first | (have h10 := of_decide_eq_true hg; have hp := pow_lt10 (k := k) (by omega)) | exact absurd hc (by decide)
           refine awp_region ?_
           refine aops_p (ap_move rfl) rfl rfl rfl ?_
           refine aops_p (ap_move rfl) rfl rfl rfl ?_
           refine aops_p (ap_shl (p := 1) rfl rfl rfl (by omega) (by omega)) rfl rfl rfl ?_
           refine aops_p (ap_bits rfl rfl rfl (by omega) (by omega)) rfl rfl rfl ?_
           refine aops_p (ap_assign rfl) rfl rfl rfl ?_
           refine aops_nil ?_
           refine blockQ_n ?_
           refine seqQ_n ?_
           refine awp_region ?_
           refine aops_p (ap_arith rfl rfl rfl (by omega)) rfl rfl rfl ?_
           refine aops_p (ap_move rfl) rfl rfl rfl ?_
           refine aops_nil ?_
           refine seqQ_n ?_
           rw [hd] at hI; simp only [declGo] at hI
           first | (rw [if_pos (by rw [show x.decl = true by with_reducible assumption, show decide ((k : Int) < 10) = true by with_reducible assumption]; rfl)] at hI; refine ⟨k + 1, s ||| 2 ^ k, ⟨by omega, Nat.or_lt_two_pow (n := 10) hs (pow_lt10 (by have := of_decide_eq_true (show decide ((k : Int) < 10) = true by with_reducible assumption); omega)), hI⟩, by omega, ?_⟩; rw [Nat.one_mul]; exact (wk zSub (by repeat (first | exact .nil | refine .cons (by first | exact .here | exact .there .here | exact .there (.there .here) | exact .there (.there (.there .here)) | exact .there (.there (.there (.there .here)))) ?_)))) | (rw [if_neg (by first | (rw [show x.decl = false by with_reducible assumption]; simp; done) | (rw [show decide ((k : Int) < 10) = false by with_reducible assumption]; simp; done))] at hI; refine ⟨k + 1, s, ⟨by omega, hs, hI⟩, by omega, wk zSub (by repeat (first | exact .nil | refine .cons (by first | exact .here | exact .there .here | exact .there (.there .here) | exact .there (.there (.there .here)) | exact .there (.there (.there (.there .here)))) ?_))⟩)
          )
      · first
        | (exact absurd hc (by decide))
        | (refine awp_skip ?_
           refine blockQ_n ?_
           refine seqQ_n ?_
           refine awp_region ?_
           refine aops_p (ap_arith rfl rfl rfl (by omega)) rfl rfl rfl ?_
           refine aops_p (ap_move rfl) rfl rfl rfl ?_
           refine aops_nil ?_
           refine seqQ_n ?_
           rw [hd] at hI; simp only [declGo] at hI
           first | (rw [if_pos (by rw [show x.decl = true by with_reducible assumption, show decide ((k : Int) < 10) = true by with_reducible assumption]; rfl)] at hI; refine ⟨k + 1, s ||| 2 ^ k, ⟨by omega, Nat.or_lt_two_pow (n := 10) hs (pow_lt10 (by have := of_decide_eq_true (show decide ((k : Int) < 10) = true by with_reducible assumption); omega)), hI⟩, by omega, ?_⟩; rw [Nat.one_mul]; exact (wk zSub (by repeat (first | exact .nil | refine .cons (by first | exact .here | exact .there .here | exact .there (.there .here) | exact .there (.there (.there .here)) | exact .there (.there (.there (.there .here)))) ?_)))) | (rw [if_neg (by first | (rw [show x.decl = false by with_reducible assumption]; simp; done) | (rw [show decide ((k : Int) < 10) = false by with_reducible assumption]; simp; done))] at hI; refine ⟨k + 1, s, ⟨by omega, hs, hI⟩, by omega, wk zSub (by repeat (first | exact .nil | refine .cons (by first | exact .here | exact .there .here | exact .there (.there .here) | exact .there (.there (.there .here)) | exact .there (.there (.there (.there .here)))) ?_))⟩)
          )
      )
  · have hge := of_decide_eq_false hc
    rw [drop_nil (by omega)] at hI; simp only [declGo] at hI
    refine awp_exit ?_
    refine seqQ_x ?_
    refine seqQ_x ?_
    refine blockQ_x rfl ?_
    refine seqQ_n ?_
    refine awp_seq ?_
    refine awp_region ?_
    refine aops_p (ap_move rfl) rfl rfl rfl ?_
    refine aops_p (ap_assign rfl) rfl rfl rfl ?_
    refine aops_nil ?_
    refine seqQ_n ?_
    refine awp_ret ?_
    refine post_is (.tmp rfl .nil) (by repeat (first | exact .nil | refine .cons (by first | exact .here | exact .there .here | exact .there (.there .here) | exact .there (.there (.there .here)) | exact .there (.there (.there (.there .here)))) ?_)) ?_
    rw [← hI]; rfl
theorem badN_nd (k : Int) : (!nd k) = badN k := by
  unfold nd badN
  by_cases h1 : 0 ≤ k <;> by_cases h2 : k < 10 <;> simp [h1, h2] <;> omega
theorem any_cons_f {p : Int → Bool} {x : Int} {r : List Int} (h : p x = false) : (x :: r).any p = r.any p := by simp [h]
theorem any_cons_t {p : Int → Bool} {x : Int} {r : List Int} (h : p x = true) : (x :: r).any p = true := by simp [h]
theorem of_con (l : List Int) : Con none Try.prog 73 [.sl 1 (l.map .i)] [] (Is (.tup [.i (ofGo 0 l).1, .i (ofGo 0 l).2]) []) := by
  have hcap : capB = 140737488355328 := rfl
  have hl1 : (l.map D.i).length = l.length := by simp
  refine con_intro Try.func73 rfl Try.call73 rfl ?_
  refine awp_seq ?_
  refine awp_region ?_
  refine aops_p (ap_assign rfl) rfl rfl rfl ?_
  refine aops_p (ap_assign rfl) rfl rfl rfl ?_
  refine aops_nil ?_
  refine seqQ_n ?_
  refine awp_seq ?_
  refine awp_region ?_
  refine aops_p (ap_assign rfl) rfl rfl rfl ?_
  refine aops_nil ?_
  refine seqQ_n ?_
  refine awp_seq ?_
  refine awp_seq ?_
  refine awp_region ?_
  refine aops_p (ap_move rfl) rfl rfl rfl ?_
  first | refine aops_len rfl rfl rfl rfl (fun _ => ?_) | refine aops_p (ap_len_arr rfl zUpd rfl) rfl rfl rfl ?_ | refine aops_p (ap_len_nil rfl rfl) rfl rfl rfl ?_
  refine aops_p (ap_move rfl) rfl rfl rfl ?_
  refine aops_nil ?_
  refine seqQ_n ?_
  refine awp_block ?_
  refine awp_loop2 [7, 8] [] (fun (k : Nat) (s : Nat) r => (4, .i (s : Int)) :: (9, .i (k : Int)) :: r) (fun (k : Nat) (s : Nat) r => r) (fun (k : Nat) (s : Nat) => k ≤ l.length ∧ s < 1024 ∧ ofGo s (l.drop k) = ofGo 0 l) (fun (k : Nat) (s : Nat) => l.length - k) (0) (0) zRc ⟨by omega, by omega, by simp⟩ (wk zSub (by repeat (first | exact .nil | refine .cons (by first | exact .here | exact .there .here | exact .there (.there .here) | exact .there (.there (.there .here)) | exact .there (.there (.there (.there .here)))) ?_))) ?_
  intro k s ⟨hk, hs, hI⟩
  refine awp_seq ?_
  refine awp_region ?_
  refine aops_p (ap_cmp rfl rfl rfl) rfl rfl rfl ?_
  refine aops_nil ?_
  refine seqQ_n ?_
  refine awp_seq ?_
  refine awp_cond rfl (fun hc => ?_) (fun hc => ?_)
  · have hlt : k < l.length := by have := of_decide_eq_true hc; omega
    obtain ⟨x, hx, hd⟩ := drop_cons hlt
    have hx' := getMap D.i hx
    refine awp_skip ?_
    refine seqQ_n ?_
    refine awp_seq ?_
    refine awp_block ?_
    refine awp_seq ?_
    refine awp_region ?_
    first | refine aops_p (ap_index rfl rfl rfl rfl (by decide) rfl zAss) rfl rfl rfl ?_ | refine aops_p (ap_index rfl rfl rfl rfl (by decide) (by omega) zAss) rfl rfl rfl ?_ | refine aops_p (ap_index_own rfl rfl rfl rfl rfl (by first | omega | (simp only [List.length_map, List.length_set, avs_len]; omega))) rfl rfl rfl ?_
    first | refine aops_q (aq_load1 rfl zUpd List.not_mem_nil rfl zRc) rfl rfl rfl ?_ | refine aops_q (aq_load_el1 rfl rfl zScal (fun _ h => absurd h List.not_mem_nil)) rfl rfl rfl ?_ | refine aops_q (aq_load_el1' rfl rfl zScal (fun _ h => absurd h List.not_mem_nil)) rfl rfl rfl ?_ | refine aops_q (aq_load_own1 rfl zUpd List.not_mem_nil rfl zAss zScal) rfl rfl rfl ?_
    refine aops_p (ap_assign rfl) rfl rfl rfl ?_
    refine aops_nil ?_
    refine seqQ_n ?_
    refine awp_seq ?_
    refine awp_seq ?_
    refine awp_region ?_
    refine aops_p (ap_move rfl) rfl rfl rfl ?_
    refine aops_p (ap_cmp rfl rfl rfl) rfl rfl rfl ?_
    refine aops_p (ap_move rfl) rfl rfl rfl ?_
    all_goals (first | (refine aops_yes rfl rfl rfl rfl zDec ?_; (refine aops_p (ap_move rfl) rfl rfl rfl ?_)) | refine aops_no_u rfl rfl rfl ?_ | refine aops_no_f rfl rfl rfl rfl zDec ?_ | (refine aops_guard_f rfl rfl rfl rfl (fun hg => ?_) (fun hg => ?_); case' _ => (refine aops_p (ap_move rfl) rfl rfl rfl ?_)))
    all_goals (first | (refine aops_yes rfl rfl rfl rfl zDec ?_; (refine aops_p (ap_cmp rfl rfl rfl) rfl rfl rfl ?_)) | refine aops_no_u rfl rfl rfl ?_ | refine aops_no_f rfl rfl rfl rfl zDec ?_ | (refine aops_guard_f rfl rfl rfl rfl (fun hg => ?_) (fun hg => ?_); case' _ => (refine aops_p (ap_cmp rfl rfl rfl) rfl rfl rfl ?_)))
    all_goals (first | refine aops_p (ap_pick_true rfl zDec rfl) rfl rfl rfl ?_ | refine aops_p (ap_pick_false rfl zDec rfl) rfl rfl rfl ?_)
    all_goals (
      refine aops_nil ?_
      refine seqQ_n ?_
      refine awp_cond rfl (fun hc => ?_) (fun hc => ?_)
      · first
        | (exact absurd hc (by decide))
        | (refine awp_seq ?_
           refine awp_region ?_
           refine aops_p (ap_assign rfl) rfl rfl rfl ?_
           refine aops_p (ap_assign rfl) rfl rfl rfl ?_
           refine aops_nil ?_
           refine seqQ_n ?_
           refine awp_ret ?_
           refine seqQ_r ?_
           refine blockQ_r ?_
           refine seqQ_r ?_
           refine seqQ_r ?_
           refine blockQ_r ?_
           refine seqQ_r ?_
           refine post_is (.tmp rfl (.tmp rfl .nil)) .nil ?_
           rw [hd, ofGo, if_pos (by first | (have := of_decide_eq_true hg; omega) | (have := of_decide_eq_true hc; omega))] at hI
           rw [← hI]; rfl
          )
      · first
        | (exact absurd hc (by decide))
        | (have hc2 := hc
           refine awp_skip ?_
           refine seqQ_n ?_
           refine awp_seq ?_
           refine awp_seq ?_
           refine awp_region ?_
           refine aops_p (ap_move rfl) rfl rfl rfl ?_
           refine aops_p (ap_move rfl) rfl rfl rfl ?_
           refine aops_call_v zRc (has_con _ _) rfl rfl ?_
           refine aops_nil ?_
           refine seqQ_n ?_
           refine awp_cond rfl (fun hc => ?_) (fun hc => ?_)
           · refine awp_seq ?_
             refine awp_region ?_
             refine aops_p (ap_assign rfl) rfl rfl rfl ?_
             refine aops_p (ap_assign rfl) rfl rfl rfl ?_
             refine aops_nil ?_
             refine seqQ_n ?_
             refine awp_ret ?_
             refine seqQ_r ?_
             refine blockQ_r ?_
             refine seqQ_r ?_
             refine seqQ_r ?_
             refine blockQ_r ?_
             refine seqQ_r ?_
             refine post_is (.tmp rfl (.tmp rfl .nil)) .nil ?_
             have h3 := of_decide_eq_false hg
             have h4 := of_decide_eq_false hc2
             rw [hd, ofGo, if_neg (by omega), if_pos hc] at hI
             rw [← hI]; rfl
           · refine awp_skip ?_
             refine seqQ_n ?_
             obtain ⟨q, rfl, hq⟩ := badN_f hg hc2
             have hp2 := pow_lt10 hq
             refine awp_region ?_
             refine aops_p (ap_move rfl) rfl rfl rfl ?_
             refine aops_p (ap_move rfl) rfl rfl rfl ?_
             refine aops_p (ap_shl (p := 1) rfl rfl rfl (by omega) (by omega)) rfl rfl rfl ?_
             refine aops_p (ap_bits rfl rfl rfl (by omega) (by omega)) rfl rfl rfl ?_
             refine aops_p (ap_assign rfl) rfl rfl rfl ?_
             refine aops_nil ?_
             refine blockQ_n ?_
             refine seqQ_n ?_
             refine awp_region ?_
             refine aops_p (ap_arith rfl rfl rfl (by omega)) rfl rfl rfl ?_
             refine aops_p (ap_move rfl) rfl rfl rfl ?_
             refine aops_nil ?_
             refine seqQ_n ?_
             rw [hd, ofGo, if_neg (by omega), if_neg (by simp [hc])] at hI
             refine ⟨k + 1, s ||| 1 * 2 ^ q, ⟨by omega, or_lt10 hs hq, ?_⟩, by omega, wk zSub (by repeat (first | exact .nil | refine .cons (by first | exact .here | exact .there .here | exact .there (.there .here) | exact .there (.there (.there .here)) | exact .there (.there (.there (.there .here)))) ?_))⟩
             simpa using hI
          )
      )
  · have hge : l.length ≤ k := by have := of_decide_eq_false hc; omega
    rw [drop_nil hge] at hI; simp only [ofGo] at hI
    refine awp_exit ?_
    refine seqQ_x ?_
    refine seqQ_x ?_
    refine blockQ_x rfl ?_
    refine seqQ_n ?_
    refine awp_seq ?_
    refine awp_region ?_
    refine aops_p (ap_move rfl) rfl rfl rfl ?_
    refine aops_p (ap_assign rfl) rfl rfl rfl ?_
    refine aops_p (ap_assign rfl) rfl rfl rfl ?_
    refine aops_nil ?_
    refine seqQ_n ?_
    refine awp_ret ?_
    refine post_is (.tmp rfl (.tmp rfl .nil)) .nil ?_
    rw [← hI]; rfl
theorem indexF_con (f : FuncId) (p : Int → Bool) (hf : ∀ k : Int, Con none Try.prog f [.i k] [] (Is (.b (p k)) [])) (l : List Int) : Con none Try.prog 74 [.sl 1 (l.map .i), .v (.func (.func f) #[] #[])] [] (fun d H => ∃ r : Int, d = .i r ∧ decide (0 ≤ r) = l.any p ∧ H = []) := by
  have hcap : capB = 140737488355328 := rfl
  have hl1 : (l.map D.i).length = l.length := by simp
  refine con_intro Try.func74 rfl Try.call74 rfl ?_
  refine awp_seq ?_
  refine awp_region ?_
  refine aops_p (ap_assign rfl) rfl rfl rfl ?_
  refine aops_nil ?_
  refine seqQ_n ?_
  refine awp_seq ?_
  refine awp_seq ?_
  refine awp_region ?_
  refine aops_p (ap_move rfl) rfl rfl rfl ?_
  first | refine aops_len rfl rfl rfl rfl (fun _ => ?_) | refine aops_p (ap_len_arr rfl zUpd rfl) rfl rfl rfl ?_ | refine aops_p (ap_len_nil rfl rfl) rfl rfl rfl ?_
  refine aops_p (ap_move rfl) rfl rfl rfl ?_
  refine aops_nil ?_
  refine seqQ_n ?_
  refine awp_block ?_
  refine awp_loop1 [0, 1, 7] [] (fun (k : Nat) r => (8, .i (k : Int)) :: r) (fun (k : Nat) r => r) (fun (k : Nat) => k ≤ l.length ∧ (l.drop k).any p = l.any p) (fun (k : Nat) => l.length - k) (0) zRc ⟨by omega, by simp⟩ (wk zSub (by repeat (first | exact .nil | refine .cons (by first | exact .here | exact .there .here | exact .there (.there .here) | exact .there (.there (.there .here)) | exact .there (.there (.there (.there .here)))) ?_))) ?_
  intro k ⟨hk, hI⟩
  refine awp_seq ?_
  refine awp_region ?_
  refine aops_p (ap_cmp rfl rfl rfl) rfl rfl rfl ?_
  refine aops_nil ?_
  refine seqQ_n ?_
  refine awp_seq ?_
  refine awp_cond rfl (fun hc => ?_) (fun hc => ?_)
  · have hlt : k < l.length := by have := of_decide_eq_true hc; omega
    obtain ⟨x, hx, hd⟩ := drop_cons hlt
    have hx' := getMap D.i hx
    rw [hd] at hI
    refine awp_skip ?_
    refine seqQ_n ?_
    refine awp_seq ?_
    refine awp_block ?_
    refine awp_seq ?_
    refine awp_region ?_
    refine aops_p (ap_move rfl) rfl rfl rfl ?_
    refine aops_p (ap_assign rfl) rfl rfl rfl ?_
    refine aops_nil ?_
    refine seqQ_n ?_
    refine awp_seq ?_
    refine awp_region ?_
    refine aops_p (ap_move rfl) rfl rfl rfl ?_
    refine aops_p (ap_move rfl) rfl rfl rfl ?_
    refine aops_p (ap_move rfl) rfl rfl rfl ?_
    first | refine aops_p (ap_index rfl rfl rfl rfl (by decide) rfl zAss) rfl rfl rfl ?_ | refine aops_p (ap_index rfl rfl rfl rfl (by decide) (by omega) zAss) rfl rfl rfl ?_ | refine aops_p (ap_index_own rfl rfl rfl rfl rfl (by first | omega | (simp only [List.length_map, List.length_set, avs_len]; omega))) rfl rfl rfl ?_
    first | refine aops_q (aq_load1 rfl zUpd List.not_mem_nil rfl zRc) rfl rfl rfl ?_ | refine aops_q (aq_load_el1 rfl rfl zScal (fun _ h => absurd h List.not_mem_nil)) rfl rfl rfl ?_ | refine aops_q (aq_load_el1' rfl rfl zScal (fun _ h => absurd h List.not_mem_nil)) rfl rfl rfl ?_ | refine aops_q (aq_load_own1 rfl zUpd List.not_mem_nil rfl zAss zScal) rfl rfl rfl ?_
    refine aops_callv_b (caps := []) rfl zRc (hf x) rfl rfl (fun c16 hc16 => ?_)
    refine aops_nil ?_
    refine seqQ_n ?_
    refine awp_cond rfl (fun hc => ?_) (fun hc => ?_)
    · refine awp_seq ?_
      refine awp_region ?_
      refine aops_p (ap_move rfl) rfl rfl rfl ?_
      refine aops_p (ap_assign rfl) rfl rfl rfl ?_
      refine aops_nil ?_
      refine seqQ_n ?_
      refine awp_ret ?_
      refine blockQ_r ?_
      refine seqQ_r ?_
      refine seqQ_r ?_
      refine blockQ_r ?_
      refine seqQ_r ?_
      refine post_ret (.tmp rfl .nil) (by repeat (first | exact .nil | refine .cons (by first | exact .here | exact .there .here | exact .there (.there .here) | exact .there (.there (.there .here)) | exact .there (.there (.there (.there .here)))) ?_)) ⟨_, rfl, ?_, rfl⟩
      rw [any_cons_t (hc16.trans hc)] at hI
      rw [← hI]; exact decide_eq_true (by omega)
    · refine awp_skip ?_
      refine blockQ_n ?_
      refine seqQ_n ?_
      refine awp_region ?_
      refine aops_p (ap_arith rfl rfl rfl (by omega)) rfl rfl rfl ?_
      refine aops_p (ap_move rfl) rfl rfl rfl ?_
      refine aops_nil ?_
      refine seqQ_n ?_
      rw [any_cons_f (hc16.trans hc)] at hI
      refine ⟨k + 1, ⟨by omega, hI⟩, by omega, wk zSub (by repeat (first | exact .nil | refine .cons (by first | exact .here | exact .there .here | exact .there (.there .here) | exact .there (.there (.there .here)) | exact .there (.there (.there (.there .here)))) ?_))⟩
  · have hge : l.length ≤ k := by have := of_decide_eq_false hc; omega
    rw [drop_nil hge] at hI
    refine awp_exit ?_
    refine seqQ_x ?_
    refine seqQ_x ?_
    refine blockQ_x rfl ?_
    refine seqQ_n ?_
    refine awp_seq ?_
    refine awp_region ?_
    refine aops_p (ap_assign rfl) rfl rfl rfl ?_
    refine aops_nil ?_
    refine seqQ_n ?_
    refine awp_ret ?_
    refine post_ret (.tmp rfl .nil) (by repeat (first | exact .nil | refine .cons (by first | exact .here | exact .there .here | exact .there (.there .here) | exact .there (.there (.there .here)) | exact .there (.there (.there (.there .here)))) ?_)) ⟨_, rfl, ?_, rfl⟩
    rw [← hI]; rfl
theorem containsF_con (f : FuncId) (p : Int → Bool) (hf : ∀ k : Int, Con none Try.prog f [.i k] [] (Is (.b (p k)) [])) (l : List Int) : Con none Try.prog 71 [.sl 1 (l.map .i), .v (.func (.func f) #[] #[])] [] (Is (.b (l.any p)) []) := by
  have hcap : capB = 140737488355328 := rfl
  refine con_intro Try.func71 rfl Try.call71 rfl ?_
  refine awp_seq ?_
  refine awp_region ?_
  refine aops_p (ap_assign rfl) rfl rfl rfl ?_
  refine aops_nil ?_
  refine seqQ_n ?_
  refine awp_seq ?_
  refine awp_region ?_
  refine aops_p (ap_move rfl) rfl rfl rfl ?_
  refine aops_p (ap_move rfl) rfl rfl rfl ?_
  (refine aops_call zRc (indexF_con f p hf l) zSplit rfl rfl ?_; rintro _ _ ⟨r, rfl, hr, rfl⟩)
  refine aops_p (ap_cmp rfl rfl rfl) rfl rfl rfl ?_
  refine aops_p (ap_assign rfl) rfl rfl rfl ?_
  refine aops_nil ?_
  refine seqQ_n ?_
  refine awp_ret ?_
  refine post_is (.tmp rfl .nil) (by repeat (first | exact .nil | refine .cons (by first | exact .here | exact .there .here | exact .there (.there .here) | exact .there (.there (.there .here)) | exact .there (.there (.there (.there .here)))) ?_)) ?_
  rw [← hr]; rfl
theorem lev1_con (k : Int) : Con none Try.prog 72 [.i k] [] (Is (.b (badN k)) []) := by
  have hcap : capB = 140737488355328 := rfl
  refine con_intro Try.func72 rfl Try.call72 rfl ?_
  refine awp_seq ?_
  refine awp_region ?_
  refine aops_p (ap_assign rfl) rfl rfl rfl ?_
  refine aops_nil ?_
  refine seqQ_n ?_
  refine awp_seq ?_
  refine awp_region ?_
  refine aops_p (ap_move rfl) rfl rfl rfl ?_
  refine aops_call_v zRc (node_con _) rfl rfl ?_
  refine aops_p (ap_not rfl) rfl rfl rfl ?_
  refine aops_p (ap_assign rfl) rfl rfl rfl ?_
  refine aops_nil ?_
  refine seqQ_n ?_
  refine awp_ret ?_
  refine post_is (.tmp rfl .nil) (by repeat (first | exact .nil | refine .cons (by first | exact .here | exact .there .here | exact .there (.there .here) | exact .there (.there (.there .here)) | exact .there (.there (.there (.there .here)))) ?_)) ?_
  rw [← badN_nd]; rfl
theorem level_con : ∀ (t : Trust), Con none Try.prog 69 [av t] [] (Is (.i (checkT t)) []) := by
  have hcap : capB = 140737488355328 := rfl
  intro t
  induction t using Trust.ind with
  | _ t ih =>
    have hl1 : (t.nodes.map D.i).length = t.nodes.length := by simp
    have hl2 := avs_len t.inner
    refine con_intro Try.func69 rfl Try.call69 rfl ?_
    refine awp_seq ?_
    refine awp_region ?_
    refine aops_box rfl zFlat rfl rfl (fun b1 => ?_)
    refine aops_p (ap_assign rfl) rfl rfl rfl ?_
    refine aops_nil ?_
    refine seqQ_n ?_
    refine awp_seq ?_
    refine awp_seq ?_
    refine awp_region ?_
    first | refine aops_p (ap_fieldAddr (off := 0) (sz := 1) (g := false) rfl rfl) rfl rfl rfl ?_ | refine aops_p (ap_fieldAddr_el (off := 0) (sz := 1) (g := false) rfl rfl zRc) rfl rfl rfl ?_
    first | refine aops_q (aq_load1 rfl zUpd List.not_mem_nil rfl zRc) rfl rfl rfl ?_ | refine aops_q (aq_load_el1 rfl rfl zScal (fun _ h => absurd h List.not_mem_nil)) rfl rfl rfl ?_ | refine aops_q (aq_load_el1' rfl rfl zScal (fun _ h => absurd h List.not_mem_nil)) rfl rfl rfl ?_ | refine aops_q (aq_load_own1 rfl zUpd List.not_mem_nil rfl zAss zScal) rfl rfl rfl ?_
    refine aops_p (ap_cmp rfl rfl rfl) rfl rfl rfl ?_
    refine aops_p (ap_move rfl) rfl rfl rfl ?_
    all_goals (first | (refine aops_yes rfl rfl rfl rfl zDec ?_; (first | refine aops_p (ap_fieldAddr (off := 0) (sz := 1) (g := false) rfl rfl) rfl rfl rfl ?_ | refine aops_p (ap_fieldAddr_el (off := 0) (sz := 1) (g := false) rfl rfl zRc) rfl rfl rfl ?_)) | refine aops_no_u rfl rfl rfl ?_ | refine aops_no_f rfl rfl rfl rfl zDec ?_ | (refine aops_guard_f rfl rfl rfl rfl (fun hg => ?_) (fun hg => ?_); case' _ => (first | refine aops_p (ap_fieldAddr (off := 0) (sz := 1) (g := false) rfl rfl) rfl rfl rfl ?_ | refine aops_p (ap_fieldAddr_el (off := 0) (sz := 1) (g := false) rfl rfl zRc) rfl rfl rfl ?_)))
    all_goals (first | (refine aops_yes rfl rfl rfl rfl zDec ?_; (first | refine aops_q (aq_load1 rfl zUpd List.not_mem_nil rfl zRc) rfl rfl rfl ?_ | refine aops_q (aq_load_el1 rfl rfl zScal (fun _ h => absurd h List.not_mem_nil)) rfl rfl rfl ?_ | refine aops_q (aq_load_el1' rfl rfl zScal (fun _ h => absurd h List.not_mem_nil)) rfl rfl rfl ?_ | refine aops_q (aq_load_own1 rfl zUpd List.not_mem_nil rfl zAss zScal) rfl rfl rfl ?_)) | refine aops_no_u rfl rfl rfl ?_ | refine aops_no_f rfl rfl rfl rfl zDec ?_ | (refine aops_guard_f rfl rfl rfl rfl (fun hg => ?_) (fun hg => ?_); case' _ => (first | refine aops_q (aq_load1 rfl zUpd List.not_mem_nil rfl zRc) rfl rfl rfl ?_ | refine aops_q (aq_load_el1 rfl rfl zScal (fun _ h => absurd h List.not_mem_nil)) rfl rfl rfl ?_ | refine aops_q (aq_load_el1' rfl rfl zScal (fun _ h => absurd h List.not_mem_nil)) rfl rfl rfl ?_ | refine aops_q (aq_load_own1 rfl zUpd List.not_mem_nil rfl zAss zScal) rfl rfl rfl ?_)))
    all_goals (first | (refine aops_yes rfl rfl rfl rfl zDec ?_; (first | refine aops_p (ap_fieldAddr (off := 1) (sz := 1) (g := false) rfl rfl) rfl rfl rfl ?_ | refine aops_p (ap_fieldAddr_el (off := 1) (sz := 1) (g := false) rfl rfl zRc) rfl rfl rfl ?_)) | refine aops_no_u rfl rfl rfl ?_ | refine aops_no_f rfl rfl rfl rfl zDec ?_ | (refine aops_guard_f rfl rfl rfl rfl (fun hg => ?_) (fun hg => ?_); case' _ => (first | refine aops_p (ap_fieldAddr (off := 1) (sz := 1) (g := false) rfl rfl) rfl rfl rfl ?_ | refine aops_p (ap_fieldAddr_el (off := 1) (sz := 1) (g := false) rfl rfl zRc) rfl rfl rfl ?_)))
    all_goals (first | (refine aops_yes rfl rfl rfl rfl zDec ?_; (first | refine aops_q (aq_load1 rfl zUpd List.not_mem_nil rfl zRc) rfl rfl rfl ?_ | refine aops_q (aq_load_el1 rfl rfl zScal (fun _ h => absurd h List.not_mem_nil)) rfl rfl rfl ?_ | refine aops_q (aq_load_el1' rfl rfl zScal (fun _ h => absurd h List.not_mem_nil)) rfl rfl rfl ?_ | refine aops_q (aq_load_own1 rfl zUpd List.not_mem_nil rfl zAss zScal) rfl rfl rfl ?_)) | refine aops_no_u rfl rfl rfl ?_ | refine aops_no_f rfl rfl rfl rfl zDec ?_ | (refine aops_guard_f rfl rfl rfl rfl (fun hg => ?_) (fun hg => ?_); case' _ => (first | refine aops_q (aq_load1 rfl zUpd List.not_mem_nil rfl zRc) rfl rfl rfl ?_ | refine aops_q (aq_load_el1 rfl rfl zScal (fun _ h => absurd h List.not_mem_nil)) rfl rfl rfl ?_ | refine aops_q (aq_load_el1' rfl rfl zScal (fun _ h => absurd h List.not_mem_nil)) rfl rfl rfl ?_ | refine aops_q (aq_load_own1 rfl zUpd List.not_mem_nil rfl zAss zScal) rfl rfl rfl ?_)))
    all_goals (first | (refine aops_yes rfl rfl rfl rfl zDec ?_; (first | refine aops_len rfl rfl rfl rfl (fun _ => ?_) | refine aops_p (ap_len_arr rfl zUpd rfl) rfl rfl rfl ?_ | refine aops_p (ap_len_nil rfl rfl) rfl rfl rfl ?_)) | refine aops_no_u rfl rfl rfl ?_ | refine aops_no_f rfl rfl rfl rfl zDec ?_ | (refine aops_guard_f rfl rfl rfl rfl (fun hg => ?_) (fun hg => ?_); case' _ => (first | refine aops_len rfl rfl rfl rfl (fun _ => ?_) | refine aops_p (ap_len_arr rfl zUpd rfl) rfl rfl rfl ?_ | refine aops_p (ap_len_nil rfl rfl) rfl rfl rfl ?_)))
    all_goals (first | (refine aops_yes rfl rfl rfl rfl zDec ?_; (first | refine aops_p (ap_fieldAddr (off := 2) (sz := 1) (g := false) rfl rfl) rfl rfl rfl ?_ | refine aops_p (ap_fieldAddr_el (off := 2) (sz := 1) (g := false) rfl rfl zRc) rfl rfl rfl ?_)) | refine aops_no_u rfl rfl rfl ?_ | refine aops_no_f rfl rfl rfl rfl zDec ?_ | (refine aops_guard_f rfl rfl rfl rfl (fun hg => ?_) (fun hg => ?_); case' _ => (first | refine aops_p (ap_fieldAddr (off := 2) (sz := 1) (g := false) rfl rfl) rfl rfl rfl ?_ | refine aops_p (ap_fieldAddr_el (off := 2) (sz := 1) (g := false) rfl rfl zRc) rfl rfl rfl ?_)))
    all_goals (first | (refine aops_yes rfl rfl rfl rfl zDec ?_; (first | refine aops_q (aq_load1 rfl zUpd List.not_mem_nil rfl zRc) rfl rfl rfl ?_ | refine aops_q (aq_load_el1 rfl rfl zScal (fun _ h => absurd h List.not_mem_nil)) rfl rfl rfl ?_ | refine aops_q (aq_load_el1' rfl rfl zScal (fun _ h => absurd h List.not_mem_nil)) rfl rfl rfl ?_ | refine aops_q (aq_load_own1 rfl zUpd List.not_mem_nil rfl zAss zScal) rfl rfl rfl ?_)) | refine aops_no_u rfl rfl rfl ?_ | refine aops_no_f rfl rfl rfl rfl zDec ?_ | (refine aops_guard_f rfl rfl rfl rfl (fun hg => ?_) (fun hg => ?_); case' _ => (first | refine aops_q (aq_load1 rfl zUpd List.not_mem_nil rfl zRc) rfl rfl rfl ?_ | refine aops_q (aq_load_el1 rfl rfl zScal (fun _ h => absurd h List.not_mem_nil)) rfl rfl rfl ?_ | refine aops_q (aq_load_el1' rfl rfl zScal (fun _ h => absurd h List.not_mem_nil)) rfl rfl rfl ?_ | refine aops_q (aq_load_own1 rfl zUpd List.not_mem_nil rfl zAss zScal) rfl rfl rfl ?_)))
    all_goals (first | (refine aops_yes rfl rfl rfl rfl zDec ?_; (first | refine aops_len rfl rfl rfl rfl (fun _ => ?_) | refine aops_p (ap_len_arr rfl zUpd rfl) rfl rfl rfl ?_ | refine aops_p (ap_len_nil rfl rfl) rfl rfl rfl ?_)) | refine aops_no_u rfl rfl rfl ?_ | refine aops_no_f rfl rfl rfl rfl zDec ?_ | (refine aops_guard_f rfl rfl rfl rfl (fun hg => ?_) (fun hg => ?_); case' _ => (first | refine aops_len rfl rfl rfl rfl (fun _ => ?_) | refine aops_p (ap_len_arr rfl zUpd rfl) rfl rfl rfl ?_ | refine aops_p (ap_len_nil rfl rfl) rfl rfl rfl ?_)))
    all_goals (first | (refine aops_yes rfl rfl rfl rfl zDec ?_; (refine aops_p (ap_arith rfl rfl rfl (by omega)) rfl rfl rfl ?_)) | refine aops_no_u rfl rfl rfl ?_ | refine aops_no_f rfl rfl rfl rfl zDec ?_ | (refine aops_guard_f rfl rfl rfl rfl (fun hg => ?_) (fun hg => ?_); case' _ => (refine aops_p (ap_arith rfl rfl rfl (by omega)) rfl rfl rfl ?_)))
    all_goals (first | (refine aops_yes rfl rfl rfl rfl zDec ?_; (refine aops_p (ap_cmp rfl rfl rfl) rfl rfl rfl ?_)) | refine aops_no_u rfl rfl rfl ?_ | refine aops_no_f rfl rfl rfl rfl zDec ?_ | (refine aops_guard_f rfl rfl rfl rfl (fun hg => ?_) (fun hg => ?_); case' _ => (refine aops_p (ap_cmp rfl rfl rfl) rfl rfl rfl ?_)))
    all_goals (first | refine aops_p (ap_pick_true rfl zDec rfl) rfl rfl rfl ?_ | refine aops_p (ap_pick_false rfl zDec rfl) rfl rfl rfl ?_)
    all_goals (
      refine aops_nil ?_
      refine seqQ_n ?_
      refine awp_cond rfl (fun hc => ?_) (fun hc => ?_)
      · first
        | (exact absurd hc (by decide))
        | (refine awp_seq ?_
           refine awp_region ?_
           refine aops_p (ap_assign rfl) rfl rfl rfl ?_
           refine aops_nil ?_
           refine seqQ_n ?_
           refine awp_ret ?_
           refine seqQ_r ?_
           refine post_is (.tmp rfl .nil) .nil ?_
           simp only [resD, checkT]; rw [if_pos (by first | (have := of_decide_eq_true hg; omega) | (have := of_decide_eq_true hc; omega))]
          )
      · first
        | (exact absurd hc (by decide))
        | (have hth : ¬ (t.th < 1 ∨ (t.nodes.length + t.inner.length : Int) < t.th) := by have h1 := of_decide_eq_false hg; have h2 := of_decide_eq_false hc; omega
           refine awp_skip ?_
           refine seqQ_n ?_
           refine awp_seq ?_
           refine awp_seq ?_
           refine awp_region ?_
           first | refine aops_p (ap_fieldAddr (off := 1) (sz := 1) (g := false) rfl rfl) rfl rfl rfl ?_ | refine aops_p (ap_fieldAddr_el (off := 1) (sz := 1) (g := false) rfl rfl zRc) rfl rfl rfl ?_
           first | refine aops_q (aq_load1 rfl zUpd List.not_mem_nil rfl zRc) rfl rfl rfl ?_ | refine aops_q (aq_load_el1 rfl rfl zScal (fun _ h => absurd h List.not_mem_nil)) rfl rfl rfl ?_ | refine aops_q (aq_load_el1' rfl rfl zScal (fun _ h => absurd h List.not_mem_nil)) rfl rfl rfl ?_ | refine aops_q (aq_load_own1 rfl zUpd List.not_mem_nil rfl zAss zScal) rfl rfl rfl ?_
           refine aops_call_v zRc (containsF_con _ badN lev1_con t.nodes) rfl rfl ?_
           refine aops_nil ?_
           refine seqQ_n ?_
           refine awp_cond rfl (fun hc => ?_) (fun hc => ?_)
           · have hany := hc
             refine awp_seq ?_
             refine awp_region ?_
             refine aops_p (ap_assign rfl) rfl rfl rfl ?_
             refine aops_nil ?_
             refine seqQ_n ?_
             refine awp_ret ?_
             refine seqQ_r ?_
             refine post_is (.tmp rfl .nil) .nil ?_
             simp only [resD, checkT]; rw [if_neg hth, if_pos hany]
           · have hany := hc
             refine awp_skip ?_
             refine seqQ_n ?_
             refine awp_seq ?_
             refine awp_seq ?_
             refine awp_region ?_
             first | refine aops_p (ap_fieldAddr (off := 1) (sz := 1) (g := false) rfl rfl) rfl rfl rfl ?_ | refine aops_p (ap_fieldAddr_el (off := 1) (sz := 1) (g := false) rfl rfl zRc) rfl rfl rfl ?_
             first | refine aops_q (aq_load1 rfl zUpd List.not_mem_nil rfl zRc) rfl rfl rfl ?_ | refine aops_q (aq_load_el1 rfl rfl zScal (fun _ h => absurd h List.not_mem_nil)) rfl rfl rfl ?_ | refine aops_q (aq_load_el1' rfl rfl zScal (fun _ h => absurd h List.not_mem_nil)) rfl rfl rfl ?_ | refine aops_q (aq_load_own1 rfl zUpd List.not_mem_nil rfl zAss zScal) rfl rfl rfl ?_
             refine aops_call_v zRc (of_con t.nodes) rfl rfl ?_
             refine aops_p (ap_move rfl) rfl rfl rfl ?_
             refine aops_p (ap_extract rfl rfl) rfl rfl rfl ?_
             refine aops_p (ap_extract rfl rfl) rfl rfl rfl ?_
             refine aops_p (ap_assign rfl) rfl rfl rfl ?_
             refine aops_p (ap_assign rfl) rfl rfl rfl ?_
             refine aops_nil ?_
             refine seqQ_n ?_
             refine awp_seq ?_
             refine awp_region ?_
             refine aops_p (ap_move rfl) rfl rfl rfl ?_
             refine aops_p (ap_cmp rfl rfl rfl) rfl rfl rfl ?_
             refine aops_nil ?_
             refine seqQ_n ?_
             refine awp_cond rfl (fun hc => ?_) (fun hc => ?_)
             · have he := hc
               refine awp_seq ?_
               refine awp_region ?_
               refine aops_p (ap_move rfl) rfl rfl rfl ?_
               refine aops_p (ap_assign rfl) rfl rfl rfl ?_
               refine aops_nil ?_
               refine seqQ_n ?_
               refine awp_ret ?_
               refine seqQ_r ?_
               refine post_is (.tmp rfl .nil) .nil ?_
               simp only [resD, checkT]; rw [if_neg hth, if_neg (by rw [hany]; simp), if_pos (by simpa using he)]
             · have he := hc
               refine awp_skip ?_
               refine seqQ_n ?_
               refine awp_seq ?_
               refine awp_seq ?_
               refine awp_region ?_
               first | refine aops_p (ap_fieldAddr (off := 2) (sz := 1) (g := false) rfl rfl) rfl rfl rfl ?_ | refine aops_p (ap_fieldAddr_el (off := 2) (sz := 1) (g := false) rfl rfl zRc) rfl rfl rfl ?_
               first | refine aops_q (aq_load1 rfl zUpd List.not_mem_nil rfl zRc) rfl rfl rfl ?_ | refine aops_q (aq_load_el1 rfl rfl zScal (fun _ h => absurd h List.not_mem_nil)) rfl rfl rfl ?_ | refine aops_q (aq_load_el1' rfl rfl zScal (fun _ h => absurd h List.not_mem_nil)) rfl rfl rfl ?_ | refine aops_q (aq_load_own1 rfl zUpd List.not_mem_nil rfl zAss zScal) rfl rfl rfl ?_
               first | refine aops_len rfl rfl rfl rfl (fun _ => ?_) | refine aops_p (ap_len_arr rfl zUpd rfl) rfl rfl rfl ?_ | refine aops_p (ap_len_nil rfl rfl) rfl rfl rfl ?_
               refine aops_p (ap_move rfl) rfl rfl rfl ?_
               refine aops_nil ?_
               refine seqQ_n ?_
               refine awp_block ?_
               refine awp_loop1 [36, 37] [] (fun (k : Nat) r => (38, .i (k : Int)) :: r) (fun (k : Nat) r => r) (fun (k : Nat) => k ≤ t.inner.length ∧ checkL (t.inner.drop k) = checkL t.inner) (fun (k : Nat) => t.inner.length - k) (0) zRc ⟨by omega, by simp⟩ (wk zSub (by repeat (first | exact .nil | refine .cons (by first | exact .here | exact .there .here | exact .there (.there .here) | exact .there (.there (.there .here)) | exact .there (.there (.there (.there .here)))) ?_))) ?_
               intro k ⟨hk, hI⟩
               refine awp_seq ?_
               refine awp_region ?_
               refine aops_p (ap_cmp rfl rfl rfl) rfl rfl rfl ?_
               refine aops_nil ?_
               refine seqQ_n ?_
               refine awp_seq ?_
               refine awp_cond rfl (fun hc => ?_) (fun hc => ?_)
               · have hlt : k < t.inner.length := by have := of_decide_eq_true hc; omega
                 obtain ⟨x, hx, hd⟩ := drop_cons hlt
                 have hx' := avs_get hx
                 have hxm := List.mem_of_getElem? hx
                 refine awp_skip ?_
                 refine seqQ_n ?_
                 refine awp_seq ?_
                 refine awp_block ?_
                 refine awp_seq ?_
                 refine awp_region ?_
                 first | refine aops_p (ap_index rfl rfl rfl rfl (by decide) rfl zAss) rfl rfl rfl ?_ | refine aops_p (ap_index rfl rfl rfl rfl (by decide) (by omega) zAss) rfl rfl rfl ?_ | refine aops_p (ap_index_own rfl rfl rfl rfl rfl (by first | omega | (simp only [List.length_map, List.length_set, avs_len]; omega))) rfl rfl rfl ?_
                 first | refine aops_q (aq_load rfl zUpd List.not_mem_nil rfl rfl zRc) rfl rfl rfl ?_ | refine aops_q (aq_load_el rfl rfl rfl rfl (fun _ h => absurd h List.not_mem_nil)) rfl rfl rfl ?_
                 refine aops_alloc rfl zRc rfl rfl (fun b6 => ?_)
                 first | refine aops_store rfl rfl zFlat zUpd rfl zRc ?_ | refine aops_store_own1 rfl rfl zScal zUpd rfl (by simp only [List.length_set, List.length_map]; omega) ?_
                 refine aops_nil ?_
                 refine seqQ_n ?_
                 refine awp_seq ?_
                 refine awp_region ?_
                 first | refine aops_q (aq_load rfl zUpd List.not_mem_nil rfl rfl zRc) rfl rfl rfl ?_ | refine aops_q (aq_load_el rfl rfl rfl rfl (fun _ h => absurd h List.not_mem_nil)) rfl rfl rfl ?_
                 refine aops_call_v zRc (ih _ hxm) rfl rfl ?_
                 refine aops_p (ap_assign rfl) rfl rfl rfl ?_
                 refine aops_nil ?_
                 refine seqQ_n ?_
                 refine awp_seq ?_
                 refine awp_region ?_
                 refine aops_p (ap_move rfl) rfl rfl rfl ?_
                 refine aops_p (ap_cmp rfl rfl rfl) rfl rfl rfl ?_
                 refine aops_nil ?_
                 refine seqQ_n ?_
                 refine awp_cond rfl (fun hc => ?_) (fun hc => ?_)
                 · refine awp_seq ?_
                   refine awp_region ?_
                   refine aops_p (ap_move rfl) rfl rfl rfl ?_
                   refine aops_p (ap_assign rfl) rfl rfl rfl ?_
                   refine aops_nil ?_
                   refine seqQ_n ?_
                   refine awp_ret ?_
                   refine blockQ_r ?_
                   refine seqQ_r ?_
                   refine seqQ_r ?_
                   refine blockQ_r ?_
                   refine seqQ_r ?_
                   refine post_is (.tmp rfl .nil) .nil ?_
                   rw [hd, checkL_cons, if_pos (by simpa using hc)] at hI
                   have e : checkT t = checkL t.inner := by unfold checkT; rw [if_neg hth, if_neg (by rw [hany]; simp), if_neg (by simpa using he)]
                   simp only [resD]; rw [e, ← hI]
                 · refine awp_skip ?_
                   refine blockQ_n ?_
                   refine seqQ_n ?_
                   refine awp_region ?_
                   refine aops_p (ap_arith rfl rfl rfl (by omega)) rfl rfl rfl ?_
                   refine aops_p (ap_move rfl) rfl rfl rfl ?_
                   refine aops_nil ?_
                   refine seqQ_n ?_
                   have hz := of_decide_eq_true (Bool.not_eq_false' .. ▸ hc)
                   rw [hd, checkL_cons, if_neg (by simpa using hz)] at hI
                   refine ⟨k + 1, ⟨by omega, hI⟩, by omega, wk zSub (by repeat (first | exact .nil | refine .cons (by first | exact .here | exact .there .here | exact .there (.there .here) | exact .there (.there (.there .here)) | exact .there (.there (.there (.there .here)))) ?_))⟩
               · have hge : t.inner.length ≤ k := by have := of_decide_eq_false hc; omega
                 rw [drop_nil hge] at hI; simp only [checkL] at hI
                 refine awp_exit ?_
                 refine seqQ_x ?_
                 refine seqQ_x ?_
                 refine blockQ_x rfl ?_
                 refine seqQ_n ?_
                 refine awp_seq ?_
                 refine awp_region ?_
                 refine aops_p (ap_assign rfl) rfl rfl rfl ?_
                 refine aops_nil ?_
                 refine seqQ_n ?_
                 refine awp_ret ?_
                 refine post_is (.tmp rfl .nil) .nil ?_
                 have e : checkT t = checkL t.inner := by unfold checkT; rw [if_neg hth, if_neg (by rw [hany]; simp), if_neg (by simpa using he)]
                 simp only [resD]; rw [e, ← hI]
          )
      )
theorem validT_con (t : Trust) (ht : sizeT t ≤ 1000000000) : Con none Try.prog 62 [av t] [] (Is (.i (validT t)) []) := by
  have hcap : capB = 140737488355328 := rfl
  refine con_intro Try.func62 rfl Try.call62 rfl ?_
  refine awp_seq ?_
  refine awp_region ?_
  refine aops_box rfl zFlat rfl rfl (fun b1 => ?_)
  refine aops_p (ap_assign rfl) rfl rfl rfl ?_
  refine aops_nil ?_
  refine seqQ_n ?_
  refine awp_seq ?_
  refine awp_seq ?_
  refine awp_region ?_
  first | refine aops_q (aq_load rfl zUpd List.not_mem_nil rfl rfl zRc) rfl rfl rfl ?_ | refine aops_q (aq_load_el rfl rfl rfl rfl (fun _ h => absurd h List.not_mem_nil)) rfl rfl rfl ?_
  refine aops_call_v zRc (depth_con 1000000000 (by omega) t ht) rfl rfl ?_
  refine aops_p (ap_cmp rfl rfl rfl) rfl rfl rfl ?_
  refine aops_p (ap_move rfl) rfl rfl rfl ?_
  all_goals (first | (refine aops_yes rfl rfl rfl rfl zDec ?_; (first | refine aops_q (aq_load rfl zUpd List.not_mem_nil rfl rfl zRc) rfl rfl rfl ?_ | refine aops_q (aq_load_el rfl rfl rfl rfl (fun _ h => absurd h List.not_mem_nil)) rfl rfl rfl ?_)) | refine aops_no_u rfl rfl rfl ?_ | refine aops_no_f rfl rfl rfl rfl zDec ?_ | (refine aops_guard_f rfl rfl rfl rfl (fun hg => ?_) (fun hg => ?_); case' _ => (first | refine aops_q (aq_load rfl zUpd List.not_mem_nil rfl rfl zRc) rfl rfl rfl ?_ | refine aops_q (aq_load_el rfl rfl rfl rfl (fun _ h => absurd h List.not_mem_nil)) rfl rfl rfl ?_)))
  all_goals (first | (refine aops_yes rfl rfl rfl rfl zDec ?_; (refine aops_call_v zRc (size_con 1000000000 (by omega) t ht) rfl rfl ?_)) | refine aops_no_u rfl rfl rfl ?_ | refine aops_no_f rfl rfl rfl rfl zDec ?_ | (refine aops_guard_f rfl rfl rfl rfl (fun hg => ?_) (fun hg => ?_); case' _ => (refine aops_call_v zRc (size_con 1000000000 (by omega) t ht) rfl rfl ?_)))
  all_goals (first | (refine aops_yes rfl rfl rfl rfl zDec ?_; (refine aops_p (ap_cmp rfl rfl rfl) rfl rfl rfl ?_)) | refine aops_no_u rfl rfl rfl ?_ | refine aops_no_f rfl rfl rfl rfl zDec ?_ | (refine aops_guard_f rfl rfl rfl rfl (fun hg => ?_) (fun hg => ?_); case' _ => (refine aops_p (ap_cmp rfl rfl rfl) rfl rfl rfl ?_)))
  all_goals (first | refine aops_p (ap_pick_true rfl zDec rfl) rfl rfl rfl ?_ | refine aops_p (ap_pick_false rfl zDec rfl) rfl rfl rfl ?_)
  all_goals (
    refine aops_nil ?_
    refine seqQ_n ?_
    refine awp_cond rfl (fun hc => ?_) (fun hc => ?_)
    · first
      | (exact absurd hc (by decide))
      | (refine awp_seq ?_
         refine awp_region ?_
         refine aops_p (ap_assign rfl) rfl rfl rfl ?_
         refine aops_nil ?_
         refine seqQ_n ?_
         refine awp_ret ?_
         refine seqQ_r ?_
         refine post_is (.tmp rfl .nil) .nil ?_
         simp only [resD, validT]; rw [if_pos (by first | (have := of_decide_eq_true hg; omega) | (have := of_decide_eq_true hc; omega))]
        )
    · first
      | (exact absurd hc (by decide))
      | (refine awp_skip ?_
         refine seqQ_n ?_
         refine awp_seq ?_
         refine awp_region ?_
         first | refine aops_q (aq_load rfl zUpd List.not_mem_nil rfl rfl zRc) rfl rfl rfl ?_ | refine aops_q (aq_load_el rfl rfl rfl rfl (fun _ h => absurd h List.not_mem_nil)) rfl rfl rfl ?_
         refine aops_call_v zRc (level_con t) rfl rfl ?_
         refine aops_p (ap_assign rfl) rfl rfl rfl ?_
         refine aops_nil ?_
         refine seqQ_n ?_
         refine awp_ret ?_
         refine post_is (.tmp rfl .nil) .nil ?_
         simp only [resD, validT]; rw [if_neg (by have h1 := of_decide_eq_false hg; have h2 := of_decide_eq_false hc; omega)]
        )
    )
theorem op_ints {w : World} (n : Nat) : OpN Try.prog w 22 n (List Int) (fun l => [.sl 1 (l.map .i)]) :=
  op_slice Try.underlying22 zKr (by omega) (of_decide_eq_true zKr) mk_int (fun m _ => op_int Try.underlying3)
theorem valid0 {s : Int} (h : valid s = false) : Con none Try.prog 47 [.i s] [] (Is (.b false) []) := by rw [← h]; exact valid_con s
theorem rvalid0 {s : Int} (h : valid s = false) : Con none Try.prog 31 [.i s] [] (Is (.b false) []) := by rw [← h]; exact rvalid_con s
theorem rvalidn {s : Nat} (h : s < 1024) : Con none Try.prog 31 [.i s] [] (Is (.b true) []) := by rw [← valid_n h]; exact rvalid_con s
theorem quorum0_con (c : List Mem) (s : Int) (hv : valid s = false) : Con none Try.prog 30 [cv c, .i s] [] (Is (.b false) []) := by
  have hcap : capB = 140737488355328 := rfl
  refine con_intro Try.func30 rfl Try.call30 rfl ?_
  refine awp_seq ?_
  refine awp_region ?_
  refine aops_box rfl zFlat rfl rfl (fun b2 => ?_)
  refine aops_p (ap_assign rfl) rfl rfl rfl ?_
  refine aops_nil ?_
  refine seqQ_n ?_
  refine awp_seq ?_
  refine awp_seq ?_
  refine awp_region ?_
  refine aops_p (ap_move rfl) rfl rfl rfl ?_
  refine aops_call_v zRc (valid0 hv) rfl rfl ?_
  refine aops_p (ap_not rfl) rfl rfl rfl ?_
  refine aops_p (ap_move rfl) rfl rfl rfl ?_
  all_goals (first | (refine aops_yes rfl rfl rfl rfl zDec ?_; (refine aops_p (ap_move rfl) rfl rfl rfl ?_)) | refine aops_no_u rfl rfl rfl ?_ | refine aops_no_f rfl rfl rfl rfl zDec ?_ | (refine aops_guard_f rfl rfl rfl rfl (fun hg => ?_) (fun hg => ?_); case' _ => (refine aops_p (ap_move rfl) rfl rfl rfl ?_)))
  all_goals (first | (refine aops_yes rfl rfl rfl rfl zDec ?_; (refine aops_p (ap_cmp rfl rfl rfl) rfl rfl rfl ?_)) | refine aops_no_u rfl rfl rfl ?_ | refine aops_no_f rfl rfl rfl rfl zDec ?_ | (refine aops_guard_f rfl rfl rfl rfl (fun hg => ?_) (fun hg => ?_); case' _ => (refine aops_p (ap_cmp rfl rfl rfl) rfl rfl rfl ?_)))
  all_goals (first | refine aops_p (ap_pick_true rfl zDec rfl) rfl rfl rfl ?_ | refine aops_p (ap_pick_false rfl zDec rfl) rfl rfl rfl ?_)
  all_goals (refine aops_p (ap_move rfl) rfl rfl rfl ?_)
  all_goals (first | (refine aops_yes rfl rfl rfl rfl zDec ?_; (first | refine aops_q (aq_load rfl zUpd List.not_mem_nil rfl rfl zRc) rfl rfl rfl ?_ | refine aops_q (aq_load_el rfl rfl rfl rfl (fun _ h => absurd h List.not_mem_nil)) rfl rfl rfl ?_)) | refine aops_no_u rfl rfl rfl ?_ | refine aops_no_f rfl rfl rfl rfl zDec ?_ | (refine aops_guard_f rfl rfl rfl rfl (fun hg => ?_) (fun hg => ?_); case' _ => (first | refine aops_q (aq_load rfl zUpd List.not_mem_nil rfl rfl zRc) rfl rfl rfl ?_ | refine aops_q (aq_load_el rfl rfl rfl rfl (fun _ h => absurd h List.not_mem_nil)) rfl rfl rfl ?_)))
  all_goals (first | (refine aops_yes rfl rfl rfl rfl zDec ?_; (refine aops_p (ap_move rfl) rfl rfl rfl ?_)) | refine aops_no_u rfl rfl rfl ?_ | refine aops_no_f rfl rfl rfl rfl zDec ?_ | (refine aops_guard_f rfl rfl rfl rfl (fun hg => ?_) (fun hg => ?_); case' _ => (refine aops_p (ap_move rfl) rfl rfl rfl ?_)))
  all_goals (first | (refine aops_yes rfl rfl rfl rfl zDec ?_; (refine aops_call_v zRc (inside_con c 0 (by omega)) rfl rfl ?_)) | refine aops_no_u rfl rfl rfl ?_ | refine aops_no_f rfl rfl rfl rfl zDec ?_ | (refine aops_guard_f rfl rfl rfl rfl (fun hg => ?_) (fun hg => ?_); case' _ => (refine aops_call_v zRc (inside_con c 0 (by omega)) rfl rfl ?_)))
  all_goals (first | (refine aops_yes rfl rfl rfl rfl zDec ?_; (refine aops_p (ap_not rfl) rfl rfl rfl ?_)) | refine aops_no_u rfl rfl rfl ?_ | refine aops_no_f rfl rfl rfl rfl zDec ?_ | (refine aops_guard_f rfl rfl rfl rfl (fun hg => ?_) (fun hg => ?_); case' _ => (refine aops_p (ap_not rfl) rfl rfl rfl ?_)))
  all_goals (first | refine aops_p (ap_pick_true rfl zDec rfl) rfl rfl rfl ?_ | refine aops_p (ap_pick_false rfl zDec rfl) rfl rfl rfl ?_)
  all_goals (
    refine aops_nil ?_
    refine seqQ_n ?_
    refine awp_cond rfl (fun hc => ?_) (fun hc => ?_)
    · first
      | (exact absurd hc (by decide))
      | (refine awp_seq ?_
         refine awp_region ?_
         refine aops_p (ap_assign rfl) rfl rfl rfl ?_
         refine aops_nil ?_
         refine seqQ_n ?_
         refine awp_ret ?_
         refine seqQ_r ?_
         refine post_is (.tmp rfl .nil) (by repeat (first | exact .nil | refine .cons (by first | exact .here | exact .there .here | exact .there (.there .here) | exact .there (.there (.there .here)) | exact .there (.there (.there (.there .here)))) ?_)) rfl
        )
    · first
      | (exact absurd hc (by decide))
      | (refine awp_skip ?_
         refine seqQ_n ?_
         refine awp_seq ?_
         refine awp_region ?_
         first | refine aops_q (aq_load rfl zUpd List.not_mem_nil rfl rfl zRc) rfl rfl rfl ?_ | refine aops_q (aq_load_el rfl rfl rfl rfl (fun _ h => absurd h List.not_mem_nil)) rfl rfl rfl ?_
         refine aops_p (ap_move rfl) rfl rfl rfl ?_
         refine aops_call_v zRc (valid0 hv) rfl rfl ?_
         refine aops_p (ap_move rfl) rfl rfl rfl ?_
         refine aops_p (ap_extract rfl rfl) rfl rfl rfl ?_
         refine aops_p (ap_extract rfl rfl) rfl rfl rfl ?_
         refine aops_p (ap_assign rfl) rfl rfl rfl ?_
         refine aops_p (ap_assign rfl) rfl rfl rfl ?_
         refine aops_nil ?_
         refine seqQ_n ?_
         refine awp_seq ?_
         refine awp_region ?_
         refine aops_p (ap_move rfl) rfl rfl rfl ?_
         refine aops_p (ap_not rfl) rfl rfl rfl ?_
         refine aops_p (ap_assign rfl) rfl rfl rfl ?_
         refine aops_nil ?_
         refine seqQ_n ?_
         refine awp_ret ?_
         refine post_is (.tmp rfl .nil) (by repeat (first | exact .nil | refine .cons (by first | exact .here | exact .there .here | exact .there (.there .here) | exact .there (.there (.there .here)) | exact .there (.there (.there (.there .here)))) ?_)) rfl
        )
    )
theorem quorumV_con (c : List Mem) (s : Int) : Con none Try.prog 30 [cv c, .i s] [] (Is (.b (quorumV c s)) []) := by
  cases h : valid s with
  | false => rw [quorumV_inval h]; exact quorum0_con c s h
  | true =>
    obtain ⟨m, rfl, hm⟩ := valid_nat h
    rw [quorumV_nat hm]
    exact quorum_con c m hm
theorem rquorum0_con (c : List Mem) (s : Int) (hv : valid s = false) : Con none Try.prog 15 [cv c, .i s] [] (Is (.b false) []) := by
  have hcap : capB = 140737488355328 := rfl
  refine con_intro Try.func15 rfl Try.call15 rfl ?_
  refine awp_seq ?_
  refine awp_region ?_
  refine aops_box rfl zFlat rfl rfl (fun b2 => ?_)
  refine aops_p (ap_assign rfl) rfl rfl rfl ?_
  refine aops_nil ?_
  refine seqQ_n ?_
  refine awp_seq ?_
  refine awp_seq ?_
  refine awp_region ?_
  refine aops_p (ap_move rfl) rfl rfl rfl ?_
  refine aops_call_v zRc (rvalid0 hv) rfl rfl ?_
  refine aops_p (ap_not rfl) rfl rfl rfl ?_
  refine aops_p (ap_move rfl) rfl rfl rfl ?_
  all_goals (first | (refine aops_yes rfl rfl rfl rfl zDec ?_; (refine aops_p (ap_move rfl) rfl rfl rfl ?_)) | refine aops_no_u rfl rfl rfl ?_ | refine aops_no_f rfl rfl rfl rfl zDec ?_ | (refine aops_guard_f rfl rfl rfl rfl (fun hg => ?_) (fun hg => ?_); case' _ => (refine aops_p (ap_move rfl) rfl rfl rfl ?_)))
  all_goals (first | (refine aops_yes rfl rfl rfl rfl zDec ?_; (refine aops_p (ap_cmp rfl rfl rfl) rfl rfl rfl ?_)) | refine aops_no_u rfl rfl rfl ?_ | refine aops_no_f rfl rfl rfl rfl zDec ?_ | (refine aops_guard_f rfl rfl rfl rfl (fun hg => ?_) (fun hg => ?_); case' _ => (refine aops_p (ap_cmp rfl rfl rfl) rfl rfl rfl ?_)))
  all_goals (first | refine aops_p (ap_pick_true rfl zDec rfl) rfl rfl rfl ?_ | refine aops_p (ap_pick_false rfl zDec rfl) rfl rfl rfl ?_)
  all_goals (refine aops_p (ap_move rfl) rfl rfl rfl ?_)
  all_goals (first | (refine aops_yes rfl rfl rfl rfl zDec ?_; (refine aops_p (ap_move rfl) rfl rfl rfl ?_)) | refine aops_no_u rfl rfl rfl ?_ | refine aops_no_f rfl rfl rfl rfl zDec ?_ | (refine aops_guard_f rfl rfl rfl rfl (fun hg => ?_) (fun hg => ?_); case' _ => (refine aops_p (ap_move rfl) rfl rfl rfl ?_)))
  all_goals (first | (refine aops_yes rfl rfl rfl rfl zDec ?_; (first | refine aops_q (aq_load rfl zUpd List.not_mem_nil rfl rfl zRc) rfl rfl rfl ?_ | refine aops_q (aq_load_el rfl rfl rfl rfl (fun _ h => absurd h List.not_mem_nil)) rfl rfl rfl ?_)) | refine aops_no_u rfl rfl rfl ?_ | refine aops_no_f rfl rfl rfl rfl zDec ?_ | (refine aops_guard_f rfl rfl rfl rfl (fun hg => ?_) (fun hg => ?_); case' _ => (first | refine aops_q (aq_load rfl zUpd List.not_mem_nil rfl rfl zRc) rfl rfl rfl ?_ | refine aops_q (aq_load_el rfl rfl rfl rfl (fun _ h => absurd h List.not_mem_nil)) rfl rfl rfl ?_)))
  all_goals (first | (refine aops_yes rfl rfl rfl rfl zDec ?_; (refine aops_call_v zRc (rdecl_con c) rfl rfl ?_)) | refine aops_no_u rfl rfl rfl ?_ | refine aops_no_f rfl rfl rfl rfl zDec ?_ | (refine aops_guard_f rfl rfl rfl rfl (fun hg => ?_) (fun hg => ?_); case' _ => (refine aops_call_v zRc (rdecl_con c) rfl rfl ?_)))
  all_goals (first | (refine aops_yes rfl rfl rfl rfl zDec ?_; (refine aops_p (ap_bits rfl rfl rfl (by omega) (by omega)) rfl rfl rfl ?_)) | refine aops_no_u rfl rfl rfl ?_ | refine aops_no_f rfl rfl rfl rfl zDec ?_ | (refine aops_guard_f rfl rfl rfl rfl (fun hg => ?_) (fun hg => ?_); case' _ => (refine aops_p (ap_bits rfl rfl rfl (by omega) (by omega)) rfl rfl rfl ?_)))
  all_goals (first | (refine aops_yes rfl rfl rfl rfl zDec ?_; (refine aops_p (ap_move rfl) rfl rfl rfl ?_)) | refine aops_no_u rfl rfl rfl ?_ | refine aops_no_f rfl rfl rfl rfl zDec ?_ | (refine aops_guard_f rfl rfl rfl rfl (fun hg => ?_) (fun hg => ?_); case' _ => (refine aops_p (ap_move rfl) rfl rfl rfl ?_)))
  all_goals (first | (refine aops_yes rfl rfl rfl rfl zDec ?_; (refine aops_p (ap_cmp rfl rfl rfl) rfl rfl rfl ?_)) | refine aops_no_u rfl rfl rfl ?_ | refine aops_no_f rfl rfl rfl rfl zDec ?_ | (refine aops_guard_f rfl rfl rfl rfl (fun hg => ?_) (fun hg => ?_); case' _ => (refine aops_p (ap_cmp rfl rfl rfl) rfl rfl rfl ?_)))
  all_goals (first | refine aops_p (ap_pick_true rfl zDec rfl) rfl rfl rfl ?_ | refine aops_p (ap_pick_false rfl zDec rfl) rfl rfl rfl ?_)
  all_goals (
    refine aops_nil ?_
    refine seqQ_n ?_
    refine awp_cond_t rfl zDec ?_
    refine awp_seq ?_
    refine awp_region ?_
    refine aops_p (ap_assign rfl) rfl rfl rfl ?_
    refine aops_nil ?_
    refine seqQ_n ?_
    refine awp_ret ?_
    refine seqQ_r ?_
    refine post_is (.tmp rfl .nil) (by repeat (first | exact .nil | refine .cons (by first | exact .here | exact .there .here | exact .there (.there .here) | exact .there (.there (.there .here)) | exact .there (.there (.there (.there .here)))) ?_)) rfl
    )
theorem rquorumN_con (c : List Mem) (s : Nat) (hs : s < 1024) : Con none Try.prog 15 [cv c, .i s] [] (Is (.b (quorumC c s)) []) := by
  have hcap : capB = 140737488355328 := rfl
  have hdl := declC_lt c
  refine con_intro Try.func15 rfl Try.call15 rfl ?_
  refine awp_seq ?_
  refine awp_region ?_
  refine aops_box rfl zFlat rfl rfl (fun b2 => ?_)
  refine aops_p (ap_assign rfl) rfl rfl rfl ?_
  refine aops_nil ?_
  refine seqQ_n ?_
  refine awp_seq ?_
  refine awp_seq ?_
  refine awp_region ?_
  refine aops_p (ap_move rfl) rfl rfl rfl ?_
  refine aops_call_v zRc (rvalidn hs) rfl rfl ?_
  refine aops_p (ap_not rfl) rfl rfl rfl ?_
  refine aops_p (ap_move rfl) rfl rfl rfl ?_
  all_goals (first | (refine aops_yes rfl rfl rfl rfl zDec ?_; (refine aops_p (ap_move rfl) rfl rfl rfl ?_)) | refine aops_no_u rfl rfl rfl ?_ | refine aops_no_f rfl rfl rfl rfl zDec ?_ | (refine aops_guard_f rfl rfl rfl rfl (fun hg => ?_) (fun hg => ?_); case' _ => (refine aops_p (ap_move rfl) rfl rfl rfl ?_)))
  all_goals (first | (refine aops_yes rfl rfl rfl rfl zDec ?_; (refine aops_p (ap_cmp rfl rfl rfl) rfl rfl rfl ?_)) | refine aops_no_u rfl rfl rfl ?_ | refine aops_no_f rfl rfl rfl rfl zDec ?_ | (refine aops_guard_f rfl rfl rfl rfl (fun hg => ?_) (fun hg => ?_); case' _ => (refine aops_p (ap_cmp rfl rfl rfl) rfl rfl rfl ?_)))
  all_goals (first | refine aops_p (ap_pick_true rfl zDec rfl) rfl rfl rfl ?_ | refine aops_p (ap_pick_false rfl zDec rfl) rfl rfl rfl ?_)
  all_goals (refine aops_p (ap_move rfl) rfl rfl rfl ?_)
  all_goals (first | (refine aops_yes rfl rfl rfl rfl zDec ?_; (refine aops_p (ap_move rfl) rfl rfl rfl ?_)) | refine aops_no_u rfl rfl rfl ?_ | refine aops_no_f rfl rfl rfl rfl zDec ?_ | (refine aops_guard_f rfl rfl rfl rfl (fun hg => ?_) (fun hg => ?_); case' _ => (refine aops_p (ap_move rfl) rfl rfl rfl ?_)))
  all_goals (first | (refine aops_yes rfl rfl rfl rfl zDec ?_; (first | refine aops_q (aq_load rfl zUpd List.not_mem_nil rfl rfl zRc) rfl rfl rfl ?_ | refine aops_q (aq_load_el rfl rfl rfl rfl (fun _ h => absurd h List.not_mem_nil)) rfl rfl rfl ?_)) | refine aops_no_u rfl rfl rfl ?_ | refine aops_no_f rfl rfl rfl rfl zDec ?_ | (refine aops_guard_f rfl rfl rfl rfl (fun hg => ?_) (fun hg => ?_); case' _ => (first | refine aops_q (aq_load rfl zUpd List.not_mem_nil rfl rfl zRc) rfl rfl rfl ?_ | refine aops_q (aq_load_el rfl rfl rfl rfl (fun _ h => absurd h List.not_mem_nil)) rfl rfl rfl ?_)))
  all_goals (first | (refine aops_yes rfl rfl rfl rfl zDec ?_; (refine aops_call_v zRc (rdecl_con c) rfl rfl ?_)) | refine aops_no_u rfl rfl rfl ?_ | refine aops_no_f rfl rfl rfl rfl zDec ?_ | (refine aops_guard_f rfl rfl rfl rfl (fun hg => ?_) (fun hg => ?_); case' _ => (refine aops_call_v zRc (rdecl_con c) rfl rfl ?_)))
  all_goals (first | (refine aops_yes rfl rfl rfl rfl zDec ?_; (refine aops_p (ap_bits rfl rfl rfl (by omega) (by omega)) rfl rfl rfl ?_)) | refine aops_no_u rfl rfl rfl ?_ | refine aops_no_f rfl rfl rfl rfl zDec ?_ | (refine aops_guard_f rfl rfl rfl rfl (fun hg => ?_) (fun hg => ?_); case' _ => (refine aops_p (ap_bits rfl rfl rfl (by omega) (by omega)) rfl rfl rfl ?_)))
  all_goals (first | (refine aops_yes rfl rfl rfl rfl zDec ?_; (refine aops_p (ap_move rfl) rfl rfl rfl ?_)) | refine aops_no_u rfl rfl rfl ?_ | refine aops_no_f rfl rfl rfl rfl zDec ?_ | (refine aops_guard_f rfl rfl rfl rfl (fun hg => ?_) (fun hg => ?_); case' _ => (refine aops_p (ap_move rfl) rfl rfl rfl ?_)))
  all_goals (first | (refine aops_yes rfl rfl rfl rfl zDec ?_; (refine aops_p (ap_cmp rfl rfl rfl) rfl rfl rfl ?_)) | refine aops_no_u rfl rfl rfl ?_ | refine aops_no_f rfl rfl rfl rfl zDec ?_ | (refine aops_guard_f rfl rfl rfl rfl (fun hg => ?_) (fun hg => ?_); case' _ => (refine aops_p (ap_cmp rfl rfl rfl) rfl rfl rfl ?_)))
  all_goals (first | refine aops_p (ap_pick_true rfl zDec rfl) rfl rfl rfl ?_ | refine aops_p (ap_pick_false rfl zDec rfl) rfl rfl rfl ?_)
  all_goals (
    refine aops_nil ?_
    refine seqQ_n ?_
    refine awp_cond rfl (fun hc => ?_) (fun hc => ?_)
    · first
      | (exact absurd hc (by decide))
      | (refine awp_seq ?_
         refine awp_region ?_
         refine aops_p (ap_assign rfl) rfl rfl rfl ?_
         refine aops_nil ?_
         refine seqQ_n ?_
         refine awp_ret ?_
         refine seqQ_r ?_
         refine post_is (.tmp rfl .nil) (by repeat (first | exact .nil | refine .cons (by first | exact .here | exact .there .here | exact .there (.there .here) | exact .there (.there (.there .here)) | exact .there (.there (.there (.there .here)))) ?_)) ?_
         first
         | (rw [quorum_f2 (by with_reducible assumption)]; rfl)
         | (rw [quorum_out hs (of_neq_true (by with_reducible assumption))]; rfl)
        )
    · first
      | (exact absurd hc (by decide))
      | (have hin := in_of_and (of_neq_false hc)
         refine awp_skip ?_
         refine seqQ_n ?_
         refine awp_seq ?_
         refine awp_seq ?_
         refine awp_region ?_
         refine aops_p (ap_move rfl) rfl rfl rfl ?_
         refine aops_call_v zRc (rNodes_con _) rfl rfl ?_
         first | refine aops_len rfl rfl rfl rfl (fun _ => ?_) | refine aops_p (ap_len_arr rfl zUpd rfl) rfl rfl rfl ?_ | refine aops_p (ap_len_nil rfl rfl) rfl rfl rfl ?_
         refine aops_p (ap_move rfl) rfl rfl rfl ?_
         refine aops_nil ?_
         refine seqQ_n ?_
         refine awp_block ?_
         have hnl : ((nodesOf s).map D.i).length = (nodesOf s).length := by simp
         refine awp_loop1 [1, 2, 23, 24] [.box b2 _ _] (fun (k : Nat) r => (25, .i (k : Int)) :: r) (fun (k : Nat) r => r) (fun (k : Nat) => k ≤ (nodesOf s).length ∧ ∀ x ∈ (nodesOf s).take k, sat s (tOf c x) = true) (fun (k : Nat) => (nodesOf s).length - k) (0) zRc ⟨by omega, by simp⟩ (wk zSub (by repeat (first | exact .nil | refine .cons (by first | exact .here | exact .there .here | exact .there (.there .here) | exact .there (.there (.there .here)) | exact .there (.there (.there (.there .here)))) ?_))) ?_
         intro k ⟨hk, hI⟩
         refine awp_seq ?_
         refine awp_region ?_
         refine aops_p (ap_cmp rfl rfl rfl) rfl rfl rfl ?_
         refine aops_nil ?_
         refine seqQ_n ?_
         refine awp_seq ?_
         refine awp_cond rfl (fun hc => ?_) (fun hc => ?_)
         · have hlt := of_decide_eq_true hc
           obtain ⟨x, hx, hd⟩ := drop_cons (l := nodesOf s) (k := k) (by omega)
           obtain ⟨j, y, rfl, hj, hy, hyd⟩ := hin.get hs (mem_nodesOf.1 (List.mem_of_getElem? hx))
           have hx' := getMap D.i hx
           have hy' := getMap mv hy
           have hxh := mem_nodesOf.1 (List.mem_of_getElem? hx)
           refine awp_skip ?_
           refine seqQ_n ?_
           refine awp_seq ?_
           refine awp_block ?_
           refine awp_seq ?_
           refine awp_region ?_
           first | refine aops_p (ap_index rfl rfl rfl rfl (by decide) rfl zAss) rfl rfl rfl ?_ | refine aops_p (ap_index rfl rfl rfl rfl (by decide) (by omega) zAss) rfl rfl rfl ?_ | refine aops_p (ap_index_own rfl rfl rfl rfl rfl (by first | omega | (simp only [List.length_map, List.length_set, avs_len]; omega))) rfl rfl rfl ?_
           first | refine aops_q (aq_load1 rfl zUpd List.not_mem_nil rfl zRc) rfl rfl rfl ?_ | refine aops_q (aq_load_el1 rfl rfl zScal (fun _ h => absurd h List.not_mem_nil)) rfl rfl rfl ?_ | refine aops_q (aq_load_el1' rfl rfl zScal (fun _ h => absurd h List.not_mem_nil)) rfl rfl rfl ?_ | refine aops_q (aq_load_own1 rfl zUpd List.not_mem_nil rfl zAss zScal) rfl rfl rfl ?_
           refine aops_p (ap_assign rfl) rfl rfl rfl ?_
           refine aops_nil ?_
           refine seqQ_n ?_
           refine awp_seq ?_
           refine awp_region ?_
           first | refine aops_p (ap_fieldAddr (off := 0) (sz := 1) (g := false) rfl rfl) rfl rfl rfl ?_ | refine aops_p (ap_fieldAddr_el (off := 0) (sz := 1) (g := false) rfl rfl zRc) rfl rfl rfl ?_
           first | refine aops_q (aq_load1 rfl zUpd List.not_mem_nil rfl zRc) rfl rfl rfl ?_ | refine aops_q (aq_load_el1 rfl rfl zScal (fun _ h => absurd h List.not_mem_nil)) rfl rfl rfl ?_ | refine aops_q (aq_load_el1' rfl rfl zScal (fun _ h => absurd h List.not_mem_nil)) rfl rfl rfl ?_ | refine aops_q (aq_load_own1 rfl zUpd List.not_mem_nil rfl zAss zScal) rfl rfl rfl ?_
           refine aops_p (ap_move rfl) rfl rfl rfl ?_
           first | refine aops_p (ap_index rfl rfl rfl rfl (by decide) rfl zAss) rfl rfl rfl ?_ | refine aops_p (ap_index rfl rfl rfl rfl (by decide) (by omega) zAss) rfl rfl rfl ?_ | refine aops_p (ap_index_own rfl rfl rfl rfl rfl (by first | omega | (simp only [List.length_map, List.length_set, avs_len]; omega))) rfl rfl rfl ?_
           first | refine aops_p (ap_fieldAddr (off := 1) (sz := 3) (g := true) rfl rfl) rfl rfl rfl ?_ | refine aops_p (ap_fieldAddr_el (off := 1) (sz := 3) (g := true) rfl rfl zRc) rfl rfl rfl ?_
           first | refine aops_q (aq_load rfl zUpd List.not_mem_nil rfl rfl zRc) rfl rfl rfl ?_ | refine aops_q (aq_load_el rfl rfl rfl rfl (fun _ h => absurd h List.not_mem_nil)) rfl rfl rfl ?_
           refine aops_p (ap_move rfl) rfl rfl rfl ?_
           refine aops_call_b zRc (rsat_con _ y.t) rfl rfl (fun c36 hc36 => ?_)
           refine aops_p (ap_not rfl) rfl rfl rfl ?_
           refine aops_nil ?_
           refine seqQ_n ?_
           refine awp_cond rfl (fun hc => ?_) (fun hc => ?_)
           · refine awp_seq ?_
             refine awp_region ?_
             refine aops_p (ap_assign rfl) rfl rfl rfl ?_
             refine aops_nil ?_
             refine seqQ_n ?_
             refine awp_ret ?_
             refine blockQ_r ?_
             refine seqQ_r ?_
             refine seqQ_r ?_
             refine blockQ_r ?_
             refine seqQ_r ?_
             refine post_is (.tmp rfl .nil) (by repeat (first | exact .nil | refine .cons (by first | exact .here | exact .there .here | exact .there (.there .here) | exact .there (.there (.there .here)) | exact .there (.there (.there (.there .here)))) ?_)) ?_
             rw [quorum_bad hs hxh (by rw [tOf_get hy]; exact hc36.trans (not_t hc))]; rfl
           · refine awp_skip ?_
             refine blockQ_n ?_
             refine seqQ_n ?_
             refine awp_region ?_
             refine aops_p (ap_arith rfl rfl rfl (by omega)) rfl rfl rfl ?_
             refine aops_p (ap_move rfl) rfl rfl rfl ?_
             refine aops_nil ?_
             refine seqQ_n ?_
             refine ⟨k + 1, ⟨by omega, fun z hz => ?_⟩, by omega, wk zSub (by repeat (first | exact .nil | refine .cons (by first | exact .here | exact .there .here | exact .there (.there .here) | exact .there (.there (.there .here)) | exact .there (.there (.there (.there .here)))) ?_))⟩
             rw [List.take_add_one, hx] at hz
             rcases List.mem_append.1 hz with hz | hz
             · exact hI z hz
             · obtain rfl : z = (j : Int) := (by simpa using hz)
               rw [tOf_get hy]; exact hc36.trans (not_f hc)
         · have hge := of_decide_eq_false hc
           refine awp_exit ?_
           refine seqQ_x ?_
           refine seqQ_x ?_
           refine blockQ_x rfl ?_
           refine seqQ_n ?_
           refine awp_seq ?_
           refine awp_region ?_
           refine aops_p (ap_assign rfl) rfl rfl rfl ?_
           refine aops_nil ?_
           refine seqQ_n ?_
           refine awp_ret ?_
           refine post_is (.tmp rfl .nil) (by repeat (first | exact .nil | refine .cons (by first | exact .here | exact .there .here | exact .there (.there .here) | exact .there (.there (.there .here)) | exact .there (.there (.there (.there .here)))) ?_)) ?_
           rw [List.take_of_length_le (by omega)] at hI
           have hs0 := of_decide_eq_false (show decide ((s : Int) = 0) = false by with_reducible assumption)
           rw [(quorumC_iff hs).2 ⟨by omega, hin, fun x hx => hI x (mem_nodesOf.2 hx)⟩]; rfl
        )
    )
theorem rquorum_con (c : List Mem) (s : Int) : Con none Try.prog 15 [cv c, .i s] [] (Is (.b (quorumV c s)) []) := by
  cases h : valid s with
  | false => rw [quorumV_inval h]; exact rquorum0_con c s h
  | true =>
    obtain ⟨m, rfl, hm⟩ := valid_nat h
    rw [quorumV_nat hm]
    exact rquorumN_con c m hm
def blankT (t : Trust) : Bool := decide (t.th = 0) && (decide (t.nodes.length = 0) && decide (t.inner.length = 0))
theorem memV_0 {m : Mem} {n : Nat} {b : Bool} (h : m.decl = false) (hb : blankT m.t = b) : memV m n = if b = true then 0 else 1 := by
  unfold memV
  rw [h, ← hb]
  unfold blankT
  simp [and_assoc]
theorem blank_con (t : Trust) : Con none Try.prog 61 [av t] [] (Is (.b (blankT t)) []) := by
  have hcap : capB = 140737488355328 := rfl
  have hl1 : (t.nodes.map D.i).length = t.nodes.length := by simp
  have hl2 := avs_len t.inner
  refine con_intro Try.func61 rfl Try.call61 rfl ?_
  refine awp_seq ?_
  refine awp_region ?_
  refine aops_box rfl zFlat rfl rfl (fun b1 => ?_)
  refine aops_p (ap_assign rfl) rfl rfl rfl ?_
  refine aops_nil ?_
  refine seqQ_n ?_
  refine awp_seq ?_
  refine awp_region ?_
  first | refine aops_p (ap_fieldAddr (off := 0) (sz := 1) (g := false) rfl rfl) rfl rfl rfl ?_ | refine aops_p (ap_fieldAddr_el (off := 0) (sz := 1) (g := false) rfl rfl zRc) rfl rfl rfl ?_
  first | refine aops_q (aq_load1 rfl zUpd List.not_mem_nil rfl zRc) rfl rfl rfl ?_ | refine aops_q (aq_load_el1 rfl rfl zScal (fun _ h => absurd h List.not_mem_nil)) rfl rfl rfl ?_ | refine aops_q (aq_load_el1' rfl rfl zScal (fun _ h => absurd h List.not_mem_nil)) rfl rfl rfl ?_ | refine aops_q (aq_load_own1 rfl zUpd List.not_mem_nil rfl zAss zScal) rfl rfl rfl ?_
  refine aops_p (ap_cmp rfl rfl rfl) rfl rfl rfl ?_
  refine aops_p (ap_move rfl) rfl rfl rfl ?_
  all_goals (first | (refine aops_yes rfl rfl rfl rfl zDec ?_; (first | refine aops_p (ap_fieldAddr (off := 1) (sz := 1) (g := false) rfl rfl) rfl rfl rfl ?_ | refine aops_p (ap_fieldAddr_el (off := 1) (sz := 1) (g := false) rfl rfl zRc) rfl rfl rfl ?_)) | refine aops_no_u rfl rfl rfl ?_ | refine aops_no_t rfl rfl rfl rfl zDec ?_ | (refine aops_guard_t rfl rfl rfl rfl (fun hg => ?_) (fun hg => ?_); case' _ => (first | refine aops_p (ap_fieldAddr (off := 1) (sz := 1) (g := false) rfl rfl) rfl rfl rfl ?_ | refine aops_p (ap_fieldAddr_el (off := 1) (sz := 1) (g := false) rfl rfl zRc) rfl rfl rfl ?_)))
  all_goals (first | (refine aops_yes rfl rfl rfl rfl zDec ?_; (first | refine aops_q (aq_load1 rfl zUpd List.not_mem_nil rfl zRc) rfl rfl rfl ?_ | refine aops_q (aq_load_el1 rfl rfl zScal (fun _ h => absurd h List.not_mem_nil)) rfl rfl rfl ?_ | refine aops_q (aq_load_el1' rfl rfl zScal (fun _ h => absurd h List.not_mem_nil)) rfl rfl rfl ?_ | refine aops_q (aq_load_own1 rfl zUpd List.not_mem_nil rfl zAss zScal) rfl rfl rfl ?_)) | refine aops_no_u rfl rfl rfl ?_ | refine aops_no_t rfl rfl rfl rfl zDec ?_ | (refine aops_guard_t rfl rfl rfl rfl (fun hg => ?_) (fun hg => ?_); case' _ => (first | refine aops_q (aq_load1 rfl zUpd List.not_mem_nil rfl zRc) rfl rfl rfl ?_ | refine aops_q (aq_load_el1 rfl rfl zScal (fun _ h => absurd h List.not_mem_nil)) rfl rfl rfl ?_ | refine aops_q (aq_load_el1' rfl rfl zScal (fun _ h => absurd h List.not_mem_nil)) rfl rfl rfl ?_ | refine aops_q (aq_load_own1 rfl zUpd List.not_mem_nil rfl zAss zScal) rfl rfl rfl ?_)))
  all_goals (first | (refine aops_yes rfl rfl rfl rfl zDec ?_; (first | refine aops_len rfl rfl rfl rfl (fun _ => ?_) | refine aops_p (ap_len_arr rfl zUpd rfl) rfl rfl rfl ?_ | refine aops_p (ap_len_nil rfl rfl) rfl rfl rfl ?_)) | refine aops_no_u rfl rfl rfl ?_ | refine aops_no_t rfl rfl rfl rfl zDec ?_ | (refine aops_guard_t rfl rfl rfl rfl (fun hg => ?_) (fun hg => ?_); case' _ => (first | refine aops_len rfl rfl rfl rfl (fun _ => ?_) | refine aops_p (ap_len_arr rfl zUpd rfl) rfl rfl rfl ?_ | refine aops_p (ap_len_nil rfl rfl) rfl rfl rfl ?_)))
  all_goals (first | (refine aops_yes rfl rfl rfl rfl zDec ?_; ((rw [hl1]; refine aops_p (ap_cmp rfl rfl rfl) rfl rfl rfl ?_))) | refine aops_no_u rfl rfl rfl ?_ | refine aops_no_t rfl rfl rfl rfl zDec ?_ | (refine aops_guard_t rfl rfl rfl rfl (fun hg => ?_) (fun hg => ?_); case' _ => ((rw [hl1]; refine aops_p (ap_cmp rfl rfl rfl) rfl rfl rfl ?_))))
  all_goals (first | refine aops_p (ap_pick_true rfl zDec rfl) rfl rfl rfl ?_ | refine aops_p (ap_pick_false rfl zDec rfl) rfl rfl rfl ?_)
  all_goals (refine aops_p (ap_move rfl) rfl rfl rfl ?_)
  all_goals (first | (refine aops_yes rfl rfl rfl rfl zDec ?_; (first | refine aops_p (ap_fieldAddr (off := 2) (sz := 1) (g := false) rfl rfl) rfl rfl rfl ?_ | refine aops_p (ap_fieldAddr_el (off := 2) (sz := 1) (g := false) rfl rfl zRc) rfl rfl rfl ?_)) | refine aops_no_u rfl rfl rfl ?_ | refine aops_no_t rfl rfl rfl rfl zDec ?_ | (refine aops_guard_t rfl rfl rfl rfl (fun hg => ?_) (fun hg => ?_); case' _ => (first | refine aops_p (ap_fieldAddr (off := 2) (sz := 1) (g := false) rfl rfl) rfl rfl rfl ?_ | refine aops_p (ap_fieldAddr_el (off := 2) (sz := 1) (g := false) rfl rfl zRc) rfl rfl rfl ?_)))
  all_goals (first | (refine aops_yes rfl rfl rfl rfl zDec ?_; (first | refine aops_q (aq_load1 rfl zUpd List.not_mem_nil rfl zRc) rfl rfl rfl ?_ | refine aops_q (aq_load_el1 rfl rfl zScal (fun _ h => absurd h List.not_mem_nil)) rfl rfl rfl ?_ | refine aops_q (aq_load_el1' rfl rfl zScal (fun _ h => absurd h List.not_mem_nil)) rfl rfl rfl ?_ | refine aops_q (aq_load_own1 rfl zUpd List.not_mem_nil rfl zAss zScal) rfl rfl rfl ?_)) | refine aops_no_u rfl rfl rfl ?_ | refine aops_no_t rfl rfl rfl rfl zDec ?_ | (refine aops_guard_t rfl rfl rfl rfl (fun hg => ?_) (fun hg => ?_); case' _ => (first | refine aops_q (aq_load1 rfl zUpd List.not_mem_nil rfl zRc) rfl rfl rfl ?_ | refine aops_q (aq_load_el1 rfl rfl zScal (fun _ h => absurd h List.not_mem_nil)) rfl rfl rfl ?_ | refine aops_q (aq_load_el1' rfl rfl zScal (fun _ h => absurd h List.not_mem_nil)) rfl rfl rfl ?_ | refine aops_q (aq_load_own1 rfl zUpd List.not_mem_nil rfl zAss zScal) rfl rfl rfl ?_)))
  all_goals (first | (refine aops_yes rfl rfl rfl rfl zDec ?_; (first | refine aops_len rfl rfl rfl rfl (fun _ => ?_) | refine aops_p (ap_len_arr rfl zUpd rfl) rfl rfl rfl ?_ | refine aops_p (ap_len_nil rfl rfl) rfl rfl rfl ?_)) | refine aops_no_u rfl rfl rfl ?_ | refine aops_no_t rfl rfl rfl rfl zDec ?_ | (refine aops_guard_t rfl rfl rfl rfl (fun hg => ?_) (fun hg => ?_); case' _ => (first | refine aops_len rfl rfl rfl rfl (fun _ => ?_) | refine aops_p (ap_len_arr rfl zUpd rfl) rfl rfl rfl ?_ | refine aops_p (ap_len_nil rfl rfl) rfl rfl rfl ?_)))
  all_goals (first | (refine aops_yes rfl rfl rfl rfl zDec ?_; ((rw [hl2]; refine aops_p (ap_cmp rfl rfl rfl) rfl rfl rfl ?_))) | refine aops_no_u rfl rfl rfl ?_ | refine aops_no_t rfl rfl rfl rfl zDec ?_ | (refine aops_guard_t rfl rfl rfl rfl (fun hg => ?_) (fun hg => ?_); case' _ => ((rw [hl2]; refine aops_p (ap_cmp rfl rfl rfl) rfl rfl rfl ?_))))
  all_goals (first | refine aops_p (ap_pick_true rfl zDec rfl) rfl rfl rfl ?_ | refine aops_p (ap_pick_false rfl zDec rfl) rfl rfl rfl ?_)
  all_goals (refine aops_p (ap_assign rfl) rfl rfl rfl ?_)
  all_goals (
    refine aops_nil ?_
    refine seqQ_n ?_
    refine awp_ret ?_
    refine post_is (.tmp rfl .nil) (by repeat (first | exact .nil | refine .cons (by first | exact .here | exact .there .here | exact .there (.there .here) | exact .there (.there (.there .here)) | exact .there (.there (.there (.there .here)))) ?_)) ?_
    unfold blankT
    first
    | (simp_all [resD]; done)
    | (have e1 : t.nodes = [] := by simpa using of_decide_eq_true (show decide (((t.nodes.length : Nat) : Int) = 0) = true by with_reducible assumption); simp_all [resD]; done)
    )
theorem member_con (m : Mem) (hm : sizeT m.t ≤ 1000000000) (n : Nat) (hn : n ≤ 10) : Con none Try.prog 52 [mv m, .i n] [] (Is (.i (memV m n)) []) := by
  have hcap : capB = 140737488355328 := rfl
  have hp10 := pow_le10 hn
  have hul := uses_lt m.t
  refine con_intro Try.func52 rfl Try.call52 rfl ?_
  refine awp_seq ?_
  refine awp_region ?_
  refine aops_box rfl zFlat rfl rfl (fun b2 => ?_)
  refine aops_p (ap_assign rfl) rfl rfl rfl ?_
  refine aops_nil ?_
  refine seqQ_n ?_
  refine awp_seq ?_
  refine awp_seq ?_
  refine awp_region ?_
  first | refine aops_p (ap_fieldAddr (off := 0) (sz := 1) (g := false) rfl rfl) rfl rfl rfl ?_ | refine aops_p (ap_fieldAddr_el (off := 0) (sz := 1) (g := false) rfl rfl zRc) rfl rfl rfl ?_
  first | refine aops_q (aq_load1 rfl zUpd List.not_mem_nil rfl zRc) rfl rfl rfl ?_ | refine aops_q (aq_load_el1 rfl rfl zScal (fun _ h => absurd h List.not_mem_nil)) rfl rfl rfl ?_ | refine aops_q (aq_load_el1' rfl rfl zScal (fun _ h => absurd h List.not_mem_nil)) rfl rfl rfl ?_ | refine aops_q (aq_load_own1 rfl zUpd List.not_mem_nil rfl zAss zScal) rfl rfl rfl ?_
  refine aops_p (ap_not rfl) rfl rfl rfl ?_
  refine aops_nil ?_
  refine seqQ_n ?_
  refine awp_cond rfl (fun hc => ?_) (fun hc => ?_)
  · have hdl : m.decl = false := not_t hc
    refine awp_seq ?_
    refine awp_seq ?_
    refine awp_region ?_
    first | refine aops_p (ap_fieldAddr (off := 1) (sz := 3) (g := true) rfl rfl) rfl rfl rfl ?_ | refine aops_p (ap_fieldAddr_el (off := 1) (sz := 3) (g := true) rfl rfl zRc) rfl rfl rfl ?_
    first | refine aops_q (aq_load rfl zUpd List.not_mem_nil rfl rfl zRc) rfl rfl rfl ?_ | refine aops_q (aq_load_el rfl rfl rfl rfl (fun _ h => absurd h List.not_mem_nil)) rfl rfl rfl ?_
    refine aops_call_b zRc (blank_con m.t) rfl rfl (fun c11 hc11 => ?_)
    refine aops_p (ap_not rfl) rfl rfl rfl ?_
    refine aops_nil ?_
    refine seqQ_n ?_
    refine awp_cond rfl (fun hc => ?_) (fun hc => ?_)
    · refine awp_seq ?_
      refine awp_region ?_
      refine aops_p (ap_assign rfl) rfl rfl rfl ?_
      refine aops_nil ?_
      refine seqQ_n ?_
      refine awp_ret ?_
      refine seqQ_r ?_
      refine seqQ_r ?_
      refine post_is (.tmp rfl .nil) .nil ?_
      rw [memV_0 hdl (hc11.trans (not_t hc))]; rfl
    · refine awp_skip ?_
      refine seqQ_n ?_
      refine awp_seq ?_
      refine awp_region ?_
      refine aops_p (ap_assign rfl) rfl rfl rfl ?_
      refine aops_nil ?_
      refine seqQ_n ?_
      refine awp_ret ?_
      refine seqQ_r ?_
      refine post_is (.tmp rfl .nil) .nil ?_
      rw [memV_0 hdl (hc11.trans (not_f hc))]; rfl
  · have hdl : m.decl = true := not_f hc
    refine awp_skip ?_
    refine seqQ_n ?_
    refine awp_seq ?_
    refine awp_seq ?_
    refine awp_region ?_
    first | refine aops_p (ap_fieldAddr (off := 1) (sz := 3) (g := true) rfl rfl) rfl rfl rfl ?_ | refine aops_p (ap_fieldAddr_el (off := 1) (sz := 3) (g := true) rfl rfl zRc) rfl rfl rfl ?_
    first | refine aops_q (aq_load rfl zUpd List.not_mem_nil rfl rfl zRc) rfl rfl rfl ?_ | refine aops_q (aq_load_el rfl rfl rfl rfl (fun _ h => absurd h List.not_mem_nil)) rfl rfl rfl ?_
    refine aops_call_v zRc (validT_con m.t hm) rfl rfl ?_
    refine aops_p (ap_assign rfl) rfl rfl rfl ?_
    refine aops_nil ?_
    refine seqQ_n ?_
    refine awp_seq ?_
    refine awp_region ?_
    refine aops_p (ap_move rfl) rfl rfl rfl ?_
    refine aops_p (ap_cmp rfl rfl rfl) rfl rfl rfl ?_
    refine aops_nil ?_
    refine seqQ_n ?_
    refine awp_cond rfl (fun hc => ?_) (fun hc => ?_)
    · have hv := of_neq_true hc
      refine awp_seq ?_
      refine awp_region ?_
      refine aops_p (ap_move rfl) rfl rfl rfl ?_
      refine aops_p (ap_assign rfl) rfl rfl rfl ?_
      refine aops_nil ?_
      refine seqQ_n ?_
      refine awp_ret ?_
      refine seqQ_r ?_
      refine post_is (.tmp rfl .nil) .nil ?_
      unfold memV; rw [if_pos hdl, if_neg hv]; rfl
    · have hv := of_neq_false hc
      refine awp_skip ?_
      refine seqQ_n ?_
      refine awp_seq ?_
      refine awp_seq ?_
      refine awp_draw (Hm := []) zKr zSplit ?_
      first | refine aany_take 0 rfl (.none rfl) zKr zKr zKr (AP.ar (ap_fieldAddr (off := 1) (sz := 3) (g := true) rfl rfl)) rfl rfl ?_ | refine aany_take 0 rfl (.none rfl) zKr zKr zKr (AP.ar (ap_fieldAddr_el (off := 1) (sz := 3) (g := true) rfl rfl zRc)) rfl rfl ?_
      first | refine aany_take 1 rfl (.none rfl) zKr zKr zKr (ar_load rfl zUpd rfl rfl zRc) rfl rfl ?_ | refine aany_take 1 rfl (.none rfl) zKr zKr zKr (AQ.ar (aq_load_el rfl rfl rfl rfl (fun _ h => h))) rfl rfl ?_
      refine aany_take 3 rfl (.none rfl) zKr zKr zKr (AP.ar (ap_move rfl)) rfl rfl ?_
      refine aany_take 4 rfl (.none rfl) zKr zKr zKr (AP.ar (ap_shl (p := 1) rfl rfl rfl (by omega) (by omega))) rfl rfl ?_
      refine aany_one 2 zKr rfl (.none rfl) ?_
      refine aops_call_v zRc (uses_con m.t) rfl rfl ?_
      refine aops_nil ?_
      refine aany_take 5 rfl (.none rfl) zKr zKr zKr (AP.ar (ap_cmp rfl rfl rfl)) rfl rfl ?_
      refine aany_nil zKr ?_
      all_goals (
        refine seqQ_n ?_
        refine awp_cond rfl (fun hc => ?_) (fun hc => ?_)
        · have hge := of_decide_eq_true hc
          refine awp_seq ?_
          refine awp_region ?_
          refine aops_p (ap_assign rfl) rfl rfl rfl ?_
          refine aops_nil ?_
          refine seqQ_n ?_
          refine awp_ret ?_
          refine seqQ_r ?_
          refine post_is (.tmp rfl .nil) .nil ?_
          unfold memV; rw [if_pos hdl, if_pos hv, if_pos (by omega)]; rfl
        · have hge := of_decide_eq_false hc
          refine awp_skip ?_
          refine seqQ_n ?_
          refine awp_seq ?_
          refine awp_region ?_
          refine aops_p (ap_assign rfl) rfl rfl rfl ?_
          refine aops_nil ?_
          refine seqQ_n ?_
          refine awp_ret ?_
          refine post_is (.tmp rfl .nil) .nil ?_
          unfold memV; rw [if_pos hdl, if_pos hv, if_neg (by omega)]; rfl
        )
theorem validC_con (c : List Mem) (hs : ∀ m ∈ c, sizeT m.t ≤ 1000000000) : Con none Try.prog 40 [cv c] [] (Is (.i (validC c)) []) := by
  have hcap : capB = 140737488355328 := rfl
  have hml : (c.map mv).length = c.length := by simp
  refine con_intro Try.func40 rfl Try.call40 rfl ?_
  refine awp_seq ?_
  refine awp_region ?_
  refine aops_box rfl zFlat rfl rfl (fun b1 => ?_)
  refine aops_p (ap_assign rfl) rfl rfl rfl ?_
  refine aops_nil ?_
  refine seqQ_n ?_
  refine awp_seq ?_
  refine awp_seq ?_
  refine awp_region ?_
  first | refine aops_p (ap_fieldAddr (off := 0) (sz := 1) (g := false) rfl rfl) rfl rfl rfl ?_ | refine aops_p (ap_fieldAddr_el (off := 0) (sz := 1) (g := false) rfl rfl zRc) rfl rfl rfl ?_
  first | refine aops_q (aq_load1 rfl zUpd List.not_mem_nil rfl zRc) rfl rfl rfl ?_ | refine aops_q (aq_load_el1 rfl rfl zScal (fun _ h => absurd h List.not_mem_nil)) rfl rfl rfl ?_ | refine aops_q (aq_load_el1' rfl rfl zScal (fun _ h => absurd h List.not_mem_nil)) rfl rfl rfl ?_ | refine aops_q (aq_load_own1 rfl zUpd List.not_mem_nil rfl zAss zScal) rfl rfl rfl ?_
  first | refine aops_len rfl rfl rfl rfl (fun _ => ?_) | refine aops_p (ap_len_arr rfl zUpd rfl) rfl rfl rfl ?_ | refine aops_p (ap_len_nil rfl rfl) rfl rfl rfl ?_
  refine aops_p (ap_cmp rfl rfl rfl) rfl rfl rfl ?_
  refine aops_nil ?_
  refine seqQ_n ?_
  refine awp_cond rfl (fun hc => ?_) (fun hc => ?_)
  · have hlen := of_decide_eq_true hc
    refine awp_seq ?_
    refine awp_region ?_
    refine aops_p (ap_assign rfl) rfl rfl rfl ?_
    refine aops_nil ?_
    refine seqQ_n ?_
    refine awp_ret ?_
    refine seqQ_r ?_
    refine post_is (.tmp rfl .nil) .nil ?_
    unfold validC; rw [if_pos (by omega)]; rfl
  · have hlen := of_decide_eq_false hc
    refine awp_skip ?_
    refine seqQ_n ?_
    refine awp_seq ?_
    refine awp_seq ?_
    refine awp_region ?_
    first | refine aops_p (ap_fieldAddr (off := 0) (sz := 1) (g := false) rfl rfl) rfl rfl rfl ?_ | refine aops_p (ap_fieldAddr_el (off := 0) (sz := 1) (g := false) rfl rfl zRc) rfl rfl rfl ?_
    first | refine aops_q (aq_load1 rfl zUpd List.not_mem_nil rfl zRc) rfl rfl rfl ?_ | refine aops_q (aq_load_el1 rfl rfl zScal (fun _ h => absurd h List.not_mem_nil)) rfl rfl rfl ?_ | refine aops_q (aq_load_el1' rfl rfl zScal (fun _ h => absurd h List.not_mem_nil)) rfl rfl rfl ?_ | refine aops_q (aq_load_own1 rfl zUpd List.not_mem_nil rfl zAss zScal) rfl rfl rfl ?_
    first | refine aops_len rfl rfl rfl rfl (fun _ => ?_) | refine aops_p (ap_len_arr rfl zUpd rfl) rfl rfl rfl ?_ | refine aops_p (ap_len_nil rfl rfl) rfl rfl rfl ?_
    refine aops_p (ap_move rfl) rfl rfl rfl ?_
    refine aops_nil ?_
    refine seqQ_n ?_
    refine awp_block ?_
    refine awp_loop1 [1, 11, 12] [.box b1 _ _] (fun (k : Nat) r => (13, .i (k : Int)) :: r) (fun (k : Nat) r => r) (fun (k : Nat) => k ≤ c.length ∧ memsV c.length (c.drop k) = memsV c.length c) (fun (k : Nat) => c.length - k) (0) zRc ⟨by omega, by simp⟩ (wk zSub (by repeat (first | exact .nil | refine .cons (by first | exact .here | exact .there .here | exact .there (.there .here) | exact .there (.there (.there .here)) | exact .there (.there (.there (.there .here)))) ?_))) ?_
    intro k ⟨hk, hI⟩
    refine awp_seq ?_
    refine awp_region ?_
    refine aops_p (ap_cmp rfl rfl rfl) rfl rfl rfl ?_
    refine aops_nil ?_
    refine seqQ_n ?_
    refine awp_seq ?_
    refine awp_cond rfl (fun hc => ?_) (fun hc => ?_)
    · have hlt := of_decide_eq_true hc
      obtain ⟨x, hx, hd⟩ := drop_cons (l := c) (k := k) (by omega)
      have hx' := getMap mv hx
      refine awp_skip ?_
      refine seqQ_n ?_
      refine awp_seq ?_
      refine awp_block ?_
      refine awp_seq ?_
      refine awp_region ?_
      first | refine aops_p (ap_index rfl rfl rfl rfl (by decide) rfl zAss) rfl rfl rfl ?_ | refine aops_p (ap_index rfl rfl rfl rfl (by decide) (by omega) zAss) rfl rfl rfl ?_ | refine aops_p (ap_index_own rfl rfl rfl rfl rfl (by first | omega | (simp only [List.length_map, List.length_set, avs_len]; omega))) rfl rfl rfl ?_
      first | refine aops_q (aq_load rfl zUpd List.not_mem_nil rfl rfl zRc) rfl rfl rfl ?_ | refine aops_q (aq_load_el rfl rfl rfl rfl (fun _ h => absurd h List.not_mem_nil)) rfl rfl rfl ?_
      refine aops_alloc rfl zRc rfl rfl (fun b4 => ?_)
      first | refine aops_store rfl rfl zFlat zUpd rfl zRc ?_ | refine aops_store_own1 rfl rfl zScal zUpd rfl (by simp only [List.length_set, List.length_map]; omega) ?_
      refine aops_nil ?_
      refine seqQ_n ?_
      refine awp_seq ?_
      refine awp_region ?_
      first | refine aops_q (aq_load rfl zUpd List.not_mem_nil rfl rfl zRc) rfl rfl rfl ?_ | refine aops_q (aq_load_el rfl rfl rfl rfl (fun _ h => absurd h List.not_mem_nil)) rfl rfl rfl ?_
      first | refine aops_p (ap_fieldAddr (off := 0) (sz := 1) (g := false) rfl rfl) rfl rfl rfl ?_ | refine aops_p (ap_fieldAddr_el (off := 0) (sz := 1) (g := false) rfl rfl zRc) rfl rfl rfl ?_
      first | refine aops_q (aq_load1 rfl zUpd List.not_mem_nil rfl zRc) rfl rfl rfl ?_ | refine aops_q (aq_load_el1 rfl rfl zScal (fun _ h => absurd h List.not_mem_nil)) rfl rfl rfl ?_ | refine aops_q (aq_load_el1' rfl rfl zScal (fun _ h => absurd h List.not_mem_nil)) rfl rfl rfl ?_ | refine aops_q (aq_load_own1 rfl zUpd List.not_mem_nil rfl zAss zScal) rfl rfl rfl ?_
      first | refine aops_len rfl rfl rfl rfl (fun _ => ?_) | refine aops_p (ap_len_arr rfl zUpd rfl) rfl rfl rfl ?_ | refine aops_p (ap_len_nil rfl rfl) rfl rfl rfl ?_
      (rw [hml]; refine aops_call_v zRc (member_con x (hs x (List.mem_of_getElem? hx)) c.length (by omega)) rfl rfl ?_)
      refine aops_p (ap_assign rfl) rfl rfl rfl ?_
      refine aops_nil ?_
      refine seqQ_n ?_
      refine awp_seq ?_
      refine awp_region ?_
      refine aops_p (ap_move rfl) rfl rfl rfl ?_
      refine aops_p (ap_cmp rfl rfl rfl) rfl rfl rfl ?_
      refine aops_nil ?_
      refine seqQ_n ?_
      refine awp_cond rfl (fun hc => ?_) (fun hc => ?_)
      · refine awp_seq ?_
        refine awp_region ?_
        refine aops_p (ap_move rfl) rfl rfl rfl ?_
        refine aops_p (ap_assign rfl) rfl rfl rfl ?_
        refine aops_nil ?_
        refine seqQ_n ?_
        refine awp_ret ?_
        refine blockQ_r ?_
        refine seqQ_r ?_
        refine seqQ_r ?_
        refine blockQ_r ?_
        refine seqQ_r ?_
        refine post_is (.tmp rfl .nil) .nil ?_
        rw [hd] at hI; simp only [memsV] at hI
        rw [if_neg (of_neq_true hc)] at hI
        unfold validC; rw [if_neg (by omega), ← hI]; rfl
      · refine awp_skip ?_
        refine blockQ_n ?_
        refine seqQ_n ?_
        refine awp_region ?_
        refine aops_p (ap_arith rfl rfl rfl (by omega)) rfl rfl rfl ?_
        refine aops_p (ap_move rfl) rfl rfl rfl ?_
        refine aops_nil ?_
        refine seqQ_n ?_
        rw [hd] at hI; simp only [memsV] at hI
        rw [if_pos (of_neq_false hc)] at hI
        refine ⟨k + 1, ⟨by omega, hI⟩, by omega, wk zSub (by repeat (first | exact .nil | refine .cons (by first | exact .here | exact .there .here | exact .there (.there .here) | exact .there (.there (.there .here)) | exact .there (.there (.there (.there .here)))) ?_))⟩
    · have hge := of_decide_eq_false hc
      rw [drop_nil (by omega)] at hI; simp only [memsV] at hI
      refine awp_exit ?_
      refine seqQ_x ?_
      refine seqQ_x ?_
      refine blockQ_x rfl ?_
      refine seqQ_n ?_
      refine awp_seq ?_
      refine awp_region ?_
      refine aops_p (ap_assign rfl) rfl rfl rfl ?_
      refine aops_nil ?_
      refine seqQ_n ?_
      refine awp_ret ?_
      refine post_is (.tmp rfl .nil) .nil ?_
      unfold validC; rw [if_neg (by omega), ← hI]; rfl
theorem v32 : validC (sameC 3 2) = 0 := same_valid (by omega) (by omega)
theorem a32 : aloneC (sameC 3 2) 0 = false := by kernel_rfl
theorem lower_con (k : Int) : Con none Try.prog 60 [.i k] [] (Is (.i (lw k)) []) := by
  have hcap : capB = 140737488355328 := rfl
  refine con_intro Try.func60 rfl Try.call60 rfl ?_
  refine awp_seq ?_
  refine awp_region ?_
  refine aops_p (ap_assign rfl) rfl rfl rfl ?_
  refine aops_nil ?_
  refine seqQ_n ?_
  refine awp_seq ?_
  refine awp_seq ?_
  refine awp_region ?_
  refine aops_p (ap_move rfl) rfl rfl rfl ?_
  refine aops_p (ap_cmp rfl rfl rfl) rfl rfl rfl ?_
  refine aops_nil ?_
  refine seqQ_n ?_
  refine awp_cond rfl (fun hc => ?_) (fun hc => ?_)
  · refine awp_seq ?_
    refine awp_region ?_
    refine aops_p (ap_move rfl) rfl rfl rfl ?_
    refine aops_p (ap_assign rfl) rfl rfl rfl ?_
    refine aops_nil ?_
    refine seqQ_n ?_
    refine awp_ret ?_
    refine seqQ_r ?_
    refine post_is (.tmp rfl .nil) .nil ?_
    unfold lw; rw [if_pos (of_decide_eq_true hc)]; rfl
  · refine awp_skip ?_
    refine seqQ_n ?_
    refine awp_seq ?_
    refine awp_region ?_
    refine aops_p (ap_move rfl) rfl rfl rfl ?_
    refine aops_p (ap_arithw rfl rfl rfl) rfl rfl rfl ?_
    refine aops_p (ap_assign rfl) rfl rfl rfl ?_
    refine aops_nil ?_
    refine seqQ_n ?_
    refine awp_ret ?_
    refine post_is (.tmp rfl .nil) .nil ?_
    unfold lw; rw [if_neg (of_decide_eq_false hc)]; rfl
theorem less_mk {s : Int} {t : Trust} {th th2 : Int} {q : List Int} {q2 : List Trust} (h1 : lessN s t.nodes t.th [] = (th, q)) (h2 : lessI s t.inner th [] = (th2, q2)) : less s t = .mk th2 q q2 := by unfold less; rw [h1, h2]
end Go.Proofs.Ytkgcehimmfkikaa
