/- The walks of: apart_con, r6valid_con, rholds_con, mtrace_con, mTrace_con, branches_con, smallT_con. Each says what one function of the program answers, for the arguments that its statement names. No condition beyond what each theorem says. -/
import Derived.Test.YtanlbfnlnfkcjaaIntersectionAnswersW7
import Derived.Test.YtanlbfnlnfkcjaaProg
import Derived.KernelRfl
import Derived.Tactics
import Derived.Tactics2
import Derived.StillTactics
set_option linter.unusedVariables false
set_option linter.unusedSimpArgs false
set_option linter.unnecessarySimpa false
set_option maxRecDepth 4000
namespace Go.Proofs.Ytanlbfnlnfkcjaa
open Go Go.Av Go.Tq
theorem apart_con (c : List Mem) (hcl : c.length ≤ 10) : Con Try.prog 107 [cv c] [] (fun d H => ∃ a b : Nat, d = .tup [.i a, .i b] ∧ FindR c a b ∧ H = []) := by
  have hcap : capB = 140737488355328 := rfl
  have h10 := pow_le10 hcl
  have hpos : 0 < 2 ^ c.length := Nat.pow_pos (by omega)
  have hll : ((subs (2 ^ c.length - 1)).map D.i).length = (subs (2 ^ c.length - 1)).length := by simp
  refine con_intro Try.func107 rfl Try.call107 rfl ?_
  refine awp_seq ?_
  refine awp_region ?_
  refine aops_box rfl zFlat rfl rfl (fun b1 => ?_)
  refine aops_p (ap_assign rfl) rfl rfl rfl ?_
  refine aops_p (ap_assign rfl) rfl rfl rfl ?_
  refine aops_nil ?_
  refine seqQ_n ?_
  refine awp_seq ?_
  refine awp_seq ?_
  refine awp_region ?_
  first | refine aops_q (aq_load rfl zUpd List.not_mem_nil rfl rfl zRc) rfl rfl rfl ?_ | refine aops_q (aq_load_el rfl rfl rfl rfl (fun _ h => absurd h List.not_mem_nil)) rfl rfl rfl ?_
  refine aops_call_v zRc (rmembers_con c hcl) rfl rfl ?_
  refine aops_call_v zRc (subsets_con (2 ^ c.length - 1) (by omega)) rfl rfl ?_
  first | refine aops_len rfl rfl rfl rfl (fun _ => ?_) | refine aops_p (ap_len_arr rfl zUpd rfl) rfl rfl rfl ?_ | refine aops_p (ap_len_nil rfl rfl) rfl rfl rfl ?_
  refine aops_p (ap_move rfl) rfl rfl rfl ?_
  refine aops_nil ?_
  refine seqQ_n ?_
  refine awp_block ?_
  refine awp_loop1 [1, 9, 10] [.box b1 _ _] (fun (k : Nat) r => (11, .i (k : Int)) :: r) (fun (k : Nat) r => r) (fun (k : Nat) => k ≤ (subs (2 ^ c.length - 1)).length ∧ ∀ x ∈ (subs (2 ^ c.length - 1)).take k, quorumC c x.toNat = true → great c (co c x.toNat) = 0) (fun (k : Nat) => (subs (2 ^ c.length - 1)).length - k) (0) zRc ⟨by omega, by simp⟩ (wk zSub (by repeat (first | exact .nil | refine .cons (by first | exact .here | exact .there .here | exact .there (.there .here) | exact .there (.there (.there .here)) | exact .there (.there (.there (.there .here)))) ?_))) ?_
  intro k ⟨hk, hI⟩
  refine awp_seq ?_
  refine awp_region ?_
  refine aops_p (ap_cmp rfl rfl rfl) rfl rfl rfl ?_
  refine aops_nil ?_
  refine seqQ_n ?_
  refine awp_seq ?_
  refine awp_cond rfl (fun hc => ?_) (fun hc => ?_)
  · have hlt := of_decide_eq_true hc
    obtain ⟨x, hx, hd⟩ := drop_cons (l := subs (2 ^ c.length - 1)) (k := k) (by omega)
    obtain ⟨u, rfl, hu⟩ := (mem_subs hcl).1 (List.mem_of_getElem? hx)
    have hx' := getMap D.i hx
    refine awp_skip ?_
    refine seqQ_n ?_
    refine awp_seq ?_
    refine awp_block ?_
    refine awp_seq ?_
    refine awp_region ?_
    first | refine aops_p (ap_index rfl rfl rfl rfl (by decide) rfl zAss) rfl rfl rfl ?_ | refine aops_p (ap_index rfl rfl rfl rfl (by decide) (by omega) zAss) rfl rfl rfl ?_ | refine aops_p (ap_index_own rfl rfl rfl rfl rfl (by first | omega | (simp only [List.length_map, List.length_set, avs_len]; omega))) rfl rfl rfl ?_
    first | refine aops_q (aq_load1 rfl zUpd List.not_mem_nil rfl zRc) rfl rfl rfl ?_ | refine aops_q (aq_load_el1 rfl rfl zScal (fun _ h => absurd h List.not_mem_nil)) rfl rfl rfl ?_ | refine aops_q (aq_load_el1' rfl rfl zScal (fun _ h => absurd h List.not_mem_nil)) rfl rfl rfl ?_ | refine aops_q (aq_load_own1 rfl zUpd List.not_mem_nil rfl zAss zScal) rfl rfl rfl ?_
    refine aops_p (ap_assign rfl) rfl rfl rfl ?_
    refine aops_nil ?_
    refine seqQ_n ?_
    refine awp_seq ?_
    refine awp_seq ?_
    refine awp_region ?_
    first | refine aops_q (aq_load rfl zUpd List.not_mem_nil rfl rfl zRc) rfl rfl rfl ?_ | refine aops_q (aq_load_el rfl rfl rfl rfl (fun _ h => absurd h List.not_mem_nil)) rfl rfl rfl ?_
    refine aops_p (ap_move rfl) rfl rfl rfl ?_
    refine aops_call_b zRc (rquorum_con c u) rfl rfl (fun c17 hc17 => ?_)
    refine aops_p (ap_not rfl) rfl rfl rfl ?_
    refine aops_nil ?_
    refine seqQ_n ?_
    refine awp_cond rfl (fun hc => ?_) (fun hc => ?_)
    · refine awp_exit ?_
      refine seqQ_x ?_
      refine blockQ_x rfl ?_
      refine seqQ_n ?_
      refine awp_region ?_
      refine aops_p (ap_arith rfl rfl rfl (by omega)) rfl rfl rfl ?_
      refine aops_p (ap_move rfl) rfl rfl rfl ?_
      refine aops_nil ?_
      refine seqQ_n ?_
      have hthis : quorumC c u = true → great c (co c u) = 0 := by first | (intro hq; rw [← quorumV_nat (by omega), hc17] at hq; rw [show c17 = true from hq] at hc; cases hc) | (intro _; have := of_neq_false (show (!decide (((great c (co c u) : Nat) : Int) = 0)) = false by with_reducible assumption); omega)
      refine ⟨k + 1, ⟨by omega, fun y hy hq => ?_⟩, by omega, wk zSub (by repeat (first | exact .nil | refine .cons (by first | exact .here | exact .there .here | exact .there (.there .here) | exact .there (.there (.there .here)) | exact .there (.there (.there (.there .here)))) ?_))⟩
      rw [List.take_add_one, hx] at hy
      rcases List.mem_append.1 hy with hy | hy
      · exact hI y hy hq
      · obtain rfl : y = (u : Int) := (by simpa using hy)
        exact hthis hq
    · have hq : quorumC c u = true := by rw [← quorumV_nat (by omega)]; exact hc17.trans (not_f hc)
      refine awp_skip ?_
      refine seqQ_n ?_
      refine awp_seq ?_
      refine awp_draw (Hm := []) zKr zSplit ?_
      first | refine aany_take 0 rfl (.none rfl) zKr zKr zKr (ar_load rfl zUpd rfl rfl zRc) rfl rfl ?_ | refine aany_take 0 rfl (.none rfl) zKr zKr zKr (AQ.ar (aq_load_el rfl rfl rfl rfl (fun _ h => h))) rfl rfl ?_
      first | refine aany_take 1 rfl (.none rfl) zKr zKr zKr (ar_load rfl zUpd rfl rfl zRc) rfl rfl ?_ | refine aany_take 1 rfl (.none rfl) zKr zKr zKr (AQ.ar (aq_load_el rfl rfl rfl rfl (fun _ h => h))) rfl rfl ?_
      refine aany_take 3 rfl (.none rfl) zKr zKr zKr (AP.ar (ap_move rfl)) rfl rfl ?_
      refine aany_one 2 zKr rfl (.none rfl) ?_
      refine aops_call_v zRc (rmembers_con c hcl) rfl rfl ?_
      refine aops_nil ?_
      refine aany_take 4 rfl (.none rfl) zKr zKr zKr (AP.ar (ap_arith rfl rfl rfl (by omega))) rfl rfl ?_
      refine aany_one 5 zKr rfl (.none rfl) ?_
      (rw [co_sub hcl hu]; refine aops_call_v zRc (rgreat_con c (co c u)) rfl rfl ?_)
      refine aops_nil ?_
      refine aany_take 6 rfl (.none rfl) zKr zKr zKr (AP.ar (ap_assign rfl)) rfl rfl ?_
      refine aany_nil zKr ?_
      all_goals (
        refine seqQ_n ?_
        refine awp_seq ?_
        refine awp_region ?_
        refine aops_p (ap_move rfl) rfl rfl rfl ?_
        refine aops_p (ap_cmp rfl rfl rfl) rfl rfl rfl ?_
        refine aops_nil ?_
        refine seqQ_n ?_
        refine awp_cond rfl (fun hc => ?_) (fun hc => ?_)
        · have hb := of_neq_true hc
          refine awp_seq ?_
          refine awp_region ?_
          refine aops_p (ap_move rfl) rfl rfl rfl ?_
          refine aops_p (ap_move rfl) rfl rfl rfl ?_
          refine aops_p (ap_assign rfl) rfl rfl rfl ?_
          refine aops_p (ap_assign rfl) rfl rfl rfl ?_
          refine aops_nil ?_
          refine seqQ_n ?_
          refine awp_ret ?_
          refine blockQ_r ?_
          refine seqQ_r ?_
          refine seqQ_r ?_
          refine blockQ_r ?_
          refine seqQ_r ?_
          refine post_ret (.tmp rfl (.tmp rfl .nil)) (by repeat (first | exact .nil | refine .cons (by first | exact .here | exact .there .here | exact .there (.there .here) | exact .there (.there (.there .here)) | exact .there (.there (.there (.there .here)))) ?_)) ⟨u, great c (co c u), rfl, ⟨hu, fun e => absurd e (quorum_ne hq), fun _ => ⟨hq, rfl, by omega, fun w hw hk2 hqw => hI w (subs_before hcl hx hw hk2) hqw⟩⟩, rfl⟩
        · refine awp_skip ?_
          refine blockQ_n ?_
          refine seqQ_n ?_
          refine awp_region ?_
          refine aops_p (ap_arith rfl rfl rfl (by omega)) rfl rfl rfl ?_
          refine aops_p (ap_move rfl) rfl rfl rfl ?_
          refine aops_nil ?_
          refine seqQ_n ?_
          have hthis : quorumC c u = true → great c (co c u) = 0 := by first | (intro hq; rw [← quorumV_nat (by omega), hc17] at hq; rw [show c17 = true from hq] at hc; cases hc) | (intro _; have := of_neq_false (show (!decide (((great c (co c u) : Nat) : Int) = 0)) = false by with_reducible assumption); omega)
          refine ⟨k + 1, ⟨by omega, fun y hy hq => ?_⟩, by omega, wk zSub (by repeat (first | exact .nil | refine .cons (by first | exact .here | exact .there .here | exact .there (.there .here) | exact .there (.there (.there .here)) | exact .there (.there (.there (.there .here)))) ?_))⟩
          rw [List.take_add_one, hx] at hy
          rcases List.mem_append.1 hy with hy | hy
          · exact hI y hy hq
          · obtain rfl : y = (u : Int) := (by simpa using hy)
            exact hthis hq
        )
  · have hge := of_decide_eq_false hc
    rw [List.take_of_length_le (by omega)] at hI
    refine awp_exit ?_
    refine seqQ_x ?_
    refine seqQ_x ?_
    refine blockQ_x rfl ?_
    refine seqQ_n ?_
    refine awp_seq ?_
    refine awp_region ?_
    refine aops_p (ap_assign rfl) rfl rfl rfl ?_
    refine aops_p (ap_assign rfl) rfl rfl rfl ?_
    refine aops_nil ?_
    refine seqQ_n ?_
    refine awp_ret ?_
    refine post_ret (.tmp rfl (.tmp rfl .nil)) (by repeat (first | exact .nil | refine .cons (by first | exact .here | exact .there .here | exact .there (.there .here) | exact .there (.there (.there .here)) | exact .there (.there (.there (.there .here)))) ?_)) ⟨0, 0, rfl, ⟨hpos, fun _ => ⟨rfl, fun w hw hq => hI w ((mem_subs hcl).2 ⟨w, rfl, hw⟩) hq⟩, fun e => absurd rfl e⟩, rfl⟩
theorem same_none (t : Trust) : same t Trust.none = blankT t := by
  unfold same blankT
  have h1 : decide (t.nodes = Trust.none.nodes) = decide (t.nodes.length = 0) := by rw [Bool.eq_iff_iff, decide_eq_true_iff, decide_eq_true_iff]; simp [Trust.none, Trust.nodes]
  have h2 : sameL t.inner Trust.none.inner = decide (t.inner.length = 0) := by
    cases h : t.inner with
    | nil => rfl
    | cons x r => rfl
  rw [h1, h2]
  rfl
theorem memV_s {m : Mem} {n : Nat} {b : Bool} (h : m.decl = false) (hb : same m.t Trust.none = b) : memV m n = if b = true then 0 else 1 := memV_0 h (by rw [← same_none]; exact hb)
theorem memV_v {m : Mem} {n : Nat} (h : m.decl = true) (hv : ¬ validT m.t = 0) : memV m n = validT m.t := by unfold memV; rw [if_pos h, if_neg hv]
theorem memV_u {m : Mem} {n : Nat} (h : m.decl = true) (hv : validT m.t = 0) (hu : 2 ^ n ≤ uses m.t) : memV m n = 5 := by unfold memV; rw [if_pos h, if_pos hv, if_pos hu]
theorem memV_k {m : Mem} {n : Nat} (h : m.decl = true) (hv : validT m.t = 0) (hu : ¬ 2 ^ n ≤ uses m.t) : memV m n = 0 := by unfold memV; rw [if_pos h, if_pos hv, if_neg hu]
theorem r6valid_con (c : List Mem) (hs : ∀ m ∈ c, sizeT m.t ≤ 1000000000) : Con Try.prog 106 [cv c] [] (Is (.i (validC c)) []) := by
  have hcap : capB = 140737488355328 := rfl
  have hml : (c.map mv).length = c.length := by simp
  refine con_intro Try.func106 rfl Try.call106 rfl ?_
  refine awp_seq ?_
  refine awp_region ?_
  refine aops_box rfl zFlat rfl rfl (fun b1 => ?_)
  refine aops_p (ap_assign rfl) rfl rfl rfl ?_
  refine aops_nil ?_
  refine seqQ_n ?_
  refine awp_seq ?_
  refine awp_seq ?_
  refine awp_region ?_
  first | refine aops_p (ap_fieldAddr (off := 0) (sz := 1) (g := false) rfl rfl) rfl rfl rfl ?_ | refine aops_p (ap_fieldAddr_el (off := 0) (sz := 1) (g := false) rfl rfl zRc) rfl rfl rfl ?_
  first | refine aops_q (aq_load1 rfl zUpd List.not_mem_nil rfl zRc) rfl rfl rfl ?_ | refine aops_q (aq_load_el1 rfl rfl zScal (fun _ h => absurd h List.not_mem_nil)) rfl rfl rfl ?_ | refine aops_q (aq_load_el1' rfl rfl zScal (fun _ h => absurd h List.not_mem_nil)) rfl rfl rfl ?_ | refine aops_q (aq_load_own1 rfl zUpd List.not_mem_nil rfl zAss zScal) rfl rfl rfl ?_
  first | refine aops_len rfl rfl rfl rfl (fun _ => ?_) | refine aops_p (ap_len_arr rfl zUpd rfl) rfl rfl rfl ?_ | refine aops_p (ap_len_nil rfl rfl) rfl rfl rfl ?_
  refine aops_p (ap_cmp rfl rfl rfl) rfl rfl rfl ?_
  refine aops_nil ?_
  refine seqQ_n ?_
  refine awp_cond rfl (fun hc => ?_) (fun hc => ?_)
  · have hlen := of_decide_eq_true hc
    refine awp_seq ?_
    refine awp_region ?_
    refine aops_p (ap_assign rfl) rfl rfl rfl ?_
    refine aops_nil ?_
    refine seqQ_n ?_
    refine awp_ret ?_
    refine seqQ_r ?_
    refine post_is (.tmp rfl .nil) .nil ?_
    unfold validC; rw [if_pos (by omega)]; rfl
  · have hlen := of_decide_eq_false hc
    have h10 := pow_le10 (n := c.length) (by omega)
    have hul := fun t : Trust => uses_lt t
    have hp2 : 2 ^ (c.map mv).length = 2 ^ c.length := by rw [hml]
    refine awp_skip ?_
    refine seqQ_n ?_
    refine awp_seq ?_
    refine awp_seq ?_
    refine awp_region ?_
    first | refine aops_p (ap_fieldAddr (off := 0) (sz := 1) (g := false) rfl rfl) rfl rfl rfl ?_ | refine aops_p (ap_fieldAddr_el (off := 0) (sz := 1) (g := false) rfl rfl zRc) rfl rfl rfl ?_
    first | refine aops_q (aq_load1 rfl zUpd List.not_mem_nil rfl zRc) rfl rfl rfl ?_ | refine aops_q (aq_load_el1 rfl rfl zScal (fun _ h => absurd h List.not_mem_nil)) rfl rfl rfl ?_ | refine aops_q (aq_load_el1' rfl rfl zScal (fun _ h => absurd h List.not_mem_nil)) rfl rfl rfl ?_ | refine aops_q (aq_load_own1 rfl zUpd List.not_mem_nil rfl zAss zScal) rfl rfl rfl ?_
    first | refine aops_len rfl rfl rfl rfl (fun _ => ?_) | refine aops_p (ap_len_arr rfl zUpd rfl) rfl rfl rfl ?_ | refine aops_p (ap_len_nil rfl rfl) rfl rfl rfl ?_
    refine aops_p (ap_move rfl) rfl rfl rfl ?_
    refine aops_nil ?_
    refine seqQ_n ?_
    refine awp_block ?_
    refine awp_loop1 [1, 11, 12] [.box b1 _ _] (fun (k : Nat) r => (13, .i (k : Int)) :: r) (fun (k : Nat) r => r) (fun (k : Nat) => k ≤ c.length ∧ memsV c.length (c.drop k) = memsV c.length c) (fun (k : Nat) => c.length - k) (0) zRc ⟨by omega, by simp⟩ (wk zSub (by repeat (first | exact .nil | refine .cons (by first | exact .here | exact .there .here | exact .there (.there .here) | exact .there (.there (.there .here)) | exact .there (.there (.there (.there .here)))) ?_))) ?_
    intro k ⟨hk, hI⟩
    refine awp_seq ?_
    refine awp_region ?_
    refine aops_p (ap_cmp rfl rfl rfl) rfl rfl rfl ?_
    refine aops_nil ?_
    refine seqQ_n ?_
    refine awp_seq ?_
    refine awp_cond rfl (fun hc => ?_) (fun hc => ?_)
    · have hlt := of_decide_eq_true hc
      obtain ⟨x, hx, hd⟩ := drop_cons (l := c) (k := k) (by omega)
      have hx' := getMap mv hx
      have hul2 := hul x.t
      refine awp_skip ?_
      refine seqQ_n ?_
      refine awp_seq ?_
      refine awp_block ?_
      refine awp_seq ?_
      refine awp_region ?_
      first | refine aops_p (ap_index rfl rfl rfl rfl (by decide) rfl zAss) rfl rfl rfl ?_ | refine aops_p (ap_index rfl rfl rfl rfl (by decide) (by omega) zAss) rfl rfl rfl ?_ | refine aops_p (ap_index_own rfl rfl rfl rfl rfl (by first | omega | (simp only [List.length_map, List.length_set, avs_len]; omega))) rfl rfl rfl ?_
      first | refine aops_q (aq_load rfl zUpd List.not_mem_nil rfl rfl zRc) rfl rfl rfl ?_ | refine aops_q (aq_load_el rfl rfl rfl rfl (fun _ h => absurd h List.not_mem_nil)) rfl rfl rfl ?_
      refine aops_alloc rfl zRc rfl rfl (fun b4 => ?_)
      first | refine aops_store rfl rfl zFlat zUpd rfl zRc ?_ | refine aops_store_own1 rfl rfl zScal zUpd rfl (by simp only [List.length_set, List.length_map]; omega) ?_
      refine aops_nil ?_
      refine seqQ_n ?_
      refine awp_seq ?_
      refine awp_seq ?_
      refine awp_region ?_
      first | refine aops_p (ap_fieldAddr (off := 0) (sz := 1) (g := false) rfl rfl) rfl rfl rfl ?_ | refine aops_p (ap_fieldAddr_el (off := 0) (sz := 1) (g := false) rfl rfl zRc) rfl rfl rfl ?_
      first | refine aops_q (aq_load1 rfl zUpd List.not_mem_nil rfl zRc) rfl rfl rfl ?_ | refine aops_q (aq_load_el1 rfl rfl zScal (fun _ h => absurd h List.not_mem_nil)) rfl rfl rfl ?_ | refine aops_q (aq_load_el1' rfl rfl zScal (fun _ h => absurd h List.not_mem_nil)) rfl rfl rfl ?_ | refine aops_q (aq_load_own1 rfl zUpd List.not_mem_nil rfl zAss zScal) rfl rfl rfl ?_
      refine aops_p (ap_not rfl) rfl rfl rfl ?_
      refine aops_nil ?_
      refine seqQ_n ?_
      refine awp_cond rfl (fun hc => ?_) (fun hc => ?_)
      · have hdl : x.decl = false := not_t hc
        refine awp_seq ?_
        refine awp_seq ?_
        refine awp_region ?_
        first | refine aops_p (ap_fieldAddr (off := 1) (sz := 3) (g := true) rfl rfl) rfl rfl rfl ?_ | refine aops_p (ap_fieldAddr_el (off := 1) (sz := 3) (g := true) rfl rfl zRc) rfl rfl rfl ?_
        first | refine aops_q (aq_load rfl zUpd List.not_mem_nil rfl rfl zRc) rfl rfl rfl ?_ | refine aops_q (aq_load_el rfl rfl rfl rfl (fun _ h => absurd h List.not_mem_nil)) rfl rfl rfl ?_
        refine aops_p (ap_build zKr rfl zRc (by repeat (first | exact .nil | apply FillL.cons rfl zFlat rfl zRc))) rfl rfl rfl ?_
        (refine aops_unnil [1,11,12,13,21,22] 1 rfl rfl (by repeat (first | exact SelC.nil | apply SelC.cons rfl (Cv.agg (CvL.cons Cv.same (CvL.cons Cv.fz (CvL.cons Cv.same CvL.nil)))) | apply SelC.cons rfl Cv.same)) (by repeat (first | exact .nil | apply HeapA.box (by repeat (first | exact CvL.nil | apply CvL.cons Cv.same)) | apply HeapA.arr)) ?_; refine aops_unnil [1,11,12,13,21,22] 3 rfl rfl (by repeat (first | exact .nil | apply SelC.cons rfl (by first | exact Cv.fz | (apply Cv.agg; repeat (first | exact CvL.nil | apply CvL.cons (by first | exact Cv.fz | exact Cv.same))) | exact Cv.same))) (by repeat (first | exact .nil | apply HeapA.box (by repeat (first | exact CvL.nil | apply CvL.cons Cv.same)) | apply HeapA.arr)) ?_; refine aops_call_b zRc (rsame_con x.t Trust.none) rfl rfl (fun c23 hc23 => ?_))
        refine aops_p (ap_not rfl) rfl rfl rfl ?_
        refine aops_nil ?_
        refine seqQ_n ?_
        refine awp_cond rfl (fun hc => ?_) (fun hc => ?_)
        · have hm1 : memV x c.length = 1 := by rw [memV_s hdl (hc23.trans (not_t hc))]; rfl
          refine awp_seq ?_
          refine awp_region ?_
          refine aops_p (ap_assign rfl) rfl rfl rfl ?_
          refine aops_nil ?_
          refine seqQ_n ?_
          refine awp_ret ?_
          refine seqQ_r ?_
          refine seqQ_r ?_
          refine blockQ_r ?_
          refine seqQ_r ?_
          refine seqQ_r ?_
          refine blockQ_r ?_
          refine seqQ_r ?_
          refine post_is (.tmp rfl .nil) .nil ?_
          rw [hd] at hI; simp only [memsV] at hI
          rw [if_neg (by rw [hm1]; first | exact hv9 | omega), hm1] at hI
          unfold validC; rw [if_neg (by omega), ← hI]; rfl
        · have hm0 : memV x c.length = 0 := by rw [memV_s hdl (hc23.trans (not_f hc))]; rfl
          refine awp_skip ?_
          refine seqQ_n ?_
          refine awp_exit ?_
          refine seqQ_x ?_
          refine blockQ_x rfl ?_
          refine seqQ_n ?_
          refine awp_region ?_
          refine aops_p (ap_arith rfl rfl rfl (by omega)) rfl rfl rfl ?_
          refine aops_p (ap_move rfl) rfl rfl rfl ?_
          refine aops_nil ?_
          refine seqQ_n ?_
          rw [hd] at hI; simp only [memsV] at hI
          rw [if_pos hm0] at hI
          refine ⟨k + 1, ⟨by omega, hI⟩, by omega, wk zSub (by repeat (first | exact .nil | refine .cons (by first | exact .here | exact .there .here | exact .there (.there .here) | exact .there (.there (.there .here)) | exact .there (.there (.there (.there .here)))) ?_))⟩
      · have hdl : x.decl = true := not_f hc
        refine awp_skip ?_
        refine seqQ_n ?_
        refine awp_seq ?_
        refine awp_seq ?_
        refine awp_region ?_
        first | refine aops_p (ap_fieldAddr (off := 1) (sz := 3) (g := true) rfl rfl) rfl rfl rfl ?_ | refine aops_p (ap_fieldAddr_el (off := 1) (sz := 3) (g := true) rfl rfl zRc) rfl rfl rfl ?_
        first | refine aops_q (aq_load rfl zUpd List.not_mem_nil rfl rfl zRc) rfl rfl rfl ?_ | refine aops_q (aq_load_el rfl rfl rfl rfl (fun _ h => absurd h List.not_mem_nil)) rfl rfl rfl ?_
        refine aops_call_v zRc (rvalidT_con x.t (hs x (List.mem_of_getElem? hx))) rfl rfl ?_
        refine aops_p (ap_assign rfl) rfl rfl rfl ?_
        refine aops_nil ?_
        refine seqQ_n ?_
        refine awp_seq ?_
        refine awp_region ?_
        refine aops_p (ap_move rfl) rfl rfl rfl ?_
        refine aops_p (ap_cmp rfl rfl rfl) rfl rfl rfl ?_
        refine aops_nil ?_
        refine seqQ_n ?_
        refine awp_cond rfl (fun hc => ?_) (fun hc => ?_)
        · have hv9 := of_neq_true hc
          have hm1 : memV x c.length = validT x.t := memV_v hdl hv9
          refine awp_seq ?_
          refine awp_region ?_
          refine aops_p (ap_move rfl) rfl rfl rfl ?_
          refine aops_p (ap_assign rfl) rfl rfl rfl ?_
          refine aops_nil ?_
          refine seqQ_n ?_
          refine awp_ret ?_
          refine seqQ_r ?_
          refine blockQ_r ?_
          refine seqQ_r ?_
          refine seqQ_r ?_
          refine blockQ_r ?_
          refine seqQ_r ?_
          refine post_is (.tmp rfl .nil) .nil ?_
          rw [hd] at hI; simp only [memsV] at hI
          rw [if_neg (by rw [hm1]; first | exact hv9 | omega), hm1] at hI
          unfold validC; rw [if_neg (by omega), ← hI]; rfl
        · have hv := of_neq_false hc
          refine awp_skip ?_
          refine seqQ_n ?_
          refine awp_seq ?_
          refine awp_draw (Hm := []) zKr zSplit ?_
          first | refine aany_take 0 rfl (.none rfl) zKr zKr zKr (AP.ar (ap_fieldAddr (off := 1) (sz := 3) (g := true) rfl rfl)) rfl rfl ?_ | refine aany_take 0 rfl (.none rfl) zKr zKr zKr (AP.ar (ap_fieldAddr_el (off := 1) (sz := 3) (g := true) rfl rfl zRc)) rfl rfl ?_
          first | refine aany_take 1 rfl (.none rfl) zKr zKr zKr (ar_load rfl zUpd rfl rfl zRc) rfl rfl ?_ | refine aany_take 1 rfl (.none rfl) zKr zKr zKr (AQ.ar (aq_load_el rfl rfl rfl rfl (fun _ h => h))) rfl rfl ?_
          first | refine aany_take 3 rfl (.none rfl) zKr zKr zKr (AP.ar (ap_fieldAddr (off := 0) (sz := 1) (g := false) rfl rfl)) rfl rfl ?_ | refine aany_take 3 rfl (.none rfl) zKr zKr zKr (AP.ar (ap_fieldAddr_el (off := 0) (sz := 1) (g := false) rfl rfl zRc)) rfl rfl ?_
          first | refine aany_take 4 rfl (.none rfl) zKr zKr zKr (ar_load1 rfl zUpd rfl zRc) rfl rfl ?_ | refine aany_take 4 rfl (.none rfl) zKr zKr zKr (AQ.ar (aq_load_el1 rfl rfl zScal (fun _ h => h))) rfl rfl ?_ | refine aany_take 4 rfl (.none rfl) zKr zKr zKr (AQ.ar (aq_load_el1' rfl rfl zScal (fun _ h => h))) rfl rfl ?_ | refine aany_take 4 rfl (.none rfl) zKr zKr zKr (ar_load_own1 rfl zUpd rfl zAss zScal) rfl rfl ?_
          first | refine aany_take 5 rfl (.none rfl) zKr zKr zKr (AP.ar (ap_len rfl rfl)) rfl rfl ?_ | refine aany_take 5 rfl (.none rfl) zKr zKr zKr (ar_len_arr rfl zUpd rfl) rfl rfl ?_ | refine aany_take 5 rfl (.none rfl) zKr zKr zKr (AP.ar (ap_len_nil rfl rfl)) rfl rfl ?_
          refine aany_take 6 rfl (.none rfl) zKr zKr zKr (AP.ar (ap_shl (p := 1) rfl rfl rfl (by omega) (by omega))) rfl rfl ?_
          refine aany_one 2 zKr rfl (.none rfl) ?_
          refine aops_call_v zRc (ruses_con x.t) rfl rfl ?_
          refine aops_nil ?_
          refine aany_take 7 rfl (.none rfl) zKr zKr zKr (AP.ar (ap_cmp rfl rfl rfl)) rfl rfl ?_
          refine aany_nil zKr ?_
          all_goals (
            refine seqQ_n ?_
            refine awp_cond rfl (fun hc => ?_) (fun hc => ?_)
            · have hge := of_decide_eq_true hc
              have hm1 : memV x c.length = 5 := memV_u hdl hv (by omega)
              refine awp_seq ?_
              refine awp_region ?_
              refine aops_p (ap_assign rfl) rfl rfl rfl ?_
              refine aops_nil ?_
              refine seqQ_n ?_
              refine awp_ret ?_
              refine blockQ_r ?_
              refine seqQ_r ?_
              refine seqQ_r ?_
              refine blockQ_r ?_
              refine seqQ_r ?_
              refine post_is (.tmp rfl .nil) .nil ?_
              rw [hd] at hI; simp only [memsV] at hI
              rw [if_neg (by rw [hm1]; first | exact hv9 | omega), hm1] at hI
              unfold validC; rw [if_neg (by omega), ← hI]; rfl
            · have hge := of_decide_eq_false hc
              have hm0 : memV x c.length = 0 := memV_k hdl hv (by omega)
              refine awp_skip ?_
              refine blockQ_n ?_
              refine seqQ_n ?_
              refine awp_region ?_
              refine aops_p (ap_arith rfl rfl rfl (by omega)) rfl rfl rfl ?_
              refine aops_p (ap_move rfl) rfl rfl rfl ?_
              refine aops_nil ?_
              refine seqQ_n ?_
              rw [hd] at hI; simp only [memsV] at hI
              rw [if_pos hm0] at hI
              refine ⟨k + 1, ⟨by omega, hI⟩, by omega, wk zSub (by repeat (first | exact .nil | refine .cons (by first | exact .here | exact .there .here | exact .there (.there .here) | exact .there (.there (.there .here)) | exact .there (.there (.there (.there .here)))) ?_))⟩
            )
    · have hge := of_decide_eq_false hc
      rw [drop_nil (by omega)] at hI; simp only [memsV] at hI
      refine awp_exit ?_
      refine seqQ_x ?_
      refine seqQ_x ?_
      refine blockQ_x rfl ?_
      refine seqQ_n ?_
      refine awp_seq ?_
      refine awp_region ?_
      refine aops_p (ap_assign rfl) rfl rfl rfl ?_
      refine aops_nil ?_
      refine seqQ_n ?_
      refine awp_ret ?_
      refine post_is (.tmp rfl .nil) .nil ?_
      unfold validC; rw [if_neg (by omega), ← hI]; rfl
theorem rholds_con (c : List Mem) (hs : ∀ m ∈ c, sizeT m.t ≤ 1000000000) : Con Try.prog 60 [cv c] [] (Is (.tup [.b (holdsV c).1, .i (holdsV c).2]) []) := by
  have hcap : capB = 140737488355328 := rfl
  refine con_intro Try.func60 rfl Try.call60 rfl ?_
  refine awp_seq ?_
  refine awp_region ?_
  refine aops_box rfl zFlat rfl rfl (fun b1 => ?_)
  refine aops_p (ap_assign rfl) rfl rfl rfl ?_
  refine aops_p (ap_assign rfl) rfl rfl rfl ?_
  refine aops_nil ?_
  refine seqQ_n ?_
  refine awp_seq ?_
  refine awp_seq ?_
  refine awp_region ?_
  first | refine aops_q (aq_load rfl zUpd List.not_mem_nil rfl rfl zRc) rfl rfl rfl ?_ | refine aops_q (aq_load_el rfl rfl rfl rfl (fun _ h => absurd h List.not_mem_nil)) rfl rfl rfl ?_
  refine aops_call_v zRc (r6valid_con c hs) rfl rfl ?_
  refine aops_p (ap_assign rfl) rfl rfl rfl ?_
  refine aops_nil ?_
  refine seqQ_n ?_
  refine awp_seq ?_
  refine awp_region ?_
  refine aops_p (ap_move rfl) rfl rfl rfl ?_
  refine aops_p (ap_cmp rfl rfl rfl) rfl rfl rfl ?_
  refine aops_nil ?_
  refine seqQ_n ?_
  refine awp_cond rfl (fun hc => ?_) (fun hc => ?_)
  · have hv := of_neq_true hc
    refine awp_seq ?_
    refine awp_region ?_
    refine aops_p (ap_move rfl) rfl rfl rfl ?_
    refine aops_p (ap_assign rfl) rfl rfl rfl ?_
    refine aops_p (ap_assign rfl) rfl rfl rfl ?_
    refine aops_nil ?_
    refine seqQ_n ?_
    refine awp_ret ?_
    refine seqQ_r ?_
    refine post_is (.tmp rfl (.tmp rfl .nil)) (by repeat (first | exact .nil | refine .cons (by first | exact .here | exact .there .here | exact .there (.there .here) | exact .there (.there (.there .here)) | exact .there (.there (.there (.there .here)))) ?_)) ?_
    unfold holdsV; rw [if_neg hv]; rfl
  · have hv := of_neq_false hc
    refine awp_skip ?_
    refine seqQ_n ?_
    refine awp_seq ?_
    refine awp_region ?_
    first | refine aops_q (aq_load rfl zUpd List.not_mem_nil rfl rfl zRc) rfl rfl rfl ?_ | refine aops_q (aq_load_el rfl rfl rfl rfl (fun _ h => absurd h List.not_mem_nil)) rfl rfl rfl ?_
    (refine aops_call zRc (apart_con c (validC_len hv)) zSplit rfl rfl ?_; rintro _ _ ⟨fa, fb, rfl, hF, rfl⟩)
    refine aops_p (ap_move rfl) rfl rfl rfl ?_
    refine aops_p (ap_extract rfl rfl) rfl rfl rfl ?_
    refine aops_p (ap_extract rfl rfl) rfl rfl rfl ?_
    refine aops_p (ap_assign rfl) rfl rfl rfl ?_
    refine aops_p (ap_assign rfl) rfl rfl rfl ?_
    refine aops_nil ?_
    refine seqQ_n ?_
    refine awp_seq ?_
    refine awp_region ?_
    refine aops_p (ap_move rfl) rfl rfl rfl ?_
    refine aops_p (ap_cmp rfl rfl rfl) rfl rfl rfl ?_
    refine aops_p (ap_assign rfl) rfl rfl rfl ?_
    refine aops_p (ap_assign rfl) rfl rfl rfl ?_
    refine aops_nil ?_
    refine seqQ_n ?_
    refine awp_ret ?_
    refine post_is (.tmp rfl (.tmp rfl .nil)) (by repeat (first | exact .nil | refine .cons (by first | exact .here | exact .there .here | exact .there (.there .here) | exact .there (.there (.there .here)) | exact .there (.there (.there (.there .here)))) ?_)) ?_
    unfold holdsV; rw [if_pos hv, ← hF.inter]; rfl
theorem and_sub {a b : Nat} : ((a &&& b : Nat) : Int) = (b : Int) ↔ Sub b a := by
  constructor
  · intro h i hi
    have h2 : a &&& b = b := by omega
    have := congrArg (·.testBit i) h2
    simp only [Nat.testBit_and, hi, Bool.and_true] at this
    exact this
  · intro h
    have : a &&& b = b := Nat.eq_of_testBit_eq fun i => by
      rw [Nat.testBit_and]
      cases e : b.testBit i with
      | false => rw [Bool.and_false]
      | true => rw [h i e]; rfl
    omega
theorem none_1 {c : List Mem} {req exc : Nat} (h : decide (((great c (co c exc) : Nat) : Int) = 0) = true) : noneC c req exc = true := by unfold noneC; rw [h]; rfl
theorem none_2 {c : List Mem} {req exc : Nat} (hr : req < 1024) (h : (!decide (((great c (co c exc) &&& req : Nat) : Int) = (req : Int))) = true) : noneC c req exc = true := by
  have h1 := of_neq_true h
  unfold noneC
  rw [Bool.or_eq_true]
  right
  rw [decide_eq_false (fun e => h1 (and_sub.2 ((andn_zero hr (great_lt _ _)).1 e)))]
  rfl
theorem none_3 {c : List Mem} {req exc : Nat} (hr : req < 1024) (h0 : decide (((great c (co c exc) : Nat) : Int) = 0) = false) (h : (!decide (((great c (co c exc) &&& req : Nat) : Int) = (req : Int))) = false) : noneC c req exc = false := by
  have h1 := of_neq_false h
  unfold noneC
  rw [h0, decide_eq_true ((andn_zero hr (great_lt _ _)).2 (and_sub.1 h1))]
  rfl
theorem free_ex {c : List Mem} {s : Nat} (hc : c.length ≤ 10) (hs : s < 1024) (h : ¬ co c s = 0) : ∃ j, j < c.length ∧ (co c s).testBit j = true := by
  obtain ⟨j, hj⟩ := Nat.exists_testBit_of_ne_zero h
  rw [coC_bit hc hs, Bool.and_eq_true] at hj
  exact ⟨j, by simpa using hj.1, by rw [coC_bit hc hs, Bool.and_eq_true]; exact hj⟩
theorem ring_next {k n j : Nat} (hk : k < n) (hj : j < n) (h : ¬ k = j) : ∃ k' : Nat, ((k : Int) + 1) % (n : Int) = (k' : Int) ∧ k' < n ∧ (if k' ≤ j then j - k' else j + n - k') < (if k ≤ j then j - k else j + n - k) := by
  rcases Nat.lt_or_ge (k + 1) n with h1 | h1
  · refine ⟨k + 1, ?_, h1, ?_⟩
    · rw [Int.emod_eq_of_lt (by omega) (by omega)]; rfl
    · split <;> split <;> omega
  · have e : (k : Int) + 1 = n := by omega
    refine ⟨0, by rw [e, Int.emod_self]; rfl, by omega, ?_⟩
    split <;> split <;> omega
theorem mtrace_con (b : Nat) (l : List Int) (c : List Mem) (hcl : c.length ≤ 10) (mk : Bool) : ∀ (m req exc a : Nat), req < 1024 → exc < 1024 → popN (req ||| exc) + m = 10 → Con Try.prog 109 [.p b 0, cv c, .i req, .i exc, .b mk] [.box b 104 [.sl 1 (l.map .i), .i ((a : Nat) : Int)]] (fun d H => ∃ (x : Tr) (a' : Nat), d = tv x ∧ (tsz x + 1 ≤ 2 ^ (m + 1) ∧ (mk = false → interB c = true → rightC c x req exc = true)) ∧ H = [.box b 104 [.sl 1 (l.map .i), .i ((a' : Nat) : Int)]]) := by
  have hcap : capB = 140737488355328 := rfl
  intro m
  induction m using Nat.strongRecOn with
  | ind m ih =>
    intro req exc a hr he hpm
    have h10 := pow_le10 hcl
    have hpos : 0 < 2 ^ c.length := Nat.pow_pos (by omega)
    have hml : (c.map mv).length = c.length := by simp
    have hgl := great_lt c ((co c exc : Nat) : Int)
    have hor : req ||| exc < 1024 := Nat.or_lt_two_pow (n := 10) hr he
    have h2m : 2 ≤ 2 ^ (m + 1) := by rw [Nat.pow_succ]; have : 0 < 2 ^ m := Nat.pow_pos (by omega); omega
    have hfl : co c (req ||| exc) < 1024 := co_lt hcl
    refine con_intro Try.func109 rfl Try.call109 rfl ?_
    refine awp_seq ?_
    refine awp_region ?_
    refine aops_box rfl zFlat rfl rfl (fun b6 => ?_)
    refine aops_alloc rfl zRc rfl rfl (fun b10 => ?_)
    refine aops_nil ?_
    refine seqQ_n ?_
    refine awp_seq ?_
    refine awp_region ?_
    first | refine aops_p (ap_fieldAddr (off := 0) (sz := 1) (g := false) rfl rfl) rfl rfl rfl ?_ | refine aops_p (ap_fieldAddr_el (off := 0) (sz := 1) (g := false) rfl rfl zRc) rfl rfl rfl ?_
    first | refine aops_q (aq_load1 rfl zUpd List.not_mem_nil rfl zRc) rfl rfl rfl ?_ | refine aops_q (aq_load_el1 rfl rfl zScal (fun _ h => absurd h List.not_mem_nil)) rfl rfl rfl ?_ | refine aops_q (aq_load_el1' rfl rfl zScal (fun _ h => absurd h List.not_mem_nil)) rfl rfl rfl ?_ | refine aops_q (aq_load_own1 rfl zUpd List.not_mem_nil rfl zAss zScal) rfl rfl rfl ?_
    first | refine aops_len rfl rfl rfl rfl (fun _ => ?_) | refine aops_p (ap_len_arr rfl zUpd rfl) rfl rfl rfl ?_ | refine aops_p (ap_len_nil rfl rfl) rfl rfl rfl ?_
    (rw [hml]; refine aops_p (ap_shl (p := 1) rfl rfl rfl (by omega) (by omega)) rfl rfl rfl ?_)
    (rw [Nat.one_mul]; refine aops_p (ap_arith rfl rfl rfl (by omega)) rfl rfl rfl ?_)
    refine aops_p (ap_assign rfl) rfl rfl rfl ?_
    refine aops_nil ?_
    refine seqQ_n ?_
    refine awp_seq ?_
    refine awp_seq ?_
    rw [show (((2 ^ c.length : Nat) : Int) - 1) = ((2 ^ c.length - 1 : Nat) : Int) from by omega]
    refine awp_region ?_
    refine aops_p (ap_move rfl) rfl rfl rfl ?_
    refine aops_p (ap_move rfl) rfl rfl rfl ?_
    all_goals (first | (refine aops_yes rfl rfl rfl rfl zDec ?_; (refine aops_p (ap_move rfl) rfl rfl rfl ?_)) | refine aops_no_u rfl rfl rfl ?_ | refine aops_no_t rfl rfl rfl rfl zDec ?_ | (refine aops_guard_t rfl rfl rfl rfl (fun hg => ?_) (fun hg => ?_); case' _ => (refine aops_p (ap_move rfl) rfl rfl rfl ?_)))
    all_goals (first | (refine aops_yes rfl rfl rfl rfl zDec ?_; ((refine aops_call zRc (N_con _ _ _ _ (by omega)) zSplit rfl rfl ?_; rintro _ _ ⟨r24, a24, rfl, hr24, rfl⟩))) | refine aops_no_u rfl rfl rfl ?_ | refine aops_no_t rfl rfl rfl rfl zDec ?_ | (refine aops_guard_t rfl rfl rfl rfl (fun hg => ?_) (fun hg => ?_); case' _ => ((refine aops_call zRc (N_con _ _ _ _ (by omega)) zSplit rfl rfl ?_; rintro _ _ ⟨r24, a24, rfl, hr24, rfl⟩))))
    all_goals (first | (refine aops_yes rfl rfl rfl rfl zDec ?_; (refine aops_p (ap_cmp rfl rfl rfl) rfl rfl rfl ?_)) | refine aops_no_u rfl rfl rfl ?_ | refine aops_no_t rfl rfl rfl rfl zDec ?_ | (refine aops_guard_t rfl rfl rfl rfl (fun hg => ?_) (fun hg => ?_); case' _ => (refine aops_p (ap_cmp rfl rfl rfl) rfl rfl rfl ?_)))
    all_goals (first | refine aops_p (ap_pick_true rfl zDec rfl) rfl rfl rfl ?_ | refine aops_p (ap_pick_false rfl zDec rfl) rfl rfl rfl ?_)
    all_goals (
      refine aops_nil ?_
      refine seqQ_n ?_
      refine awp_cond rfl (fun hc => ?_) (fun hc => ?_)
      · first
        | (exact absurd hc (by decide))
        | (have hmk : mk = true := by with_reducible assumption
           refine awp_seq ?_
           refine awp_region ?_
           refine aops_p (ap_move rfl) rfl rfl rfl ?_
           (refine aops_call zRc (Range_con _ _ _ _ _ (by omega)) zSplit rfl rfl ?_; rintro _ _ ⟨r28, a28, rfl, hr28, rfl⟩)
           refine aops_p (ap_move rfl) rfl rfl rfl ?_
           (refine aops_call zRc (N_con _ _ _ _ (by omega)) zSplit rfl rfl ?_; rintro _ _ ⟨r30, a30, rfl, hr30, rfl⟩)
           refine aops_p (ap_build zKr rfl zRc (by repeat (first | exact .nil | apply FillL.cons rfl zFlat rfl zRc))) rfl rfl rfl ?_
           first | refine aops_store rfl rfl zFlat zUpd rfl zRc ?_ | refine aops_store_own1 rfl rfl zScal zUpd rfl (by simp only [List.length_set, List.length_map]; omega) ?_
           refine aops_nil ?_
           refine seqQ_n ?_
           refine awp_unnil [10] 3 rfl (by repeat (first | exact .nil | apply SelC.cons rfl (by first | exact Cv.fz | (apply Cv.agg; repeat (first | exact CvL.nil | apply CvL.cons (by first | exact Cv.fz | exact Cv.same))) | exact Cv.same))) (by repeat (first | exact .nil | apply HeapA.box (by repeat (first | exact CvL.nil | apply CvL.cons (by first | exact Cv.fz | exact Cv.same))) | apply HeapA.arr)) ?_
           refine awp_ret ?_
           refine seqQ_r ?_
           refine post_ret (.cell rfl zUpd rfl rfl .nil) (by repeat (first | exact .nil | refine .cons (by first | exact .here | exact .there .here | exact .there (.there .here) | exact .there (.there (.there .here)) | exact .there (.there (.there (.there .here)))) ?_)) ⟨.mk r28 r30 [], _, rfl, ⟨h2m, fun h => by rw [hmk] at h; cases h⟩, rfl⟩
          )
      · first
        | (exact absurd hc (by decide))
        | (refine awp_skip ?_
           refine seqQ_n ?_
           refine awp_seq ?_
           refine awp_seq ?_
           refine awp_region ?_
           first | refine aops_q (aq_load rfl zUpd List.not_mem_nil rfl rfl zRc) rfl rfl rfl ?_ | refine aops_q (aq_load_el rfl rfl rfl rfl (fun _ h => absurd h List.not_mem_nil)) rfl rfl rfl ?_
           refine aops_p (ap_move rfl) rfl rfl rfl ?_
           refine aops_p (ap_move rfl) rfl rfl rfl ?_
           refine aops_p (ap_bits rfl rfl rfl (by omega) (by omega)) rfl rfl rfl ?_
           refine aops_call_v zRc (rgreat_con c (co c exc)) rfl rfl ?_
           refine aops_p (ap_assign rfl) rfl rfl rfl ?_
           refine aops_nil ?_
           refine seqQ_n ?_
           refine awp_seq ?_
           refine awp_region ?_
           refine aops_p (ap_move rfl) rfl rfl rfl ?_
           refine aops_p (ap_cmp rfl rfl rfl) rfl rfl rfl ?_
           refine aops_p (ap_move rfl) rfl rfl rfl ?_
           all_goals (first | (refine aops_yes rfl rfl rfl rfl zDec ?_; (refine aops_p (ap_move rfl) rfl rfl rfl ?_)) | refine aops_no_u rfl rfl rfl ?_ | refine aops_no_f rfl rfl rfl rfl zDec ?_ | (refine aops_guard_f rfl rfl rfl rfl (fun hg => ?_) (fun hg => ?_); case' _ => (refine aops_p (ap_move rfl) rfl rfl rfl ?_)))
           all_goals (first | (refine aops_yes rfl rfl rfl rfl zDec ?_; (refine aops_p (ap_move rfl) rfl rfl rfl ?_)) | refine aops_no_u rfl rfl rfl ?_ | refine aops_no_f rfl rfl rfl rfl zDec ?_ | (refine aops_guard_f rfl rfl rfl rfl (fun hg => ?_) (fun hg => ?_); case' _ => (refine aops_p (ap_move rfl) rfl rfl rfl ?_)))
           all_goals (first | (refine aops_yes rfl rfl rfl rfl zDec ?_; (refine aops_p (ap_bits rfl rfl rfl (by omega) (by omega)) rfl rfl rfl ?_)) | refine aops_no_u rfl rfl rfl ?_ | refine aops_no_f rfl rfl rfl rfl zDec ?_ | (refine aops_guard_f rfl rfl rfl rfl (fun hg => ?_) (fun hg => ?_); case' _ => (refine aops_p (ap_bits rfl rfl rfl (by omega) (by omega)) rfl rfl rfl ?_)))
           all_goals (first | (refine aops_yes rfl rfl rfl rfl zDec ?_; (refine aops_p (ap_move rfl) rfl rfl rfl ?_)) | refine aops_no_u rfl rfl rfl ?_ | refine aops_no_f rfl rfl rfl rfl zDec ?_ | (refine aops_guard_f rfl rfl rfl rfl (fun hg => ?_) (fun hg => ?_); case' _ => (refine aops_p (ap_move rfl) rfl rfl rfl ?_)))
           all_goals (first | (refine aops_yes rfl rfl rfl rfl zDec ?_; (refine aops_p (ap_cmp rfl rfl rfl) rfl rfl rfl ?_)) | refine aops_no_u rfl rfl rfl ?_ | refine aops_no_f rfl rfl rfl rfl zDec ?_ | (refine aops_guard_f rfl rfl rfl rfl (fun hg => ?_) (fun hg => ?_); case' _ => (refine aops_p (ap_cmp rfl rfl rfl) rfl rfl rfl ?_)))
           all_goals (first | refine aops_p (ap_pick_true rfl zDec rfl) rfl rfl rfl ?_ | refine aops_p (ap_pick_false rfl zDec rfl) rfl rfl rfl ?_)
           all_goals (
             refine aops_nil ?_
             refine seqQ_n ?_
             refine awp_cond rfl (fun hc => ?_) (fun hc => ?_)
             · first
               | (exact absurd hc (by decide))
               | (have hn : noneC c req exc = true := by first | exact none_1 (by with_reducible assumption) | exact none_2 hr (by with_reducible assumption)
                  refine awp_seq ?_
                  refine awp_region ?_
                  refine aops_p (ap_build zKr rfl zRc (by repeat (first | exact .nil | apply FillL.cons rfl zFlat rfl zRc))) rfl rfl rfl ?_
                  first | refine aops_store rfl rfl zFlat zUpd rfl zRc ?_ | refine aops_store_own1 rfl rfl zScal zUpd rfl (by simp only [List.length_set, List.length_map]; omega) ?_
                  refine aops_nil ?_
                  refine seqQ_n ?_
                  refine awp_unnil [10] 3 rfl (by repeat (first | exact .nil | apply SelC.cons rfl (by first | exact Cv.fz | (apply Cv.agg; repeat (first | exact CvL.nil | apply CvL.cons (by first | exact Cv.fz | exact Cv.same))) | exact Cv.same))) (by repeat (first | exact .nil | apply HeapA.box (by repeat (first | exact CvL.nil | apply CvL.cons (by first | exact Cv.fz | exact Cv.same))) | apply HeapA.arr)) ?_
                  refine awp_ret ?_
                  refine seqQ_r ?_
                  refine post_ret (.cell rfl zUpd rfl rfl .nil) (by repeat (first | exact .nil | refine .cons (by first | exact .here | exact .there .here | exact .there (.there .here) | exact .there (.there (.there .here)) | exact .there (.there (.there (.there .here)))) ?_)) ⟨.mk 1 0 [], _, rfl, ⟨h2m, fun _ _ => by rw [right_1 rfl, hn]; rfl⟩, rfl⟩
                 )
             · first
               | (exact absurd hc (by decide))
               | (have hn : noneC c req exc = false := none_3 hr (by with_reducible assumption) (by with_reducible assumption)
                  refine awp_skip ?_
                  refine seqQ_n ?_
                  refine awp_seq ?_
                  refine awp_region ?_
                  refine aops_p (ap_move rfl) rfl rfl rfl ?_
                  refine aops_p (ap_move rfl) rfl rfl rfl ?_
                  refine aops_p (ap_move rfl) rfl rfl rfl ?_
                  refine aops_p (ap_bits rfl rfl rfl (by omega) (by omega)) rfl rfl rfl ?_
                  refine aops_p (ap_bits rfl rfl rfl (by omega) (by omega)) rfl rfl rfl ?_
                  refine aops_p (ap_assign rfl) rfl rfl rfl ?_
                  refine aops_nil ?_
                  refine seqQ_n ?_
                  refine awp_seq ?_
                  refine awp_seq ?_
                  rw [co_full (c := c) (s := req ||| exc)]
                  refine awp_region ?_
                  first | refine aops_q (aq_load rfl zUpd List.not_mem_nil rfl rfl zRc) rfl rfl rfl ?_ | refine aops_q (aq_load_el rfl rfl rfl rfl (fun _ h => absurd h List.not_mem_nil)) rfl rfl rfl ?_
                  refine aops_p (ap_move rfl) rfl rfl rfl ?_
                  refine aops_p (ap_move rfl) rfl rfl rfl ?_
                  refine aops_p (ap_bits rfl rfl rfl (by omega) (by omega)) rfl rfl rfl ?_
                  refine aops_call_v zRc (rgreat_con c (co c req)) rfl rfl ?_
                  refine aops_p (ap_cmp rfl rfl rfl) rfl rfl rfl ?_
                  refine aops_p (ap_move rfl) rfl rfl rfl ?_
                  all_goals (first | (refine aops_yes rfl rfl rfl rfl zDec ?_; (refine aops_p (ap_move rfl) rfl rfl rfl ?_)) | refine aops_no_u rfl rfl rfl ?_ | refine aops_no_f rfl rfl rfl rfl zDec ?_ | (refine aops_guard_f rfl rfl rfl rfl (fun hg => ?_) (fun hg => ?_); case' _ => (refine aops_p (ap_move rfl) rfl rfl rfl ?_)))
                  all_goals (first | (refine aops_yes rfl rfl rfl rfl zDec ?_; (refine aops_p (ap_cmp rfl rfl rfl) rfl rfl rfl ?_)) | refine aops_no_u rfl rfl rfl ?_ | refine aops_no_f rfl rfl rfl rfl zDec ?_ | (refine aops_guard_f rfl rfl rfl rfl (fun hg => ?_) (fun hg => ?_); case' _ => (refine aops_p (ap_cmp rfl rfl rfl) rfl rfl rfl ?_)))
                  all_goals (first | refine aops_p (ap_pick_true rfl zDec rfl) rfl rfl rfl ?_ | refine aops_p (ap_pick_false rfl zDec rfl) rfl rfl rfl ?_)
                  all_goals (
                    refine aops_nil ?_
                    refine seqQ_n ?_
                    refine awp_cond rfl (fun hc => ?_) (fun hc => ?_)
                    · first
                      | (exact absurd hc (by decide))
                      | (have hal : interB c = true → aloneC c req = true := fun hI => by first | (have h0 := of_decide_eq_true (show decide (((great c (co c req) : Nat) : Int) = 0) = true by with_reducible assumption); exact decide_eq_true h0) | (have h0 := of_decide_eq_true (show decide (((co c (req ||| exc) : Nat) : Int) = 0) = true by with_reducible assumption); exact full_right hcl hr he hI hn (by show co c (req ||| exc) = 0; omega))
                         refine awp_seq ?_
                         refine awp_region ?_
                         refine aops_p (ap_build zKr rfl zRc (by repeat (first | exact .nil | apply FillL.cons rfl zFlat rfl zRc))) rfl rfl rfl ?_
                         first | refine aops_store rfl rfl zFlat zUpd rfl zRc ?_ | refine aops_store_own1 rfl rfl zScal zUpd rfl (by simp only [List.length_set, List.length_map]; omega) ?_
                         refine aops_nil ?_
                         refine seqQ_n ?_
                         refine awp_unnil [10] 3 rfl (by repeat (first | exact .nil | apply SelC.cons rfl (by first | exact Cv.fz | (apply Cv.agg; repeat (first | exact CvL.nil | apply CvL.cons (by first | exact Cv.fz | exact Cv.same))) | exact Cv.same))) (by repeat (first | exact .nil | apply HeapA.box (by repeat (first | exact CvL.nil | apply CvL.cons (by first | exact Cv.fz | exact Cv.same))) | apply HeapA.arr)) ?_
                         refine awp_ret ?_
                         refine seqQ_r ?_
                         refine post_ret (.cell rfl zUpd rfl rfl .nil) (by repeat (first | exact .nil | refine .cons (by first | exact .here | exact .there .here | exact .there (.there .here) | exact .there (.there (.there .here)) | exact .there (.there (.there (.there .here)))) ?_)) ⟨.mk 2 0 [], _, rfl, ⟨h2m, fun _ hI => by rw [right_2 rfl, hal hI]; rfl⟩, rfl⟩
                        )
                    · first
                      | (exact absurd hc (by decide))
                      | (have hf0 := of_decide_eq_false (show decide (((co c (req ||| exc) : Nat) : Int) = 0) = false by with_reducible assumption)
                         obtain ⟨j, hjl, hj⟩ := free_ex hcl hor (by omega)
                         refine awp_skip ?_
                         refine seqQ_n ?_
                         refine awp_seq ?_
                         refine awp_region ?_
                         refine aops_p (ap_move rfl) rfl rfl rfl ?_
                         first | refine aops_p (ap_fieldAddr (off := 0) (sz := 1) (g := false) rfl rfl) rfl rfl rfl ?_ | refine aops_p (ap_fieldAddr_el (off := 0) (sz := 1) (g := false) rfl rfl zRc) rfl rfl rfl ?_
                         first | refine aops_q (aq_load1 rfl zUpd List.not_mem_nil rfl zRc) rfl rfl rfl ?_ | refine aops_q (aq_load_el1 rfl rfl zScal (fun _ h => absurd h List.not_mem_nil)) rfl rfl rfl ?_ | refine aops_q (aq_load_el1' rfl rfl zScal (fun _ h => absurd h List.not_mem_nil)) rfl rfl rfl ?_ | refine aops_q (aq_load_own1 rfl zUpd List.not_mem_nil rfl zAss zScal) rfl rfl rfl ?_
                         first | refine aops_len rfl rfl rfl rfl (fun _ => ?_) | refine aops_p (ap_len_arr rfl zUpd rfl) rfl rfl rfl ?_ | refine aops_p (ap_len_nil rfl rfl) rfl rfl rfl ?_
                         (rw [hml]; (refine aops_call zRc (N_con _ _ _ _ (by omega)) zSplit rfl rfl ?_; rintro _ _ ⟨r67, a67, rfl, hr67, rfl⟩; obtain ⟨k0, rfl⟩ := Int.eq_ofNat_of_zero_le hr67.1))
                         refine aops_p (ap_assign rfl) rfl rfl rfl ?_
                         refine aops_nil ?_
                         refine seqQ_n ?_
                         refine awp_seq ?_
                         refine awp_block ?_
                         refine awp_loop1 [0, 2, 3, 4, 6, 10, 13] [.box b6 _ _, .box b10 _ _, .box b _ _] (fun (k : Nat) r => (14, .i (k : Int)) :: r) (fun (k : Nat) r => r) (fun (k : Nat) => k < c.length) (fun (k : Nat) => if k ≤ j then j - k else j + c.length - k) (k0) zRc (by omega) (wk zSub (by repeat (first | exact .nil | refine .cons (by first | exact .here | exact .there .here | exact .there (.there .here) | exact .there (.there (.there .here)) | exact .there (.there (.there (.there .here)))) ?_))) ?_
                         intro k hk
                         have hsd : co c (req ||| exc) / 2 ^ k ≤ co c (req ||| exc) := Nat.div_le_self _ _
                         refine awp_seq ?_
                         refine awp_seq ?_
                         refine awp_region ?_
                         refine aops_p (ap_move rfl) rfl rfl rfl ?_
                         refine aops_p (ap_move rfl) rfl rfl rfl ?_
                         refine aops_p (ap_shr rfl rfl (by omega)) rfl rfl rfl ?_
                         refine aops_p (ap_bits (q := 1) rfl rfl rfl (by omega) (by omega)) rfl rfl rfl ?_
                         refine aops_p (ap_cmp rfl rfl rfl) rfl rfl rfl ?_
                         refine aops_nil ?_
                         refine seqQ_n ?_
                         refine awp_cond rfl (fun hc => ?_) (fun hc => ?_)
                         · rw [Go.Tq.shr_bit] at hc
                           have hkj : ¬ k = j := fun e => by subst e; rw [hj] at hc; cases hc
                           refine awp_skip ?_
                           refine seqQ_n ?_
                           refine awp_block ?_
                           refine awp_region ?_
                           refine aops_p (ap_move rfl) rfl rfl rfl ?_
                           refine aops_p (ap_arith rfl rfl rfl (by omega)) rfl rfl rfl ?_
                           first | refine aops_p (ap_fieldAddr (off := 0) (sz := 1) (g := false) rfl rfl) rfl rfl rfl ?_ | refine aops_p (ap_fieldAddr_el (off := 0) (sz := 1) (g := false) rfl rfl zRc) rfl rfl rfl ?_
                           first | refine aops_q (aq_load1 rfl zUpd List.not_mem_nil rfl zRc) rfl rfl rfl ?_ | refine aops_q (aq_load_el1 rfl rfl zScal (fun _ h => absurd h List.not_mem_nil)) rfl rfl rfl ?_ | refine aops_q (aq_load_el1' rfl rfl zScal (fun _ h => absurd h List.not_mem_nil)) rfl rfl rfl ?_ | refine aops_q (aq_load_own1 rfl zUpd List.not_mem_nil rfl zAss zScal) rfl rfl rfl ?_
                           first | refine aops_len rfl rfl rfl rfl (fun _ => ?_) | refine aops_p (ap_len_arr rfl zUpd rfl) rfl rfl rfl ?_ | refine aops_p (ap_len_nil rfl rfl) rfl rfl rfl ?_
                           (rw [hml]; refine aops_p (ap_remn rfl rfl (by omega)) rfl rfl rfl ?_)
                           refine aops_p (ap_assign rfl) rfl rfl rfl ?_
                           refine aops_nil ?_
                           refine blockQ_n ?_
                           refine seqQ_n ?_
                           obtain ⟨k', hk', hkl', hmu'⟩ := ring_next hk hjl hkj
                           rw [hk']
                           refine ⟨k', hkl', hmu', wk zSub (by repeat (first | exact .nil | refine .cons (by first | exact .here | exact .there .here | exact .there (.there .here) | exact .there (.there (.there .here)) | exact .there (.there (.there (.there .here)))) ?_))⟩
                         · rw [Go.Tq.shr_bit] at hc
                           have hfk : (co c (req ||| exc)).testBit k = true := not_f hc
                           refine awp_exit ?_
                           refine seqQ_x ?_
                           refine seqQ_x ?_
                           refine blockQ_x rfl ?_
                           refine seqQ_n ?_
                           refine awp_seq ?_
                           rw [coC_bit hcl hor, Bool.and_eq_true] at hfk
                           have hkl : k < c.length := by simpa using hfk.1
                           have hk2 : (req ||| exc).testBit k = false := by simpa using hfk.2
                           have hkr : req.testBit k = false ∧ exc.testBit k = false := by rw [Nat.testBit_or] at hk2; simpa using hk2
                           have hk10 : k < 10 := by omega
                           have hpk := pow_lt10 hk10
                           have hpa := pop_add hor hk10 hk2
                           have hek := or_lt10 he hk10
                           have hrk := or_lt10 hr hk10
                           have hle : popN ((req ||| exc) ||| 2 ^ k) ≤ 10 := (pop_one (Nat.or_lt_two_pow (n := 10) hor (Nat.pow_lt_pow_right (by omega) hk10))).2.2.1
                           have hpe : popN (req ||| (exc ||| 1 * 2 ^ k)) + (m - 1) = 10 := by rw [Nat.one_mul, ← Nat.or_assoc, hpa]; omega
                           have hpr : popN ((req ||| 1 * 2 ^ k) ||| exc) + (m - 1) = 10 := by rw [Nat.one_mul, Nat.or_assoc, Nat.or_comm (2 ^ k), ← Nat.or_assoc, hpa]; omega
                           refine awp_region ?_
                           refine aops_p (ap_move rfl) rfl rfl rfl ?_
                           refine aops_p (ap_build zKr rfl zRc (by repeat (first | exact .nil | apply FillL.cons rfl zFlat rfl zRc))) rfl rfl rfl ?_
                           refine aops_alloc rfl zRc rfl rfl (fun b15 => ?_)
                           first | refine aops_store rfl rfl zFlat zUpd rfl zRc ?_ | refine aops_store_own1 rfl rfl zScal zUpd rfl (by simp only [List.length_set, List.length_map]; omega) ?_
                           refine aops_nil ?_
                           refine seqQ_n ?_
                           refine awp_seq ?_
                           refine awp_draw (Hm := [.box b15 _ _, .box b _ _]) zKr zSplit ?_
                           first | refine aany_take 0 rfl (.none rfl) zKr zKr zKr (AP.ar (ap_fieldAddr (off := 2) (sz := 1) (g := false) rfl rfl)) rfl rfl ?_ | refine aany_take 0 rfl (.none rfl) zKr zKr zKr (AP.ar (ap_fieldAddr_el (off := 2) (sz := 1) (g := false) rfl rfl zRc)) rfl rfl ?_
                           refine aany_take 2 rfl (.none rfl) zKr zKr zKr (AP.ar (ap_move rfl)) rfl rfl ?_
                           first | refine aany_take 3 rfl (.none rfl) zKr zKr zKr (ar_load rfl zUpd rfl rfl zRc) rfl rfl ?_ | refine aany_take 3 rfl (.none rfl) zKr zKr zKr (AQ.ar (aq_load_el rfl rfl rfl rfl (fun _ h => h))) rfl rfl ?_
                           refine aany_take 4 rfl (.none rfl) zKr zKr zKr (AP.ar (ap_move rfl)) rfl rfl ?_
                           refine aany_take 5 rfl (.none rfl) zKr zKr zKr (AP.ar (ap_move rfl)) rfl rfl ?_
                           refine aany_take 6 rfl (.none rfl) zKr zKr zKr (AP.ar (ap_move rfl)) rfl rfl ?_
                           refine aany_take 7 rfl (.none rfl) zKr zKr zKr (AP.ar (ap_shl (p := 1) rfl rfl rfl (by omega) (by omega))) rfl rfl ?_
                           refine aany_take 8 rfl (.none rfl) zKr zKr zKr (AP.ar (ap_bits rfl rfl rfl (by omega) (by omega))) rfl rfl ?_
                           refine aany_take 9 rfl (.none rfl) zKr zKr zKr (AP.ar (ap_move rfl)) rfl rfl ?_
                           refine aany_each2 1 10 zKr rfl (.none rfl) ?_ rfl (.none rfl) ?_
                           rotate_left
                           case' _ =>
                             (refine aops_call zRc (ih (m - 1) (by omega) req (exc ||| 1 * 2 ^ k) _ hr hek hpe) zSplit rfl rfl ?_; rintro _ _ ⟨y, a91, rfl, ⟨hy1, hy2⟩, rfl⟩)
                             refine aops_nil ?_
                             refine aany_each2 1 11 zKr rfl (.none rfl) ?_ rfl (.none rfl) ?_
                             rotate_left
                             case' _ =>
                               refine aops_lit (e := 87) (sz := 3) (by_ := 40) rfl rfl zRc rfl rfl rfl rfl ?_
                               refine aops_nil ?_
                               refine aany_one 1 zKr rfl (.none rfl) ?_
                               first | refine aops_q (aq_load1 rfl zUpd List.not_mem_nil rfl zRc) rfl rfl rfl ?_ | refine aops_q (aq_load_el1 rfl rfl zScal (fun _ h => absurd h List.not_mem_nil)) rfl rfl rfl ?_ | refine aops_q (aq_load_el1' rfl rfl zScal (fun _ h => absurd h List.not_mem_nil)) rfl rfl rfl ?_ | refine aops_q (aq_load_own1 rfl zUpd List.not_mem_nil rfl zAss zScal) rfl rfl rfl ?_
                               refine aops_nil ?_
                               refine aany_one 12 zKr rfl (.none rfl) ?_
                               first | refine aops_append (e := 87) (sz := 3) (by_ := 40) rfl zUpd rfl rfl rfl rfl rfl (by simp only [List.length_cons, List.length_nil, List.length_append, List.length_map, avs_len]; omega) (fun v93 hv93 => ?_) | refine aops_append_nil (e := 87) (sz := 3) (by_ := 40) rfl rfl rfl rfl rfl rfl (by simp only [List.length_cons, List.length_nil, List.length_append, List.length_map, avs_len]; omega) (fun v93 hv93 => ?_)
                               refine aops_nil ?_
                               first | refine aany_take 13 rfl (.none rfl) zKr zKr zKr (AP.ar (ap_fieldAddr (off := 2) (sz := 1) (g := false) rfl rfl)) rfl rfl ?_ | refine aany_take 13 rfl (.none rfl) zKr zKr zKr (AP.ar (ap_fieldAddr_el (off := 2) (sz := 1) (g := false) rfl rfl zRc)) rfl rfl ?_
                               refine aany_one 14 zKr rfl (.none rfl) ?_
                               first | refine aops_store rfl rfl zFlat zUpd rfl zRc ?_ | refine aops_store_own1 rfl rfl zScal zUpd rfl (by simp only [List.length_set, List.length_map]; omega) ?_
                               refine aops_nil ?_
                               refine aany_nil zKr ?_
                             rotate_right
                             case' _ =>
                               first | refine aops_q (aq_load1 rfl zUpd List.not_mem_nil rfl zRc) rfl rfl rfl ?_ | refine aops_q (aq_load_el1 rfl rfl zScal (fun _ h => absurd h List.not_mem_nil)) rfl rfl rfl ?_ | refine aops_q (aq_load_el1' rfl rfl zScal (fun _ h => absurd h List.not_mem_nil)) rfl rfl rfl ?_ | refine aops_q (aq_load_own1 rfl zUpd List.not_mem_nil rfl zAss zScal) rfl rfl rfl ?_
                               refine aops_nil ?_
                               refine aany_one 11 zKr rfl (.none rfl) ?_
                               refine aops_lit (e := 87) (sz := 3) (by_ := 40) rfl rfl zRc rfl rfl rfl rfl ?_
                               refine aops_nil ?_
                               refine aany_one 12 zKr rfl (.none rfl) ?_
                               first | refine aops_append (e := 87) (sz := 3) (by_ := 40) rfl zUpd rfl rfl rfl rfl rfl (by simp only [List.length_cons, List.length_nil, List.length_append, List.length_map, avs_len]; omega) (fun v93 hv93 => ?_) | refine aops_append_nil (e := 87) (sz := 3) (by_ := 40) rfl rfl rfl rfl rfl rfl (by simp only [List.length_cons, List.length_nil, List.length_append, List.length_map, avs_len]; omega) (fun v93 hv93 => ?_)
                               refine aops_nil ?_
                               first | refine aany_take 13 rfl (.none rfl) zKr zKr zKr (AP.ar (ap_fieldAddr (off := 2) (sz := 1) (g := false) rfl rfl)) rfl rfl ?_ | refine aany_take 13 rfl (.none rfl) zKr zKr zKr (AP.ar (ap_fieldAddr_el (off := 2) (sz := 1) (g := false) rfl rfl zRc)) rfl rfl ?_
                               refine aany_one 14 zKr rfl (.none rfl) ?_
                               first | refine aops_store rfl rfl zFlat zUpd rfl zRc ?_ | refine aops_store_own1 rfl rfl zScal zUpd rfl (by simp only [List.length_set, List.length_map]; omega) ?_
                               refine aops_nil ?_
                               refine aany_nil zKr ?_
                           rotate_right
                           case' _ =>
                             first | refine aops_q (aq_load1 rfl zUpd List.not_mem_nil rfl zRc) rfl rfl rfl ?_ | refine aops_q (aq_load_el1 rfl rfl zScal (fun _ h => absurd h List.not_mem_nil)) rfl rfl rfl ?_ | refine aops_q (aq_load_el1' rfl rfl zScal (fun _ h => absurd h List.not_mem_nil)) rfl rfl rfl ?_ | refine aops_q (aq_load_own1 rfl zUpd List.not_mem_nil rfl zAss zScal) rfl rfl rfl ?_
                             refine aops_nil ?_
                             refine aany_one 10 zKr rfl (.none rfl) ?_
                             (refine aops_call zRc (ih (m - 1) (by omega) req (exc ||| 1 * 2 ^ k) _ hr hek hpe) zSplit rfl rfl ?_; rintro _ _ ⟨y, a91, rfl, ⟨hy1, hy2⟩, rfl⟩)
                             refine aops_nil ?_
                             refine aany_one 11 zKr rfl (.none rfl) ?_
                             refine aops_lit (e := 87) (sz := 3) (by_ := 40) rfl rfl zRc rfl rfl rfl rfl ?_
                             refine aops_nil ?_
                             refine aany_one 12 zKr rfl (.none rfl) ?_
                             first | refine aops_append (e := 87) (sz := 3) (by_ := 40) rfl zUpd rfl rfl rfl rfl rfl (by simp only [List.length_cons, List.length_nil, List.length_append, List.length_map, avs_len]; omega) (fun v93 hv93 => ?_) | refine aops_append_nil (e := 87) (sz := 3) (by_ := 40) rfl rfl rfl rfl rfl rfl (by simp only [List.length_cons, List.length_nil, List.length_append, List.length_map, avs_len]; omega) (fun v93 hv93 => ?_)
                             refine aops_nil ?_
                             first | refine aany_take 13 rfl (.none rfl) zKr zKr zKr (AP.ar (ap_fieldAddr (off := 2) (sz := 1) (g := false) rfl rfl)) rfl rfl ?_ | refine aany_take 13 rfl (.none rfl) zKr zKr zKr (AP.ar (ap_fieldAddr_el (off := 2) (sz := 1) (g := false) rfl rfl zRc)) rfl rfl ?_
                             refine aany_one 14 zKr rfl (.none rfl) ?_
                             first | refine aops_store rfl rfl zFlat zUpd rfl zRc ?_ | refine aops_store_own1 rfl rfl zScal zUpd rfl (by simp only [List.length_set, List.length_map]; omega) ?_
                             refine aops_nil ?_
                             refine aany_nil zKr ?_
                           all_goals (
                             refine seqQ_n ?_
                             refine awp_seq ?_
                             refine awp_draw (Hm := [.arr v93 _ _ _, .box b _ _, .box b15 _ _]) zKr zSplit ?_
                             first | refine aany_take 0 rfl (.none rfl) zKr zKr zKr (AP.ar (ap_fieldAddr (off := 2) (sz := 1) (g := false) rfl rfl)) rfl rfl ?_ | refine aany_take 0 rfl (.none rfl) zKr zKr zKr (AP.ar (ap_fieldAddr_el (off := 2) (sz := 1) (g := false) rfl rfl zRc)) rfl rfl ?_
                             refine aany_take 2 rfl (.none rfl) zKr zKr zKr (AP.ar (ap_move rfl)) rfl rfl ?_
                             first | refine aany_take 3 rfl (.none rfl) zKr zKr zKr (ar_load rfl zUpd rfl rfl zRc) rfl rfl ?_ | refine aany_take 3 rfl (.none rfl) zKr zKr zKr (AQ.ar (aq_load_el rfl rfl rfl rfl (fun _ h => h))) rfl rfl ?_
                             refine aany_take 4 rfl (.none rfl) zKr zKr zKr (AP.ar (ap_move rfl)) rfl rfl ?_
                             refine aany_take 5 rfl (.none rfl) zKr zKr zKr (AP.ar (ap_move rfl)) rfl rfl ?_
                             refine aany_take 6 rfl (.none rfl) zKr zKr zKr (AP.ar (ap_shl (p := 1) rfl rfl rfl (by omega) (by omega))) rfl rfl ?_
                             refine aany_take 7 rfl (.none rfl) zKr zKr zKr (AP.ar (ap_bits rfl rfl rfl (by omega) (by omega))) rfl rfl ?_
                             refine aany_take 8 rfl (.none rfl) zKr zKr zKr (AP.ar (ap_move rfl)) rfl rfl ?_
                             refine aany_take 9 rfl (.none rfl) zKr zKr zKr (AP.ar (ap_move rfl)) rfl rfl ?_
                             refine aany_each2 1 10 zKr rfl (.none rfl) ?_ rfl (.none rfl) ?_
                             rotate_left
                             case' _ =>
                               (refine aops_call zRc (ih (m - 1) (by omega) (req ||| 1 * 2 ^ k) exc _ hrk he hpr) zSplit rfl rfl ?_; rintro _ _ ⟨z, a105, rfl, ⟨hz1, hz2⟩, rfl⟩)
                               refine aops_nil ?_
                               refine aany_each2 1 11 zKr rfl (.none rfl) ?_ rfl (.none rfl) ?_
                               rotate_left
                               case' _ =>
                                 refine aops_lit (e := 87) (sz := 3) (by_ := 40) rfl rfl zRc rfl rfl rfl rfl ?_
                                 refine aops_nil ?_
                                 refine aany_one 1 zKr rfl (.none rfl) ?_
                                 first | refine aops_q (aq_load1 rfl zUpd List.not_mem_nil rfl zRc) rfl rfl rfl ?_ | refine aops_q (aq_load_el1 rfl rfl zScal (fun _ h => absurd h List.not_mem_nil)) rfl rfl rfl ?_ | refine aops_q (aq_load_el1' rfl rfl zScal (fun _ h => absurd h List.not_mem_nil)) rfl rfl rfl ?_ | refine aops_q (aq_load_own1 rfl zUpd List.not_mem_nil rfl zAss zScal) rfl rfl rfl ?_
                                 refine aops_nil ?_
                                 refine aany_one 12 zKr rfl (.none rfl) ?_
                                 first | refine aops_append (e := 87) (sz := 3) (by_ := 40) rfl zUpd rfl rfl rfl rfl rfl (by simp only [List.length_cons, List.length_nil, List.length_append, List.length_map, avs_len]; omega) (fun v107 hv107 => ?_) | refine aops_append_nil (e := 87) (sz := 3) (by_ := 40) rfl rfl rfl rfl rfl rfl (by simp only [List.length_cons, List.length_nil, List.length_append, List.length_map, avs_len]; omega) (fun v107 hv107 => ?_)
                                 refine aops_nil ?_
                                 first | refine aany_take 13 rfl (.none rfl) zKr zKr zKr (AP.ar (ap_fieldAddr (off := 2) (sz := 1) (g := false) rfl rfl)) rfl rfl ?_ | refine aany_take 13 rfl (.none rfl) zKr zKr zKr (AP.ar (ap_fieldAddr_el (off := 2) (sz := 1) (g := false) rfl rfl zRc)) rfl rfl ?_
                                 refine aany_one 14 zKr rfl (.none rfl) ?_
                                 first | refine aops_store rfl rfl zFlat zUpd rfl zRc ?_ | refine aops_store_own1 rfl rfl zScal zUpd rfl (by simp only [List.length_set, List.length_map]; omega) ?_
                                 refine aops_nil ?_
                                 refine aany_nil zKr ?_
                               rotate_right
                               case' _ =>
                                 first | refine aops_q (aq_load1 rfl zUpd List.not_mem_nil rfl zRc) rfl rfl rfl ?_ | refine aops_q (aq_load_el1 rfl rfl zScal (fun _ h => absurd h List.not_mem_nil)) rfl rfl rfl ?_ | refine aops_q (aq_load_el1' rfl rfl zScal (fun _ h => absurd h List.not_mem_nil)) rfl rfl rfl ?_ | refine aops_q (aq_load_own1 rfl zUpd List.not_mem_nil rfl zAss zScal) rfl rfl rfl ?_
                                 refine aops_nil ?_
                                 refine aany_one 11 zKr rfl (.none rfl) ?_
                                 refine aops_lit (e := 87) (sz := 3) (by_ := 40) rfl rfl zRc rfl rfl rfl rfl ?_
                                 refine aops_nil ?_
                                 refine aany_one 12 zKr rfl (.none rfl) ?_
                                 first | refine aops_append (e := 87) (sz := 3) (by_ := 40) rfl zUpd rfl rfl rfl rfl rfl (by simp only [List.length_cons, List.length_nil, List.length_append, List.length_map, avs_len]; omega) (fun v107 hv107 => ?_) | refine aops_append_nil (e := 87) (sz := 3) (by_ := 40) rfl rfl rfl rfl rfl rfl (by simp only [List.length_cons, List.length_nil, List.length_append, List.length_map, avs_len]; omega) (fun v107 hv107 => ?_)
                                 refine aops_nil ?_
                                 first | refine aany_take 13 rfl (.none rfl) zKr zKr zKr (AP.ar (ap_fieldAddr (off := 2) (sz := 1) (g := false) rfl rfl)) rfl rfl ?_ | refine aany_take 13 rfl (.none rfl) zKr zKr zKr (AP.ar (ap_fieldAddr_el (off := 2) (sz := 1) (g := false) rfl rfl zRc)) rfl rfl ?_
                                 refine aany_one 14 zKr rfl (.none rfl) ?_
                                 first | refine aops_store rfl rfl zFlat zUpd rfl zRc ?_ | refine aops_store_own1 rfl rfl zScal zUpd rfl (by simp only [List.length_set, List.length_map]; omega) ?_
                                 refine aops_nil ?_
                                 refine aany_nil zKr ?_
                             rotate_right
                             case' _ =>
                               first | refine aops_q (aq_load1 rfl zUpd List.not_mem_nil rfl zRc) rfl rfl rfl ?_ | refine aops_q (aq_load_el1 rfl rfl zScal (fun _ h => absurd h List.not_mem_nil)) rfl rfl rfl ?_ | refine aops_q (aq_load_el1' rfl rfl zScal (fun _ h => absurd h List.not_mem_nil)) rfl rfl rfl ?_ | refine aops_q (aq_load_own1 rfl zUpd List.not_mem_nil rfl zAss zScal) rfl rfl rfl ?_
                               refine aops_nil ?_
                               refine aany_one 10 zKr rfl (.none rfl) ?_
                               (refine aops_call zRc (ih (m - 1) (by omega) (req ||| 1 * 2 ^ k) exc _ hrk he hpr) zSplit rfl rfl ?_; rintro _ _ ⟨z, a105, rfl, ⟨hz1, hz2⟩, rfl⟩)
                               refine aops_nil ?_
                               refine aany_one 11 zKr rfl (.none rfl) ?_
                               refine aops_lit (e := 87) (sz := 3) (by_ := 40) rfl rfl zRc rfl rfl rfl rfl ?_
                               refine aops_nil ?_
                               refine aany_one 12 zKr rfl (.none rfl) ?_
                               first | refine aops_append (e := 87) (sz := 3) (by_ := 40) rfl zUpd rfl rfl rfl rfl rfl (by simp only [List.length_cons, List.length_nil, List.length_append, List.length_map, avs_len]; omega) (fun v107 hv107 => ?_) | refine aops_append_nil (e := 87) (sz := 3) (by_ := 40) rfl rfl rfl rfl rfl rfl (by simp only [List.length_cons, List.length_nil, List.length_append, List.length_map, avs_len]; omega) (fun v107 hv107 => ?_)
                               refine aops_nil ?_
                               first | refine aany_take 13 rfl (.none rfl) zKr zKr zKr (AP.ar (ap_fieldAddr (off := 2) (sz := 1) (g := false) rfl rfl)) rfl rfl ?_ | refine aany_take 13 rfl (.none rfl) zKr zKr zKr (AP.ar (ap_fieldAddr_el (off := 2) (sz := 1) (g := false) rfl rfl zRc)) rfl rfl ?_
                               refine aany_one 14 zKr rfl (.none rfl) ?_
                               first | refine aops_store rfl rfl zFlat zUpd rfl zRc ?_ | refine aops_store_own1 rfl rfl zScal zUpd rfl (by simp only [List.length_set, List.length_map]; omega) ?_
                               refine aops_nil ?_
                               refine aany_nil zKr ?_
                             all_goals (
                               refine seqQ_n ?_
                               refine awp_seq ?_
                               refine awp_region ?_
                               first | refine aops_q (aq_load rfl zUpd List.not_mem_nil rfl rfl zRc) rfl rfl rfl ?_ | refine aops_q (aq_load_el rfl rfl rfl rfl (fun _ h => absurd h List.not_mem_nil)) rfl rfl rfl ?_
                               first | refine aops_store rfl rfl zFlat zUpd rfl zRc ?_ | refine aops_store_own1 rfl rfl zScal zUpd rfl (by simp only [List.length_set, List.length_map]; omega) ?_
                               refine aops_nil ?_
                               refine seqQ_n ?_
                               refine awp_freeze v107 [10] (by repeat (first | exact .here | apply Rem.there)) (by repeat (first | exact .nil | apply SelC.cons rfl (by first | exact Cv.fz | (apply Cv.agg; repeat (first | exact CvL.nil | apply CvL.cons (by first | exact Cv.fz | exact Cv.same))) | exact Cv.same))) (by repeat (first | exact .nil | apply HeapA.box (by repeat (first | exact CvL.nil | apply CvL.cons (by first | exact Cv.fz | exact Cv.same))) | apply HeapA.arr)) ?_
                               rw [show [tv y] ++ [tv z] = tvs [y, z] from tvs_two y z]
                               refine awp_ret ?_
                               refine post_ret (.cell rfl zUpd rfl rfl .nil) (by repeat (first | exact .nil | refine .cons (by first | exact .here | exact .there .here | exact .there (.there .here) | exact .there (.there (.there .here)) | exact .there (.there (.there (.there .here)))) ?_)) ⟨.mk 3 k [y, z], _, rfl, ⟨?_, fun hmk hI => ?_⟩, rfl⟩
                               · have e : tsz (.mk 3 k [y, z]) = 1 + (tsz y + (tsz z + 0)) := (by show 1 + tszL [y, z] = _; rw [tszL_cons, tszL_cons]; rfl)
                                 have h9 : m - 1 + 1 = m := (by omega)
                                 rw [h9] at hy1 hz1
                                 rw [e, Nat.pow_succ]; omega
                               · rw [right_3t (a := y) (b := z) (j := k) rfl rfl rfl ((free_has hcl hr he).2 ⟨k, rfl, hkl, hkr.1, hkr.2⟩), hy2 hmk hI, hz2 hmk hI]; rfl
                               )
                             )
                        )
                    )
                 )
             )
          )
      )
theorem mTrace_con (b : Nat) (l : List Int) (c : List Mem) (hcl : c.length ≤ 10) (mk : Bool) (a : Nat) : Con Try.prog 64 [.p b 0, cv c, .b mk] [.box b 104 [.sl 1 (l.map .i), .i ((a : Nat) : Int)]] (fun d H => ∃ (x : Tr) (a' : Nat), d = tv x ∧ (tsz x ≤ 2047 ∧ (mk = false → interB c = true → rightC c x 0 0 = true)) ∧ H = [.box b 104 [.sl 1 (l.map .i), .i ((a' : Nat) : Int)]]) := by
  have hcap : capB = 140737488355328 := rfl
  refine con_intro Try.func64 rfl Try.call64 rfl ?_
  refine awp_seq ?_
  refine awp_region ?_
  refine aops_box rfl zFlat rfl rfl (fun b4 => ?_)
  refine aops_alloc rfl zRc rfl rfl (fun b6 => ?_)
  refine aops_nil ?_
  refine seqQ_n ?_
  refine awp_seq ?_
  refine awp_region ?_
  refine aops_p (ap_move rfl) rfl rfl rfl ?_
  first | refine aops_q (aq_load rfl zUpd List.not_mem_nil rfl rfl zRc) rfl rfl rfl ?_ | refine aops_q (aq_load_el rfl rfl rfl rfl (fun _ h => absurd h List.not_mem_nil)) rfl rfl rfl ?_
  refine aops_p (ap_move rfl) rfl rfl rfl ?_
  (refine aops_call zRc (mtrace_con _ _ c hcl mk 10 0 0 _ (by omega) (by omega) rfl) zSplit rfl rfl ?_; rintro _ _ ⟨x, a10, rfl, ⟨hx1, hx2⟩, rfl⟩)
  first | refine aops_store rfl rfl zFlat zUpd rfl zRc ?_ | refine aops_store_own1 rfl rfl zScal zUpd rfl (by simp only [List.length_set, List.length_map]; omega) ?_
  refine aops_nil ?_
  refine seqQ_n ?_
  refine awp_ret ?_
  refine post_ret (.cell rfl zUpd rfl rfl .nil) (by repeat (first | exact .nil | refine .cons (by first | exact .here | exact .there .here | exact .there (.there .here) | exact .there (.there (.there .here)) | exact .there (.there (.there (.there .here)))) ?_)) ⟨x, _, rfl, ⟨by omega, hx2⟩, rfl⟩
theorem op_tr {w : World} : ∀ n, OpN Try.prog w 87 n Tr (fun t => [.i t.kind, .i t.node, .sl 3 (tvs t.kids)]) := by
  intro n
  induction n using Nat.strongRecOn with
  | ind n ih =>
    refine op_struct Try.underlying87 zKr (fun m hm => ?_)
    refine (opf_cons zKr (op_int Try.underlying3) (opf_cons zKr (op_int Try.underlying3) (opf_cons zKr (op_slice (sz := 3) (mk := fun t => .agg [.i t.kind, .i t.node, .sl 3 (tvs t.kids)]) Try.underlying85 zKr (by omega) (of_decide_eq_true zKr) (mk_agg _) (fun k hk => ih k (by omega))) opf_nil))).map (fun p => .mk p.1 p.2.1 p.2.2.1) ?_
    intro p
    show _ = [D.i p.1, D.i p.2.1, D.sl 3 (tvs p.2.2.1)]
    rw [tvs_map]
    rfl
theorem okc_sz {c : List Mem} (h : OKC c) : ∀ m ∈ c, sizeT m.t ≤ 1000000000 := fun m hm => by have := okc_size h m hm; omega
theorem branches_con : ∀ (x : Tr) (n : Int), (0 ≤ n ∧ n ≤ 600) → Con Try.prog 103 [tv x, .i n] [] (fun d H => ∃ r : Int, d = .i r ∧ (n + 1 ≤ r ∧ r ≤ 601) ∧ (r ≤ 600 → n + tsz x ≤ r) ∧ H = []) := by
  have hcap : capB = 140737488355328 := rfl
  intro x
  induction x using Tr.ind with
  | _ x ih =>
    intro n hn
    have hl := tvs_len x.kids
    have hs0 : tsz x = 1 + tszL x.kids := rfl
    refine con_intro Try.func103 rfl Try.call103 rfl ?_
    refine awp_seq ?_
    refine awp_region ?_
    refine aops_box rfl zFlat rfl rfl (fun b2 => ?_)
    refine aops_p (ap_assign rfl) rfl rfl rfl ?_
    refine aops_nil ?_
    refine seqQ_n ?_
    refine awp_seq ?_
    refine awp_region ?_
    refine aops_p (ap_move rfl) rfl rfl rfl ?_
    refine aops_p (ap_arith rfl rfl rfl (by omega)) rfl rfl rfl ?_
    refine aops_p (ap_assign rfl) rfl rfl rfl ?_
    refine aops_nil ?_
    refine seqQ_n ?_
    refine awp_seq ?_
    refine awp_seq ?_
    refine awp_region ?_
    refine aops_p (ap_assign rfl) rfl rfl rfl ?_
    refine aops_nil ?_
    refine seqQ_n ?_
    refine awp_block ?_
    refine awp_loop2 [2] [.box b2 _ _] (fun (k : Nat) (s : Int) r => (1, .i s) :: (5, .i (k : Int)) :: r) (fun (k : Nat) (s : Int) r => r) (fun (k : Nat) (s : Int) => k ≤ x.kids.length ∧ (n + 1 ≤ s ∧ s ≤ 601) ∧ (s ≤ 600 → n + 1 + tszL x.kids ≤ s + tszL (x.kids.drop k))) (fun (k : Nat) (s : Int) => x.kids.length - k) (0) (n + 1) zRc ⟨by omega, by omega, by simp⟩ (wk zSub (by repeat (first | exact .nil | refine .cons (by first | exact .here | exact .there .here | exact .there (.there .here) | exact .there (.there (.there .here)) | exact .there (.there (.there (.there .here)))) ?_))) ?_
    intro k s ⟨hk, hs1, hI⟩
    refine awp_seq ?_
    refine awp_seq ?_
    refine awp_region ?_
    refine aops_p (ap_move rfl) rfl rfl rfl ?_
    first | refine aops_p (ap_fieldAddr (off := 2) (sz := 1) (g := false) rfl rfl) rfl rfl rfl ?_ | refine aops_p (ap_fieldAddr_el (off := 2) (sz := 1) (g := false) rfl rfl zRc) rfl rfl rfl ?_
    first | refine aops_q (aq_load1 rfl zUpd List.not_mem_nil rfl zRc) rfl rfl rfl ?_ | refine aops_q (aq_load_el1 rfl rfl zScal (fun _ h => absurd h List.not_mem_nil)) rfl rfl rfl ?_ | refine aops_q (aq_load_el1' rfl rfl zScal (fun _ h => absurd h List.not_mem_nil)) rfl rfl rfl ?_ | refine aops_q (aq_load_own1 rfl zUpd List.not_mem_nil rfl zAss zScal) rfl rfl rfl ?_
    first | refine aops_len rfl rfl rfl rfl (fun _ => ?_) | refine aops_p (ap_len_arr rfl zUpd rfl) rfl rfl rfl ?_ | refine aops_p (ap_len_nil rfl rfl) rfl rfl rfl ?_
    refine aops_p (ap_cmp rfl rfl rfl) rfl rfl rfl ?_
    refine aops_p (ap_move rfl) rfl rfl rfl ?_
    all_goals (first | (refine aops_yes rfl rfl rfl rfl zDec ?_; (refine aops_p (ap_move rfl) rfl rfl rfl ?_)) | refine aops_no_u rfl rfl rfl ?_ | refine aops_no_t rfl rfl rfl rfl zDec ?_ | (refine aops_guard_t rfl rfl rfl rfl (fun hg => ?_) (fun hg => ?_); case' _ => (refine aops_p (ap_move rfl) rfl rfl rfl ?_)))
    all_goals (first | (refine aops_yes rfl rfl rfl rfl zDec ?_; (refine aops_p (ap_cmp rfl rfl rfl) rfl rfl rfl ?_)) | refine aops_no_u rfl rfl rfl ?_ | refine aops_no_t rfl rfl rfl rfl zDec ?_ | (refine aops_guard_t rfl rfl rfl rfl (fun hg => ?_) (fun hg => ?_); case' _ => (refine aops_p (ap_cmp rfl rfl rfl) rfl rfl rfl ?_)))
    all_goals (first | refine aops_p (ap_pick_true rfl zDec rfl) rfl rfl rfl ?_ | refine aops_p (ap_pick_false rfl zDec rfl) rfl rfl rfl ?_)
    all_goals (
      refine aops_nil ?_
      refine seqQ_n ?_
      refine awp_cond rfl (fun hc => ?_) (fun hc => ?_)
      · first
        | (exact absurd hc (by decide))
        | (have hlt := of_decide_eq_true hg
           have hs4 := of_decide_eq_true hc
           obtain ⟨y, hy, hd⟩ := drop_cons (l := x.kids) (k := k) (by omega)
           have hy' := tvs_get hy
           have hym := List.mem_of_getElem? hy
           refine awp_skip ?_
           refine seqQ_n ?_
           refine awp_seq ?_
           refine awp_block ?_
           refine awp_region ?_
           first | refine aops_p (ap_fieldAddr (off := 2) (sz := 1) (g := false) rfl rfl) rfl rfl rfl ?_ | refine aops_p (ap_fieldAddr_el (off := 2) (sz := 1) (g := false) rfl rfl zRc) rfl rfl rfl ?_
           first | refine aops_q (aq_load1 rfl zUpd List.not_mem_nil rfl zRc) rfl rfl rfl ?_ | refine aops_q (aq_load_el1 rfl rfl zScal (fun _ h => absurd h List.not_mem_nil)) rfl rfl rfl ?_ | refine aops_q (aq_load_el1' rfl rfl zScal (fun _ h => absurd h List.not_mem_nil)) rfl rfl rfl ?_ | refine aops_q (aq_load_own1 rfl zUpd List.not_mem_nil rfl zAss zScal) rfl rfl rfl ?_
           refine aops_p (ap_move rfl) rfl rfl rfl ?_
           first | refine aops_p (ap_index rfl rfl rfl rfl (by decide) rfl zAss) rfl rfl rfl ?_ | refine aops_p (ap_index rfl rfl rfl rfl (by decide) (by omega) zAss) rfl rfl rfl ?_ | refine aops_p (ap_index_own rfl rfl rfl rfl rfl (by first | omega | (simp only [List.length_map, List.length_set, avs_len]; omega))) rfl rfl rfl ?_
           first | refine aops_q (aq_load rfl zUpd List.not_mem_nil rfl rfl zRc) rfl rfl rfl ?_ | refine aops_q (aq_load_el rfl rfl rfl rfl (fun _ h => absurd h List.not_mem_nil)) rfl rfl rfl ?_
           refine aops_p (ap_move rfl) rfl rfl rfl ?_
           (refine aops_call zRc (ih y hym s (by omega)) zSplit rfl rfl ?_; rintro _ _ ⟨r, rfl, hr1, hr2, rfl⟩)
           refine aops_p (ap_assign rfl) rfl rfl rfl ?_
           refine aops_nil ?_
           refine blockQ_n ?_
           refine seqQ_n ?_
           refine awp_region ?_
           refine aops_p (ap_move rfl) rfl rfl rfl ?_
           refine aops_p (ap_arith rfl rfl rfl (by omega)) rfl rfl rfl ?_
           refine aops_p (ap_assign rfl) rfl rfl rfl ?_
           refine aops_nil ?_
           refine seqQ_n ?_
           have hI2 := hI (by omega)
           rw [hd, tszL_cons] at hI2
           refine ⟨k + 1, r, ⟨by omega, by omega, fun h => ?_⟩, by omega, wk zSub (by repeat (first | exact .nil | refine .cons (by first | exact .here | exact .there .here | exact .there (.there .here) | exact .there (.there (.there .here)) | exact .there (.there (.there (.there .here)))) ?_))⟩
           have := hr2 h
           omega
          )
      · first
        | (exact absurd hc (by decide))
        | (refine awp_exit ?_
           refine seqQ_x ?_
           refine seqQ_x ?_
           refine blockQ_x rfl ?_
           refine seqQ_n ?_
           refine awp_seq ?_
           refine awp_region ?_
           refine aops_p (ap_move rfl) rfl rfl rfl ?_
           refine aops_p (ap_assign rfl) rfl rfl rfl ?_
           refine aops_nil ?_
           refine seqQ_n ?_
           refine awp_ret ?_
           refine post_ret (.tmp rfl .nil) (by repeat (first | exact .nil | refine .cons (by first | exact .here | exact .there .here | exact .there (.there .here) | exact .there (.there (.there .here)) | exact .there (.there (.there (.there .here)))) ?_)) ⟨_, rfl, by omega, fun h => ?_, rfl⟩
           have hI2 := hI h
           first | (have hge := of_decide_eq_false hg; rw [drop_nil (by omega)] at hI2; simp only [tszL] at hI2; omega) | (have := of_decide_eq_false hc; omega)
          )
      )
theorem smallT_con (x : Tr) : Con Try.prog 57 [tv x] [] (fun d H => ∃ c : Bool, d = .b c ∧ (c = true → tsz x ≤ 600) ∧ H = []) := by
  have hcap : capB = 140737488355328 := rfl
  refine con_intro Try.func57 rfl Try.call57 rfl ?_
  refine awp_seq ?_
  refine awp_region ?_
  refine aops_box rfl zFlat rfl rfl (fun b1 => ?_)
  refine aops_p (ap_assign rfl) rfl rfl rfl ?_
  refine aops_nil ?_
  refine seqQ_n ?_
  refine awp_seq ?_
  refine awp_region ?_
  first | refine aops_q (aq_load rfl zUpd List.not_mem_nil rfl rfl zRc) rfl rfl rfl ?_ | refine aops_q (aq_load_el rfl rfl rfl rfl (fun _ h => absurd h List.not_mem_nil)) rfl rfl rfl ?_
  (refine aops_call zRc (branches_con x 0 (by omega)) zSplit rfl rfl ?_; rintro _ _ ⟨r, rfl, hr1, hr2, rfl⟩)
  refine aops_p (ap_cmp rfl rfl rfl) rfl rfl rfl ?_
  refine aops_p (ap_assign rfl) rfl rfl rfl ?_
  refine aops_nil ?_
  refine seqQ_n ?_
  refine awp_ret ?_
  refine post_ret (.tmp rfl .nil) (by repeat (first | exact .nil | refine .cons (by first | exact .here | exact .there .here | exact .there (.there .here) | exact .there (.there (.there .here)) | exact .there (.there (.there (.there .here)))) ?_)) ⟨_, rfl, fun h => ?_, rfl⟩
  have h4 := of_decide_eq_true h
  have := hr2 h4
  omega
theorem none_alt {c : List Mem} {req exc : Nat} (hr : req < 1024) : noneC c req exc = (decide (((great c (co c exc) : Nat) : Int) = 0) || !decide (((great c (co c exc) &&& req : Nat) : Int) = (req : Int))) := by
  have h1 : decide (((great c (co c exc) &&& req : Nat) : Int) = (req : Int)) = decide (((req &&& (2 ^ 63 - 1 - great c (co c exc)) : Nat) : Int) = 0) := by
    rw [Bool.eq_iff_iff, decide_eq_true_iff, decide_eq_true_iff, and_sub, andn_zero hr (great_lt _ _)]
  rw [h1]
  rfl
theorem has_out {c : List Mem} {req exc : Nat} {x : Int} (hc : c.length ≤ 10) (hr : req < 1024) (he : exc < 1024) (h : ¬ (0 ≤ x ∧ x < (c.length : Int))) : has (freeC c req exc) x = false := by
  rw [Bool.eq_false_iff]
  intro h1
  obtain ⟨k, rfl, h2, _⟩ := (free_has hc hr he).1 h1
  exact h ⟨by omega, by omega⟩
theorem has_bitF {c : List Mem} {req exc j : Nat} (hc : c.length ≤ 10) (hr : req < 1024) (he : exc < 1024) (h : (req ||| exc).testBit j = true) : has (freeC c req exc) (j : Int) = false := by
  rw [Bool.eq_false_iff]
  intro h1
  obtain ⟨k, e, h2, h3, h4⟩ := (free_has hc hr he).1 h1
  obtain rfl : j = k := by omega
  rw [Nat.testBit_or, h3, h4] at h
  cases h
theorem has_yes {c : List Mem} {req exc j : Nat} (hc : c.length ≤ 10) (hr : req < 1024) (he : exc < 1024) (hj : j < c.length) (h : (req ||| exc).testBit j = false) : has (freeC c req exc) (j : Int) = true := by
  rw [Nat.testBit_or, Bool.or_eq_false_iff] at h
  exact (free_has hc hr he).2 ⟨j, rfl, hj, h.1, h.2⟩
theorem right_3x {c : List Mem} {x : Tr} {req exc : Nat} (h : x.kind = 3) (hh : has (freeC c req exc) x.node = false) : rightC c x req exc = false := by
  by_cases hl : x.kids.length = 2
  · exact right_3f h hl hh
  · exact right_3n h hl
end Go.Proofs.Ytanlbfnlnfkcjaa
