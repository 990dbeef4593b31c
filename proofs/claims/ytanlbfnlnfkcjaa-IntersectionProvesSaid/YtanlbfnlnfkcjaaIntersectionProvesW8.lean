/- The walks of: rtsize_con, rcheckT_con, iproves_con. Each says what one function of the program answers, for the arguments that its statement names. No condition beyond what each theorem says. -/
import Derived.Test.YtanlbfnlnfkcjaaIntersectionProvesW7
import Derived.Test.YtanlbfnlnfkcjaaProg
import Derived.KernelRfl
import Derived.Tactics
import Derived.Tactics2
import Derived.StillTactics
set_option linter.unusedVariables false
set_option linter.unusedSimpArgs false
set_option linter.unnecessarySimpa false
set_option maxRecDepth 4000
namespace Go.Proofs.Ytanlbfnlnfkcjaa
open Go Go.Av Go.Tq
theorem rtsize_con : ∀ (x : Tr), tsz x ≤ 1000000000 → Con Try.prog 68 [tv x] [] (Is (.i (tsz x : Int)) []) := by
  have hcap : capB = 140737488355328 := rfl
  intro x
  induction x using Tr.ind with
  | _ x ih =>
    intro hsz
    have hl := tvs_len x.kids
    have hs0 : tsz x = 1 + tszL x.kids := rfl
    refine con_intro Try.func68 rfl Try.call68 rfl ?_
    refine awp_seq ?_
    refine awp_region ?_
    refine aops_box rfl zFlat rfl rfl (fun b1 => ?_)
    refine aops_p (ap_assign rfl) rfl rfl rfl ?_
    refine aops_nil ?_
    refine seqQ_n ?_
    refine awp_seq ?_
    refine awp_region ?_
    refine aops_p (ap_assign rfl) rfl rfl rfl ?_
    refine aops_nil ?_
    refine seqQ_n ?_
    refine awp_seq ?_
    refine awp_seq ?_
    refine awp_region ?_
    first | refine aops_p (ap_fieldAddr (off := 2) (sz := 1) (g := false) rfl rfl) rfl rfl rfl ?_ | refine aops_p (ap_fieldAddr_el (off := 2) (sz := 1) (g := false) rfl rfl zRc) rfl rfl rfl ?_
    first | refine aops_q (aq_load1 rfl zUpd List.not_mem_nil rfl zRc) rfl rfl rfl ?_ | refine aops_q (aq_load_el1 rfl rfl zScal (fun _ h => absurd h List.not_mem_nil)) rfl rfl rfl ?_ | refine aops_q (aq_load_el1' rfl rfl zScal (fun _ h => absurd h List.not_mem_nil)) rfl rfl rfl ?_ | refine aops_q (aq_load_own1 rfl zUpd List.not_mem_nil rfl zAss zScal) rfl rfl rfl ?_
    first | refine aops_len rfl rfl rfl rfl (fun _ => ?_) | refine aops_p (ap_len_arr rfl zUpd rfl) rfl rfl rfl ?_ | refine aops_p (ap_len_nil rfl rfl) rfl rfl rfl ?_
    refine aops_p (ap_move rfl) rfl rfl rfl ?_
    refine aops_nil ?_
    refine seqQ_n ?_
    refine awp_block ?_
    refine awp_loop2 [7, 8] [.box b1 _ _] (fun (k : Nat) (n : Nat) r => (3, .i (n : Int)) :: (9, .i (k : Int)) :: r) (fun (k : Nat) (n : Nat) r => r) (fun (k : Nat) (n : Nat) => k ≤ x.kids.length ∧ n + tszL (x.kids.drop k) = tsz x) (fun (k : Nat) (n : Nat) => x.kids.length - k) (0) (1) zRc ⟨by omega, by simp; omega⟩ (wk zSub (by repeat (first | exact .nil | refine .cons (by first | exact .here | exact .there .here | exact .there (.there .here) | exact .there (.there (.there .here)) | exact .there (.there (.there (.there .here)))) ?_))) ?_
    intro k n ⟨hk, hI⟩
    refine awp_seq ?_
    refine awp_region ?_
    refine aops_p (ap_cmp rfl rfl rfl) rfl rfl rfl ?_
    refine aops_nil ?_
    refine seqQ_n ?_
    refine awp_seq ?_
    refine awp_cond rfl (fun hc => ?_) (fun hc => ?_)
    · have hlt := of_decide_eq_true hc
      obtain ⟨y, hy, hd⟩ := drop_cons (l := x.kids) (k := k) (by omega)
      have hy' := tvs_get hy
      have hym := List.mem_of_getElem? hy
      rw [hd, tszL_cons] at hI
      refine awp_skip ?_
      refine seqQ_n ?_
      refine awp_seq ?_
      refine awp_block ?_
      refine awp_seq ?_
      refine awp_region ?_
      first | refine aops_p (ap_index rfl rfl rfl rfl (by decide) rfl zAss) rfl rfl rfl ?_ | refine aops_p (ap_index rfl rfl rfl rfl (by decide) (by omega) zAss) rfl rfl rfl ?_ | refine aops_p (ap_index_own rfl rfl rfl rfl rfl (by first | omega | (simp only [List.length_map, List.length_set, avs_len]; omega))) rfl rfl rfl ?_
      first | refine aops_q (aq_load rfl zUpd List.not_mem_nil rfl rfl zRc) rfl rfl rfl ?_ | refine aops_q (aq_load_el rfl rfl rfl rfl (fun _ h => absurd h List.not_mem_nil)) rfl rfl rfl ?_
      refine aops_alloc rfl zRc rfl rfl (fun b5 => ?_)
      first | refine aops_store rfl rfl zFlat zUpd rfl zRc ?_ | refine aops_store_own1 rfl rfl zScal zUpd rfl (by simp only [List.length_set, List.length_map]; omega) ?_
      refine aops_nil ?_
      refine seqQ_n ?_
      refine awp_region ?_
      refine aops_p (ap_move rfl) rfl rfl rfl ?_
      first | refine aops_q (aq_load rfl zUpd List.not_mem_nil rfl rfl zRc) rfl rfl rfl ?_ | refine aops_q (aq_load_el rfl rfl rfl rfl (fun _ h => absurd h List.not_mem_nil)) rfl rfl rfl ?_
      refine aops_call_v zRc (ih y hym (by have := tszL_mem hym; omega)) rfl rfl ?_
      refine aops_p (ap_arith rfl rfl rfl (by omega)) rfl rfl rfl ?_
      refine aops_p (ap_assign rfl) rfl rfl rfl ?_
      refine aops_nil ?_
      refine blockQ_n ?_
      refine seqQ_n ?_
      refine awp_region ?_
      refine aops_p (ap_arith rfl rfl rfl (by omega)) rfl rfl rfl ?_
      refine aops_p (ap_move rfl) rfl rfl rfl ?_
      refine aops_nil ?_
      refine seqQ_n ?_
      refine ⟨k + 1, n + tsz y, ⟨by omega, by omega⟩, by omega, wk zSub (by repeat (first | exact .nil | refine .cons (by first | exact .here | exact .there .here | exact .there (.there .here) | exact .there (.there (.there .here)) | exact .there (.there (.there (.there .here)))) ?_))⟩
    · have hge := of_decide_eq_false hc
      rw [drop_nil (by omega)] at hI; simp only [tszL] at hI
      refine awp_exit ?_
      refine seqQ_x ?_
      refine seqQ_x ?_
      refine blockQ_x rfl ?_
      refine seqQ_n ?_
      refine awp_seq ?_
      refine awp_region ?_
      refine aops_p (ap_move rfl) rfl rfl rfl ?_
      refine aops_p (ap_assign rfl) rfl rfl rfl ?_
      refine aops_nil ?_
      refine seqQ_n ?_
      refine awp_ret ?_
      refine post_is (.tmp rfl .nil) .nil ?_
      rw [← hI]; rfl
theorem rcheckT_con (c : List Mem) (hs : ∀ m ∈ c, sizeT m.t ≤ 1000000000) (x : Tr) (hx : tsz x ≤ 1000000000) : Con Try.prog 66 [cv c, tv x] [] (Is (.b (checkTr c x)) []) := by
  have hcap : capB = 140737488355328 := rfl
  refine con_intro Try.func66 rfl Try.call66 rfl ?_
  refine awp_seq ?_
  refine awp_region ?_
  refine aops_box rfl zFlat rfl rfl (fun b2 => ?_)
  refine aops_box rfl zFlat rfl rfl (fun b3 => ?_)
  refine aops_p (ap_assign rfl) rfl rfl rfl ?_
  refine aops_nil ?_
  refine seqQ_n ?_
  refine awp_seq ?_
  refine awp_region ?_
  first | refine aops_q (aq_load rfl zUpd List.not_mem_nil rfl rfl zRc) rfl rfl rfl ?_ | refine aops_q (aq_load_el rfl rfl rfl rfl (fun _ h => absurd h List.not_mem_nil)) rfl rfl rfl ?_
  refine aops_call_v zRc (r6valid_con c hs) rfl rfl ?_
  refine aops_p (ap_cmp rfl rfl rfl) rfl rfl rfl ?_
  refine aops_p (ap_move rfl) rfl rfl rfl ?_
  all_goals (first | (refine aops_yes rfl rfl rfl rfl zDec ?_; (first | refine aops_q (aq_load rfl zUpd List.not_mem_nil rfl rfl zRc) rfl rfl rfl ?_ | refine aops_q (aq_load_el rfl rfl rfl rfl (fun _ h => absurd h List.not_mem_nil)) rfl rfl rfl ?_)) | refine aops_no_u rfl rfl rfl ?_ | refine aops_no_t rfl rfl rfl rfl zDec ?_ | (refine aops_guard_t rfl rfl rfl rfl (fun hg => ?_) (fun hg => ?_); case' _ => (first | refine aops_q (aq_load rfl zUpd List.not_mem_nil rfl rfl zRc) rfl rfl rfl ?_ | refine aops_q (aq_load_el rfl rfl rfl rfl (fun _ h => absurd h List.not_mem_nil)) rfl rfl rfl ?_)))
  all_goals (first | (refine aops_yes rfl rfl rfl rfl zDec ?_; (refine aops_call_v zRc (rtsize_con x hx) rfl rfl ?_)) | refine aops_no_u rfl rfl rfl ?_ | refine aops_no_t rfl rfl rfl rfl zDec ?_ | (refine aops_guard_t rfl rfl rfl rfl (fun hg => ?_) (fun hg => ?_); case' _ => (refine aops_call_v zRc (rtsize_con x hx) rfl rfl ?_)))
  all_goals (first | (refine aops_yes rfl rfl rfl rfl zDec ?_; (refine aops_p (ap_cmp rfl rfl rfl) rfl rfl rfl ?_)) | refine aops_no_u rfl rfl rfl ?_ | refine aops_no_t rfl rfl rfl rfl zDec ?_ | (refine aops_guard_t rfl rfl rfl rfl (fun hg => ?_) (fun hg => ?_); case' _ => (refine aops_p (ap_cmp rfl rfl rfl) rfl rfl rfl ?_)))
  all_goals (first | refine aops_p (ap_pick_true rfl zDec rfl) rfl rfl rfl ?_ | refine aops_p (ap_pick_false rfl zDec rfl) rfl rfl rfl ?_)
  all_goals (refine aops_p (ap_move rfl) rfl rfl rfl ?_)
  all_goals (first | (refine aops_yes rfl rfl rfl rfl zDec ?_; (first | refine aops_q (aq_load rfl zUpd List.not_mem_nil rfl rfl zRc) rfl rfl rfl ?_ | refine aops_q (aq_load_el rfl rfl rfl rfl (fun _ h => absurd h List.not_mem_nil)) rfl rfl rfl ?_)) | refine aops_no_u rfl rfl rfl ?_ | refine aops_no_t rfl rfl rfl rfl zDec ?_ | (refine aops_guard_t rfl rfl rfl rfl (fun hg => ?_) (fun hg => ?_); case' _ => (first | refine aops_q (aq_load rfl zUpd List.not_mem_nil rfl rfl zRc) rfl rfl rfl ?_ | refine aops_q (aq_load_el rfl rfl rfl rfl (fun _ h => absurd h List.not_mem_nil)) rfl rfl rfl ?_)))
  all_goals (first | (refine aops_yes rfl rfl rfl rfl zDec ?_; (first | refine aops_q (aq_load rfl zUpd List.not_mem_nil rfl rfl zRc) rfl rfl rfl ?_ | refine aops_q (aq_load_el rfl rfl rfl rfl (fun _ h => absurd h List.not_mem_nil)) rfl rfl rfl ?_)) | refine aops_no_u rfl rfl rfl ?_ | refine aops_no_t rfl rfl rfl rfl zDec ?_ | (refine aops_guard_t rfl rfl rfl rfl (fun hg => ?_) (fun hg => ?_); case' _ => (first | refine aops_q (aq_load rfl zUpd List.not_mem_nil rfl rfl zRc) rfl rfl rfl ?_ | refine aops_q (aq_load_el rfl rfl rfl rfl (fun _ h => absurd h List.not_mem_nil)) rfl rfl rfl ?_)))
  all_goals (first | (refine aops_yes rfl rfl rfl rfl zDec ?_; (refine aops_call_b zRc (rright_con c (validC_len (of_decide_eq_true (by with_reducible assumption))) x 0 0 (by omega) (by omega)) rfl rfl (fun c16 hc16 => ?_))) | refine aops_no_u rfl rfl rfl ?_ | refine aops_no_t rfl rfl rfl rfl zDec ?_ | (refine aops_guard_t rfl rfl rfl rfl (fun hg => ?_) (fun hg => ?_); case' _ => (refine aops_call_b zRc (rright_con c (validC_len (of_decide_eq_true (by with_reducible assumption))) x 0 0 (by omega) (by omega)) rfl rfl (fun c16 hc16 => ?_))))
  all_goals (first | refine aops_p (ap_pick_true rfl zDec rfl) rfl rfl rfl ?_ | refine aops_p (ap_pick_false rfl zDec rfl) rfl rfl rfl ?_)
  all_goals (refine aops_p (ap_assign rfl) rfl rfl rfl ?_)
  all_goals (
    refine aops_nil ?_
    refine seqQ_n ?_
    refine awp_ret ?_
    refine post_is (.tmp rfl .nil) .nil ?_
    unfold checkTr
    first
    | (rw [show decide (validC c = 0) = false by with_reducible assumption]; rfl)
    | (have h2 := of_decide_eq_false (show decide ((tsz x : Int) ≤ 20000) = false by with_reducible assumption); rw [decide_eq_false (p := tsz x ≤ 20000) (by omega), Bool.false_and, Bool.and_false]; rfl)
    | (have h2 := of_decide_eq_true (show decide ((tsz x : Int) ≤ 20000) = true by with_reducible assumption); rw [decide_eq_true (p := tsz x ≤ 20000) (by omega), show decide (validC c = 0) = true by with_reducible assumption, hc16]; rfl)
    )
theorem Prove_okc {c : List Mem} (h : OKC c) : Con Try.prog 63 [cv c] [] (fun d H => ∃ (x : Tr) (e : Int), d = .tup [tv x, .i e] ∧ ((interB c = false → e = 11) ∧ (interB c = true → e = 0 ∧ rightC c x 0 0 = true ∧ tsz x ≤ 2047)) ∧ H = []) := (Prove_con c (okc_sz h)).mono (fun d H ⟨x, e, h1, ⟨_, h2, h3⟩, h4⟩ => ⟨x, e, h1, ⟨fun hi => h2 (validC_ok h) hi, fun hi => ⟨(h3 (validC_ok h) hi).1, (h3 (validC_ok h) hi).2.1, (h3 (validC_ok h) hi).2.2.1⟩⟩, h4⟩)
theorem check_ok {c : List Mem} {x : Tr} (h : OKC c) (hx : tsz x ≤ 2047) (hr : rightC c x 0 0 = true) : checkTr c x = true := check_t (validC_ok h) (by omega) hr
theorem rcheckT_is {c : List Mem} {x : Tr} {b : Bool} (hs : ∀ m ∈ c, sizeT m.t ≤ 1000000000) (hx : tsz x ≤ 1000000000) (h : checkTr c x = b) : Con Try.prog 66 [cv c, tv x] [] (Is (.b b) []) := by rw [← h]; exact rcheckT_con c hs x hx
theorem iproves_con (l : List Int) : Con Try.prog 9 [.sl 1 (l.map .i)] [] (Is (.b true) []) := by
  have hcap : capB = 140737488355328 := rfl
  refine con_intro Try.func9 rfl Try.call9 rfl ?_
  refine awp_seq ?_
  refine awp_region ?_
  refine aops_p (ap_assign rfl) rfl rfl rfl ?_
  refine aops_nil ?_
  refine seqQ_n ?_
  refine awp_seq ?_
  refine awp_region ?_
  refine aops_p (ap_move rfl) rfl rfl rfl ?_
  (refine aops_call zRc (New_con l) zSplit rfl rfl ?_; rintro _ _ ⟨b10, rfl, rfl⟩)
  refine aops_p (ap_assign rfl) rfl rfl rfl ?_
  refine aops_nil ?_
  refine seqQ_n ?_
  refine awp_seq ?_
  refine awp_region ?_
  refine aops_p (ap_move rfl) rfl rfl rfl ?_
  (refine aops_call zRc (Config_con _ 9 _ (by omega) _) zSplit rfl rfl ?_; rintro _ _ ⟨c, a12, rfl, ⟨hc0, hcl⟩, rfl⟩; have hc10 : c.length ≤ 10 := (by omega); have hcs := okc_sz hc0)
  refine aops_alloc rfl zRc rfl rfl (fun b4 => ?_)
  first | refine aops_store rfl rfl zFlat zUpd rfl zRc ?_ | refine aops_store_own1 rfl rfl zScal zUpd rfl (by simp only [List.length_set, List.length_map]; omega) ?_
  refine aops_nil ?_
  refine seqQ_n ?_
  refine awp_seq ?_
  refine awp_region ?_
  first | refine aops_q (aq_load rfl zUpd List.not_mem_nil rfl rfl zRc) rfl rfl rfl ?_ | refine aops_q (aq_load_el rfl rfl rfl rfl (fun _ h => absurd h List.not_mem_nil)) rfl rfl rfl ?_
  (refine aops_call zRc (Prove_okc hc0) zSplit rfl rfl ?_; rintro _ _ ⟨x, e, rfl, ⟨he1, he2⟩, rfl⟩)
  refine aops_p (ap_move rfl) rfl rfl rfl ?_
  refine aops_p (ap_extract rfl rfl) rfl rfl rfl ?_
  refine aops_p (ap_extract rfl rfl) rfl rfl rfl ?_
  refine aops_alloc rfl zRc rfl rfl (fun b5 => ?_)
  first | refine aops_store rfl rfl zFlat zUpd rfl zRc ?_ | refine aops_store_own1 rfl rfl zScal zUpd rfl (by simp only [List.length_set, List.length_map]; omega) ?_
  refine aops_p (ap_assign rfl) rfl rfl rfl ?_
  refine aops_nil ?_
  refine seqQ_n ?_
  refine awp_seq ?_
  refine awp_region ?_
  first | refine aops_q (aq_load rfl zUpd List.not_mem_nil rfl rfl zRc) rfl rfl rfl ?_ | refine aops_q (aq_load_el rfl rfl rfl rfl (fun _ h => absurd h List.not_mem_nil)) rfl rfl rfl ?_
  refine aops_call_v zRc (rholds_ok hc0) rfl rfl ?_
  refine aops_p (ap_move rfl) rfl rfl rfl ?_
  refine aops_p (ap_extract rfl rfl) rfl rfl rfl ?_
  refine aops_p (ap_extract rfl rfl) rfl rfl rfl ?_
  refine aops_p (ap_assign rfl) rfl rfl rfl ?_
  refine aops_p (ap_assign rfl) rfl rfl rfl ?_
  refine aops_nil ?_
  refine seqQ_n ?_
  refine awp_seq ?_
  refine awp_seq ?_
  refine awp_region ?_
  refine aops_p (ap_move rfl) rfl rfl rfl ?_
  refine aops_p (ap_cmp rfl rfl rfl) rfl rfl rfl ?_
  refine aops_nil ?_
  refine seqQ_n ?_
  refine awp_cond_f rfl zDec ?_
  refine awp_skip ?_
  refine seqQ_n ?_
  refine awp_seq ?_
  refine awp_seq ?_
  refine awp_region ?_
  refine aops_p (ap_move rfl) rfl rfl rfl ?_
  refine aops_p (ap_not rfl) rfl rfl rfl ?_
  refine aops_nil ?_
  refine seqQ_n ?_
  refine awp_cond rfl (fun hc => ?_) (fun hc => ?_)
  · have hib : interB c = false := not_t hc
    obtain rfl := he1 hib
    refine awp_seq ?_
    refine awp_draw (Hm := [.box b10 _ _]) zKr zSplit ?_
    refine aany_take 0 rfl (.none rfl) zKr zKr zKr (AP.ar (ap_move rfl)) rfl rfl ?_
    refine aany_take 1 rfl (.none rfl) zKr zKr zKr (AP.ar (ap_cmp rfl rfl rfl)) rfl rfl ?_
    refine aany_take 2 rfl (.none rfl) zKr zKr zKr (AP.ar (ap_move rfl)) rfl rfl ?_
    refine aany_guard 2 rfl (fun hg => ?_) (fun hg => ?_)
    rotate_left
    case' _ =>
      first
      | (exact absurd hg (by decide))
      | (exfalso; simp at hg; done)
      | (refine aany_skip 3 rfl (.no rfl rfl (by first | (show _ = false; with_reducible assumption) | exact zDec)) zKr zKr zKr rfl rfl ?_
         refine aany_skip 4 rfl (.no rfl rfl (by first | (show _ = false; with_reducible assumption) | exact zDec)) zKr zKr zKr rfl rfl ?_
         refine aany_skip 5 rfl (.no rfl rfl (by first | (show _ = false; with_reducible assumption) | exact zDec)) zKr zKr zKr rfl rfl ?_
         refine aany_skip 6 rfl (.no rfl rfl (by first | (show _ = false; with_reducible assumption) | exact zDec)) zKr zKr zKr rfl rfl ?_
         refine aany_skip 7 rfl (.no rfl rfl (by first | (show _ = false; with_reducible assumption) | exact zDec)) zKr zKr zKr rfl rfl ?_
         refine aany_skip 8 rfl (.no rfl rfl (by first | (show _ = false; with_reducible assumption) | exact zDec)) zKr zKr zKr rfl rfl ?_
         first | refine aany_take 9 rfl (.none rfl) zKr zKr zKr (AP.ar (ap_pick_true rfl zDec rfl)) rfl rfl ?_ | refine aany_take 9 rfl (.none rfl) zKr zKr zKr (AP.ar (ap_pick_false rfl zDec rfl)) rfl rfl ?_
         refine aany_take 10 rfl (.none rfl) zKr zKr zKr (AP.ar (ap_move rfl)) rfl rfl ?_
         refine aany_skip 11 rfl (.no rfl rfl (by first | (show _ = false; with_reducible assumption) | exact zDec)) zKr zKr zKr rfl rfl ?_
         refine aany_skip 12 rfl (.no rfl rfl (by first | (show _ = false; with_reducible assumption) | exact zDec)) zKr zKr zKr rfl rfl ?_
         refine aany_skip 13 rfl (.no rfl rfl (by first | (show _ = false; with_reducible assumption) | exact zDec)) zKr zKr zKr rfl rfl ?_
         refine aany_skip 14 rfl (.no rfl rfl (by first | (show _ = false; with_reducible assumption) | exact zDec)) zKr zKr zKr rfl rfl ?_
         refine aany_skip 15 rfl (.no rfl rfl (by first | (show _ = false; with_reducible assumption) | exact zDec)) zKr zKr zKr rfl rfl ?_
         refine aany_skip 16 rfl (.no rfl rfl (by first | (show _ = false; with_reducible assumption) | exact zDec)) zKr zKr zKr rfl rfl ?_
         first | refine aany_take 17 rfl (.none rfl) zKr zKr zKr (AP.ar (ap_pick_true rfl zDec rfl)) rfl rfl ?_ | refine aany_take 17 rfl (.none rfl) zKr zKr zKr (AP.ar (ap_pick_false rfl zDec rfl)) rfl rfl ?_
         refine aany_take 18 rfl (.none rfl) zKr zKr zKr (AP.ar (ap_move rfl)) rfl rfl ?_
         refine aany_skip 19 rfl (.no rfl rfl (by first | (show _ = false; with_reducible assumption) | exact zDec)) zKr zKr zKr rfl rfl ?_
         first | refine aany_take 20 rfl (.none rfl) zKr zKr zKr (AP.ar (ap_pick_true rfl zDec rfl)) rfl rfl ?_ | refine aany_take 20 rfl (.none rfl) zKr zKr zKr (AP.ar (ap_pick_false rfl zDec rfl)) rfl rfl ?_
         refine aany_take 21 rfl (.none rfl) zKr zKr zKr (AP.ar (ap_assign rfl)) rfl rfl ?_
         refine aany_nil zKr ?_
        )
    rotate_right
    case' _ =>
      first
      | (exact absurd hg (by decide))
      | (exfalso; simp at hg; done)
      | (first | refine aany_take 3 rfl (.yes rfl rfl zDec) zKr zKr zKr (ar_load rfl zUpd rfl rfl zRc) rfl rfl ?_ | refine aany_take 3 rfl (.yes rfl rfl zDec) zKr zKr zKr (AQ.ar (aq_load_el rfl rfl rfl rfl (fun _ h => h))) rfl rfl ?_
         refine aany_take 4 rfl (.yes rfl rfl zDec) zKr zKr zKr (AP.ar (ap_move rfl)) rfl rfl ?_
         first | refine aany_take 5 rfl (.yes rfl rfl zDec) zKr zKr zKr (ar_load rfl zUpd rfl rfl zRc) rfl rfl ?_ | refine aany_take 5 rfl (.yes rfl rfl zDec) zKr zKr zKr (AQ.ar (aq_load_el rfl rfl rfl rfl (fun _ h => h))) rfl rfl ?_
         refine aany_one 6 zKr rfl (.yes rfl rfl zDec) ?_
         (refine aops_call zRc (mTrace_con _ _ c hc10 false _) zSplit rfl rfl ?_; rintro _ _ ⟨x33, a33, rfl, ⟨hx33, hy33⟩, rfl⟩)
         refine aops_nil ?_
         refine aany_one 7 zKr rfl (.yes rfl rfl zDec) ?_
         refine aops_call_v zRc (checkT_is hcs (by omega) (check_no hc10 hib)) rfl rfl ?_
         refine aops_nil ?_
         refine aany_take 8 rfl (.yes rfl rfl zDec) zKr zKr zKr (AP.ar (ap_not rfl)) rfl rfl ?_
         first | refine aany_take 9 rfl (.none rfl) zKr zKr zKr (AP.ar (ap_pick_true rfl zDec rfl)) rfl rfl ?_ | refine aany_take 9 rfl (.none rfl) zKr zKr zKr (AP.ar (ap_pick_false rfl zDec rfl)) rfl rfl ?_
         refine aany_take 10 rfl (.none rfl) zKr zKr zKr (AP.ar (ap_move rfl)) rfl rfl ?_
         refine aany_guard 10 rfl (fun hg => ?_) (fun hg => ?_)
         rotate_left
         case' _ =>
           first
           | (exact absurd hg (by decide))
           | (exfalso; simp at hg; done)
           | (refine aany_skip 11 rfl (.no rfl rfl (by first | (show _ = false; with_reducible assumption) | exact zDec)) zKr zKr zKr rfl rfl ?_
              refine aany_skip 12 rfl (.no rfl rfl (by first | (show _ = false; with_reducible assumption) | exact zDec)) zKr zKr zKr rfl rfl ?_
              refine aany_skip 13 rfl (.no rfl rfl (by first | (show _ = false; with_reducible assumption) | exact zDec)) zKr zKr zKr rfl rfl ?_
              refine aany_skip 14 rfl (.no rfl rfl (by first | (show _ = false; with_reducible assumption) | exact zDec)) zKr zKr zKr rfl rfl ?_
              refine aany_skip 15 rfl (.no rfl rfl (by first | (show _ = false; with_reducible assumption) | exact zDec)) zKr zKr zKr rfl rfl ?_
              refine aany_skip 16 rfl (.no rfl rfl (by first | (show _ = false; with_reducible assumption) | exact zDec)) zKr zKr zKr rfl rfl ?_
              first | refine aany_take 17 rfl (.none rfl) zKr zKr zKr (AP.ar (ap_pick_true rfl zDec rfl)) rfl rfl ?_ | refine aany_take 17 rfl (.none rfl) zKr zKr zKr (AP.ar (ap_pick_false rfl zDec rfl)) rfl rfl ?_
              refine aany_take 18 rfl (.none rfl) zKr zKr zKr (AP.ar (ap_move rfl)) rfl rfl ?_
              refine aany_skip 19 rfl (.no rfl rfl (by first | (show _ = false; with_reducible assumption) | exact zDec)) zKr zKr zKr rfl rfl ?_
              first | refine aany_take 20 rfl (.none rfl) zKr zKr zKr (AP.ar (ap_pick_true rfl zDec rfl)) rfl rfl ?_ | refine aany_take 20 rfl (.none rfl) zKr zKr zKr (AP.ar (ap_pick_false rfl zDec rfl)) rfl rfl ?_
              refine aany_take 21 rfl (.none rfl) zKr zKr zKr (AP.ar (ap_assign rfl)) rfl rfl ?_
              refine aany_nil zKr ?_
             )
         rotate_right
         case' _ =>
           first
           | (exact absurd hg (by decide))
           | (exfalso; simp at hg; done)
           | (first | refine aany_take 11 rfl (.yes rfl rfl zDec) zKr zKr zKr (ar_load rfl zUpd rfl rfl zRc) rfl rfl ?_ | refine aany_take 11 rfl (.yes rfl rfl zDec) zKr zKr zKr (AQ.ar (aq_load_el rfl rfl rfl rfl (fun _ h => h))) rfl rfl ?_
              refine aany_take 12 rfl (.yes rfl rfl zDec) zKr zKr zKr (AP.ar (ap_move rfl)) rfl rfl ?_
              first | refine aany_take 13 rfl (.yes rfl rfl zDec) zKr zKr zKr (ar_load rfl zUpd rfl rfl zRc) rfl rfl ?_ | refine aany_take 13 rfl (.yes rfl rfl zDec) zKr zKr zKr (AQ.ar (aq_load_el rfl rfl rfl rfl (fun _ h => h))) rfl rfl ?_
              refine aany_one 14 zKr rfl (.yes rfl rfl zDec) ?_
              (refine aops_call zRc (mTrace_con _ _ c hc10 true _) zSplit rfl rfl ?_; rintro _ _ ⟨x41, a41, rfl, ⟨hx41, hy41⟩, rfl⟩)
              refine aops_nil ?_
              refine aany_one 15 zKr rfl (.yes rfl rfl zDec) ?_
              refine aops_call_v zRc (checkT_is hcs (by omega) (check_no hc10 hib)) rfl rfl ?_
              refine aops_nil ?_
              refine aany_take 16 rfl (.yes rfl rfl zDec) zKr zKr zKr (AP.ar (ap_not rfl)) rfl rfl ?_
              first | refine aany_take 17 rfl (.none rfl) zKr zKr zKr (AP.ar (ap_pick_true rfl zDec rfl)) rfl rfl ?_ | refine aany_take 17 rfl (.none rfl) zKr zKr zKr (AP.ar (ap_pick_false rfl zDec rfl)) rfl rfl ?_
              refine aany_take 18 rfl (.none rfl) zKr zKr zKr (AP.ar (ap_move rfl)) rfl rfl ?_
              refine aany_guard 18 rfl (fun hg => ?_) (fun hg => ?_)
              rotate_left
              case' _ =>
                first
                | (exact absurd hg (by decide))
                | (exfalso; simp at hg; done)
                | (refine aany_skip 19 rfl (.no rfl rfl (by first | (show _ = false; with_reducible assumption) | exact zDec)) zKr zKr zKr rfl rfl ?_
                   first | refine aany_take 20 rfl (.none rfl) zKr zKr zKr (AP.ar (ap_pick_true rfl zDec rfl)) rfl rfl ?_ | refine aany_take 20 rfl (.none rfl) zKr zKr zKr (AP.ar (ap_pick_false rfl zDec rfl)) rfl rfl ?_
                   refine aany_take 21 rfl (.none rfl) zKr zKr zKr (AP.ar (ap_assign rfl)) rfl rfl ?_
                   refine aany_nil zKr ?_
                  )
              rotate_right
              case' _ =>
                first
                | (exact absurd hg (by decide))
                | (exfalso; simp at hg; done)
                | (refine aany_one 19 zKr rfl (.yes rfl rfl zDec) ?_
                   refine aops_call_v zRc (awake12_con) rfl rfl ?_
                   refine aops_nil ?_
                   first | refine aany_take 20 rfl (.none rfl) zKr zKr zKr (AP.ar (ap_pick_true rfl zDec rfl)) rfl rfl ?_ | refine aany_take 20 rfl (.none rfl) zKr zKr zKr (AP.ar (ap_pick_false rfl zDec rfl)) rfl rfl ?_
                   refine aany_take 21 rfl (.none rfl) zKr zKr zKr (AP.ar (ap_assign rfl)) rfl rfl ?_
                   refine aany_nil zKr ?_
                  )
             )
        )
    all_goals (
      refine seqQ_n ?_
      refine awp_ret ?_
      refine seqQ_r ?_
      first | (refine post_is (.tmp rfl .nil) (by repeat (first | exact .nil | refine .cons (by first | exact .here | exact .there .here | exact .there (.there .here) | exact .there (.there (.there .here)) | exact .there (.there (.there (.there .here)))) ?_)) rfl) | (exfalso; simp at hc; done) | (exfalso; simp at hg; done)
      )
  · have hib : interB c = true := not_f hc
    obtain ⟨rfl, hxr, hxs⟩ := he2 hib
    refine awp_skip ?_
    refine seqQ_n ?_
    refine awp_seq ?_
    refine awp_draw (Hm := [.box b10 _ _]) zKr zSplit ?_
    refine aany_take 0 rfl (.none rfl) zKr zKr zKr (AP.ar (ap_move rfl)) rfl rfl ?_
    refine aany_take 1 rfl (.none rfl) zKr zKr zKr (AP.ar (ap_cmp rfl rfl rfl)) rfl rfl ?_
    refine aany_take 2 rfl (.none rfl) zKr zKr zKr (AP.ar (ap_move rfl)) rfl rfl ?_
    refine aany_guard 2 rfl (fun hg => ?_) (fun hg => ?_)
    rotate_left
    case' _ =>
      first
      | (exact absurd hg (by decide))
      | (exfalso; simp at hg; done)
      | (refine aany_skip 3 rfl (.no rfl rfl (by first | (show _ = false; with_reducible assumption) | exact zDec)) zKr zKr zKr rfl rfl ?_
         refine aany_skip 4 rfl (.no rfl rfl (by first | (show _ = false; with_reducible assumption) | exact zDec)) zKr zKr zKr rfl rfl ?_
         refine aany_skip 5 rfl (.no rfl rfl (by first | (show _ = false; with_reducible assumption) | exact zDec)) zKr zKr zKr rfl rfl ?_
         first | refine aany_take 6 rfl (.none rfl) zKr zKr zKr (AP.ar (ap_pick_true rfl zDec rfl)) rfl rfl ?_ | refine aany_take 6 rfl (.none rfl) zKr zKr zKr (AP.ar (ap_pick_false rfl zDec rfl)) rfl rfl ?_
         refine aany_take 7 rfl (.none rfl) zKr zKr zKr (AP.ar (ap_move rfl)) rfl rfl ?_
         refine aany_skip 8 rfl (.no rfl rfl (by first | (show _ = false; with_reducible assumption) | exact zDec)) zKr zKr zKr rfl rfl ?_
         refine aany_skip 9 rfl (.no rfl rfl (by first | (show _ = false; with_reducible assumption) | exact zDec)) zKr zKr zKr rfl rfl ?_
         refine aany_skip 10 rfl (.no rfl rfl (by first | (show _ = false; with_reducible assumption) | exact zDec)) zKr zKr zKr rfl rfl ?_
         first | refine aany_take 11 rfl (.none rfl) zKr zKr zKr (AP.ar (ap_pick_true rfl zDec rfl)) rfl rfl ?_ | refine aany_take 11 rfl (.none rfl) zKr zKr zKr (AP.ar (ap_pick_false rfl zDec rfl)) rfl rfl ?_
         refine aany_take 12 rfl (.none rfl) zKr zKr zKr (AP.ar (ap_move rfl)) rfl rfl ?_
         refine aany_skip 13 rfl (.no rfl rfl (by first | (show _ = false; with_reducible assumption) | exact zDec)) zKr zKr zKr rfl rfl ?_
         refine aany_skip 14 rfl (.no rfl rfl (by first | (show _ = false; with_reducible assumption) | exact zDec)) zKr zKr zKr rfl rfl ?_
         refine aany_skip 15 rfl (.no rfl rfl (by first | (show _ = false; with_reducible assumption) | exact zDec)) zKr zKr zKr rfl rfl ?_
         refine aany_skip 16 rfl (.no rfl rfl (by first | (show _ = false; with_reducible assumption) | exact zDec)) zKr zKr zKr rfl rfl ?_
         refine aany_skip 17 rfl (.no rfl rfl (by first | (show _ = false; with_reducible assumption) | exact zDec)) zKr zKr zKr rfl rfl ?_
         first | refine aany_take 18 rfl (.none rfl) zKr zKr zKr (AP.ar (ap_pick_true rfl zDec rfl)) rfl rfl ?_ | refine aany_take 18 rfl (.none rfl) zKr zKr zKr (AP.ar (ap_pick_false rfl zDec rfl)) rfl rfl ?_
         refine aany_take 19 rfl (.none rfl) zKr zKr zKr (AP.ar (ap_move rfl)) rfl rfl ?_
         refine aany_skip 20 rfl (.no rfl rfl (by first | (show _ = false; with_reducible assumption) | exact zDec)) zKr zKr zKr rfl rfl ?_
         first | refine aany_take 21 rfl (.none rfl) zKr zKr zKr (AP.ar (ap_pick_true rfl zDec rfl)) rfl rfl ?_ | refine aany_take 21 rfl (.none rfl) zKr zKr zKr (AP.ar (ap_pick_false rfl zDec rfl)) rfl rfl ?_
         refine aany_take 22 rfl (.none rfl) zKr zKr zKr (AP.ar (ap_assign rfl)) rfl rfl ?_
         refine aany_nil zKr ?_
        )
    rotate_right
    case' _ =>
      first
      | (exact absurd hg (by decide))
      | (exfalso; simp at hg; done)
      | (first | refine aany_take 3 rfl (.yes rfl rfl zDec) zKr zKr zKr (ar_load rfl zUpd rfl rfl zRc) rfl rfl ?_ | refine aany_take 3 rfl (.yes rfl rfl zDec) zKr zKr zKr (AQ.ar (aq_load_el rfl rfl rfl rfl (fun _ h => h))) rfl rfl ?_
         first | refine aany_take 4 rfl (.yes rfl rfl zDec) zKr zKr zKr (ar_load rfl zUpd rfl rfl zRc) rfl rfl ?_ | refine aany_take 4 rfl (.yes rfl rfl zDec) zKr zKr zKr (AQ.ar (aq_load_el rfl rfl rfl rfl (fun _ h => h))) rfl rfl ?_
         refine aany_one 5 zKr rfl (.yes rfl rfl zDec) ?_
         refine aops_call_v zRc (rcheckT_is hcs (by omega) (check_ok hc0 hxs hxr)) rfl rfl ?_
         refine aops_nil ?_
         first | refine aany_take 6 rfl (.none rfl) zKr zKr zKr (AP.ar (ap_pick_true rfl zDec rfl)) rfl rfl ?_ | refine aany_take 6 rfl (.none rfl) zKr zKr zKr (AP.ar (ap_pick_false rfl zDec rfl)) rfl rfl ?_
         refine aany_take 7 rfl (.none rfl) zKr zKr zKr (AP.ar (ap_move rfl)) rfl rfl ?_
         refine aany_guard 7 rfl (fun hg => ?_) (fun hg => ?_)
         rotate_left
         case' _ =>
           first
           | (exact absurd hg (by decide))
           | (exfalso; simp at hg; done)
           | (refine aany_skip 8 rfl (.no rfl rfl (by first | (show _ = false; with_reducible assumption) | exact zDec)) zKr zKr zKr rfl rfl ?_
              refine aany_skip 9 rfl (.no rfl rfl (by first | (show _ = false; with_reducible assumption) | exact zDec)) zKr zKr zKr rfl rfl ?_
              refine aany_skip 10 rfl (.no rfl rfl (by first | (show _ = false; with_reducible assumption) | exact zDec)) zKr zKr zKr rfl rfl ?_
              first | refine aany_take 11 rfl (.none rfl) zKr zKr zKr (AP.ar (ap_pick_true rfl zDec rfl)) rfl rfl ?_ | refine aany_take 11 rfl (.none rfl) zKr zKr zKr (AP.ar (ap_pick_false rfl zDec rfl)) rfl rfl ?_
              refine aany_take 12 rfl (.none rfl) zKr zKr zKr (AP.ar (ap_move rfl)) rfl rfl ?_
              refine aany_skip 13 rfl (.no rfl rfl (by first | (show _ = false; with_reducible assumption) | exact zDec)) zKr zKr zKr rfl rfl ?_
              refine aany_skip 14 rfl (.no rfl rfl (by first | (show _ = false; with_reducible assumption) | exact zDec)) zKr zKr zKr rfl rfl ?_
              refine aany_skip 15 rfl (.no rfl rfl (by first | (show _ = false; with_reducible assumption) | exact zDec)) zKr zKr zKr rfl rfl ?_
              refine aany_skip 16 rfl (.no rfl rfl (by first | (show _ = false; with_reducible assumption) | exact zDec)) zKr zKr zKr rfl rfl ?_
              refine aany_skip 17 rfl (.no rfl rfl (by first | (show _ = false; with_reducible assumption) | exact zDec)) zKr zKr zKr rfl rfl ?_
              first | refine aany_take 18 rfl (.none rfl) zKr zKr zKr (AP.ar (ap_pick_true rfl zDec rfl)) rfl rfl ?_ | refine aany_take 18 rfl (.none rfl) zKr zKr zKr (AP.ar (ap_pick_false rfl zDec rfl)) rfl rfl ?_
              refine aany_take 19 rfl (.none rfl) zKr zKr zKr (AP.ar (ap_move rfl)) rfl rfl ?_
              refine aany_skip 20 rfl (.no rfl rfl (by first | (show _ = false; with_reducible assumption) | exact zDec)) zKr zKr zKr rfl rfl ?_
              first | refine aany_take 21 rfl (.none rfl) zKr zKr zKr (AP.ar (ap_pick_true rfl zDec rfl)) rfl rfl ?_ | refine aany_take 21 rfl (.none rfl) zKr zKr zKr (AP.ar (ap_pick_false rfl zDec rfl)) rfl rfl ?_
              refine aany_take 22 rfl (.none rfl) zKr zKr zKr (AP.ar (ap_assign rfl)) rfl rfl ?_
              refine aany_nil zKr ?_
             )
         rotate_right
         case' _ =>
           first
           | (exact absurd hg (by decide))
           | (exfalso; simp at hg; done)
           | (first | refine aany_take 8 rfl (.yes rfl rfl zDec) zKr zKr zKr (ar_load rfl zUpd rfl rfl zRc) rfl rfl ?_ | refine aany_take 8 rfl (.yes rfl rfl zDec) zKr zKr zKr (AQ.ar (aq_load_el rfl rfl rfl rfl (fun _ h => h))) rfl rfl ?_
              first | refine aany_take 9 rfl (.yes rfl rfl zDec) zKr zKr zKr (ar_load rfl zUpd rfl rfl zRc) rfl rfl ?_ | refine aany_take 9 rfl (.yes rfl rfl zDec) zKr zKr zKr (AQ.ar (aq_load_el rfl rfl rfl rfl (fun _ h => h))) rfl rfl ?_
              refine aany_one 10 zKr rfl (.yes rfl rfl zDec) ?_
              refine aops_call_v zRc (checkT_is hcs (by omega) (check_ok hc0 hxs hxr)) rfl rfl ?_
              refine aops_nil ?_
              first | refine aany_take 11 rfl (.none rfl) zKr zKr zKr (AP.ar (ap_pick_true rfl zDec rfl)) rfl rfl ?_ | refine aany_take 11 rfl (.none rfl) zKr zKr zKr (AP.ar (ap_pick_false rfl zDec rfl)) rfl rfl ?_
              refine aany_take 12 rfl (.none rfl) zKr zKr zKr (AP.ar (ap_move rfl)) rfl rfl ?_
              refine aany_guard 12 rfl (fun hg => ?_) (fun hg => ?_)
              rotate_left
              case' _ =>
                first
                | (exact absurd hg (by decide))
                | (exfalso; simp at hg; done)
                | (refine aany_skip 13 rfl (.no rfl rfl (by first | (show _ = false; with_reducible assumption) | exact zDec)) zKr zKr zKr rfl rfl ?_
                   refine aany_skip 14 rfl (.no rfl rfl (by first | (show _ = false; with_reducible assumption) | exact zDec)) zKr zKr zKr rfl rfl ?_
                   refine aany_skip 15 rfl (.no rfl rfl (by first | (show _ = false; with_reducible assumption) | exact zDec)) zKr zKr zKr rfl rfl ?_
                   refine aany_skip 16 rfl (.no rfl rfl (by first | (show _ = false; with_reducible assumption) | exact zDec)) zKr zKr zKr rfl rfl ?_
                   refine aany_skip 17 rfl (.no rfl rfl (by first | (show _ = false; with_reducible assumption) | exact zDec)) zKr zKr zKr rfl rfl ?_
                   first | refine aany_take 18 rfl (.none rfl) zKr zKr zKr (AP.ar (ap_pick_true rfl zDec rfl)) rfl rfl ?_ | refine aany_take 18 rfl (.none rfl) zKr zKr zKr (AP.ar (ap_pick_false rfl zDec rfl)) rfl rfl ?_
                   refine aany_take 19 rfl (.none rfl) zKr zKr zKr (AP.ar (ap_move rfl)) rfl rfl ?_
                   refine aany_skip 20 rfl (.no rfl rfl (by first | (show _ = false; with_reducible assumption) | exact zDec)) zKr zKr zKr rfl rfl ?_
                   first | refine aany_take 21 rfl (.none rfl) zKr zKr zKr (AP.ar (ap_pick_true rfl zDec rfl)) rfl rfl ?_ | refine aany_take 21 rfl (.none rfl) zKr zKr zKr (AP.ar (ap_pick_false rfl zDec rfl)) rfl rfl ?_
                   refine aany_take 22 rfl (.none rfl) zKr zKr zKr (AP.ar (ap_assign rfl)) rfl rfl ?_
                   refine aany_nil zKr ?_
                  )
              rotate_right
              case' _ =>
                first
                | (exact absurd hg (by decide))
                | (exfalso; simp at hg; done)
                | (first | refine aany_take 13 rfl (.yes rfl rfl zDec) zKr zKr zKr (ar_load rfl zUpd rfl rfl zRc) rfl rfl ?_ | refine aany_take 13 rfl (.yes rfl rfl zDec) zKr zKr zKr (AQ.ar (aq_load_el rfl rfl rfl rfl (fun _ h => h))) rfl rfl ?_
                   refine aany_take 14 rfl (.yes rfl rfl zDec) zKr zKr zKr (AP.ar (ap_move rfl)) rfl rfl ?_
                   first | refine aany_take 15 rfl (.yes rfl rfl zDec) zKr zKr zKr (ar_load rfl zUpd rfl rfl zRc) rfl rfl ?_ | refine aany_take 15 rfl (.yes rfl rfl zDec) zKr zKr zKr (AQ.ar (aq_load_el rfl rfl rfl rfl (fun _ h => h))) rfl rfl ?_
                   refine aany_one 16 zKr rfl (.yes rfl rfl zDec) ?_
                   (refine aops_call zRc (mTrace_con _ _ c hc10 false _) zSplit rfl rfl ?_; rintro _ _ ⟨x64, a64, rfl, ⟨hx64, hy64⟩, rfl⟩)
                   refine aops_nil ?_
                   refine aany_one 17 zKr rfl (.yes rfl rfl zDec) ?_
                   refine aops_call_v zRc (checkT_is hcs (by omega) (check_ok hc0 hx64 (hy64 rfl hib))) rfl rfl ?_
                   refine aops_nil ?_
                   first | refine aany_take 18 rfl (.none rfl) zKr zKr zKr (AP.ar (ap_pick_true rfl zDec rfl)) rfl rfl ?_ | refine aany_take 18 rfl (.none rfl) zKr zKr zKr (AP.ar (ap_pick_false rfl zDec rfl)) rfl rfl ?_
                   refine aany_take 19 rfl (.none rfl) zKr zKr zKr (AP.ar (ap_move rfl)) rfl rfl ?_
                   refine aany_guard 19 rfl (fun hg => ?_) (fun hg => ?_)
                   rotate_left
                   case' _ =>
                     first
                     | (exact absurd hg (by decide))
                     | (exfalso; simp at hg; done)
                     | (refine aany_skip 20 rfl (.no rfl rfl (by first | (show _ = false; with_reducible assumption) | exact zDec)) zKr zKr zKr rfl rfl ?_
                        first | refine aany_take 21 rfl (.none rfl) zKr zKr zKr (AP.ar (ap_pick_true rfl zDec rfl)) rfl rfl ?_ | refine aany_take 21 rfl (.none rfl) zKr zKr zKr (AP.ar (ap_pick_false rfl zDec rfl)) rfl rfl ?_
                        refine aany_take 22 rfl (.none rfl) zKr zKr zKr (AP.ar (ap_assign rfl)) rfl rfl ?_
                        refine aany_nil zKr ?_
                       )
                   rotate_right
                   case' _ =>
                     first
                     | (exact absurd hg (by decide))
                     | (exfalso; simp at hg; done)
                     | (refine aany_one 20 zKr rfl (.yes rfl rfl zDec) ?_
                        refine aops_call_v zRc (awake12_con) rfl rfl ?_
                        refine aops_nil ?_
                        first | refine aany_take 21 rfl (.none rfl) zKr zKr zKr (AP.ar (ap_pick_true rfl zDec rfl)) rfl rfl ?_ | refine aany_take 21 rfl (.none rfl) zKr zKr zKr (AP.ar (ap_pick_false rfl zDec rfl)) rfl rfl ?_
                        refine aany_take 22 rfl (.none rfl) zKr zKr zKr (AP.ar (ap_assign rfl)) rfl rfl ?_
                        refine aany_nil zKr ?_
                       )
                  )
             )
        )
    all_goals (
      refine seqQ_n ?_
      refine awp_ret ?_
      first | (refine post_is (.tmp rfl .nil) (by repeat (first | exact .nil | refine .cons (by first | exact .here | exact .there .here | exact .there (.there .here) | exact .there (.there (.there .here)) | exact .there (.there (.there (.there .here)))) ?_)) rfl) | (exfalso; simp at hc; done) | (exfalso; simp at hg; done)
      )
end Go.Proofs.Ytanlbfnlnfkcjaa
