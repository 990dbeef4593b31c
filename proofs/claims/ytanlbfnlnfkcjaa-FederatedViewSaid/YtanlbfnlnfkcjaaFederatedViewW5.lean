/- The walks of: fview_con. Each says what one function of the program answers, for the arguments that its statement names. No condition beyond what each theorem says. -/
import Derived.Test.YtanlbfnlnfkcjaaFederatedViewW4
import Derived.Test.YtanlbfnlnfkcjaaProg
import Derived.KernelRfl
import Derived.Tactics
import Derived.Tactics2
import Derived.StillTactics
set_option linter.unusedVariables false
set_option linter.unusedSimpArgs false
set_option linter.unnecessarySimpa false
set_option maxRecDepth 4000
namespace Go.Proofs.Ytanlbfnlnfkcjaa
open Go Go.Av Go.Tq
set_option maxHeartbeats 2000000 in
theorem fview_con (l : List Int) : Con Try.prog 5 [.sl 1 (l.map .i)] [] (Is (.b true) []) := by
  have hcap : capB = 140737488355328 := rfl
  refine con_intro Try.func5 rfl Try.call5 rfl ?_
  refine awp_seq ?_
  refine awp_region ?_
  refine aops_p (ap_assign rfl) rfl rfl rfl ?_
  refine aops_nil ?_
  refine seqQ_n ?_
  refine awp_seq ?_
  refine awp_region ?_
  refine aops_p (ap_move rfl) rfl rfl rfl ?_
  (refine aops_call zRc (New_con l) zSplit rfl rfl ?_; rintro _ _ ⟨b13, rfl, rfl⟩)
  refine aops_p (ap_assign rfl) rfl rfl rfl ?_
  refine aops_nil ?_
  refine seqQ_n ?_
  refine awp_seq ?_
  refine awp_region ?_
  refine aops_p (ap_move rfl) rfl rfl rfl ?_
  (refine aops_call zRc (N_con _ _ _ _ (by omega)) zSplit rfl rfl ?_; rintro _ _ ⟨r15, a15, rfl, hr15, rfl⟩; obtain ⟨x15, rfl⟩ := Int.eq_ofNat_of_zero_le hr15.1)
  refine aops_p (ap_move rfl) rfl rfl rfl ?_
  (refine aops_call zRc (TrustL52_con _ _ _) zSplit rfl rfl ?_; rintro _ _ ⟨t, a17, rfl, ht, rfl⟩; have hts := ht.size)
  refine aops_alloc rfl zRc rfl rfl (fun b5 => ?_)
  refine aops_p (ap_assign rfl) rfl rfl rfl ?_
  first | refine aops_store rfl rfl zFlat zUpd rfl zRc ?_ | refine aops_store_own1 rfl rfl zScal zUpd rfl (by simp only [List.length_set, List.length_map]; omega) ?_
  refine aops_nil ?_
  refine seqQ_n ?_
  refine awp_seq ?_
  refine awp_region ?_
  refine aops_p (ap_move rfl) rfl rfl rfl ?_
  (refine aops_call zRc (msgs58_con _ _ _) zSplit rfl rfl ?_; rintro _ _ ⟨q, a19, rfl, ⟨hql, hqm⟩, rfl⟩; have hqp : ∀ m ∈ q, plainM m = true := fun m hm => (hqm m hm).1; have hqml : (q.map msv).length = q.length := (by simp))
  refine aops_p (ap_assign rfl) rfl rfl rfl ?_
  refine aops_nil ?_
  refine seqQ_n ?_
  refine awp_seq ?_
  refine awp_region ?_
  refine aops_p (ap_move rfl) rfl rfl rfl ?_
  first | refine aops_q (aq_load rfl zUpd List.not_mem_nil rfl rfl zRc) rfl rfl rfl ?_ | refine aops_q (aq_load_el rfl rfl rfl rfl (fun _ h => absurd h List.not_mem_nil)) rfl rfl rfl ?_
  refine aops_p (ap_move rfl) rfl rfl rfl ?_
  refine aops_call_v zRc (view_con x15 t (by omega) q (fun m hm => by have := (hqm m hm).2.1; omega)) rfl rfl ?_
  refine aops_alloc rfl zRc rfl rfl (fun b7 => ?_)
  first | refine aops_store rfl rfl zFlat zUpd rfl zRc ?_ | refine aops_store_own1 rfl rfl zScal zUpd rfl (by simp only [List.length_set, List.length_map]; omega) ?_
  refine aops_nil ?_
  refine seqQ_n ?_
  refine awp_seq ?_
  refine awp_seq ?_
  have hvl := view_len x15 t q
  have hvml : ((view x15 t q).map mv).length = 10 := by rw [List.length_map]; exact hvl
  have hown : (view x15 t q)[x15]? = some ⟨true, t⟩ := view_own (by omega) ht.vd
  have hv' := getMap mv hown
  obtain ⟨c, hc0⟩ : ∃ c, c = view x15 t q := ⟨_, rfl⟩
  rw [← hc0]; rw [← hc0] at hvl hvml hown hv'
  refine awp_draw (Hm := []) zKr zSplit ?_
  first | refine aany_take 0 rfl (.none rfl) zKr zKr zKr (AP.ar (ap_fieldAddr (off := 0) (sz := 1) (g := false) rfl rfl)) rfl rfl ?_ | refine aany_take 0 rfl (.none rfl) zKr zKr zKr (AP.ar (ap_fieldAddr_el (off := 0) (sz := 1) (g := false) rfl rfl zRc)) rfl rfl ?_
  first | refine aany_take 1 rfl (.none rfl) zKr zKr zKr (ar_load1 rfl zUpd rfl zRc) rfl rfl ?_ | refine aany_take 1 rfl (.none rfl) zKr zKr zKr (AQ.ar (aq_load_el1 rfl rfl zScal (fun _ h => h))) rfl rfl ?_ | refine aany_take 1 rfl (.none rfl) zKr zKr zKr (AQ.ar (aq_load_el1' rfl rfl zScal (fun _ h => h))) rfl rfl ?_ | refine aany_take 1 rfl (.none rfl) zKr zKr zKr (ar_load_own1 rfl zUpd rfl zAss zScal) rfl rfl ?_
  first | refine aany_take 2 rfl (.none rfl) zKr zKr zKr (AP.ar (ap_len rfl rfl)) rfl rfl ?_ | refine aany_take 2 rfl (.none rfl) zKr zKr zKr (ar_len_arr rfl zUpd rfl) rfl rfl ?_ | refine aany_take 2 rfl (.none rfl) zKr zKr zKr (AP.ar (ap_len_nil rfl rfl)) rfl rfl ?_
  refine aany_take 3 rfl (.none rfl) zKr zKr zKr (AP.ar (ap_cmp rfl rfl rfl)) rfl rfl ?_
  refine aany_take 4 rfl (.none rfl) zKr zKr zKr (AP.ar (ap_move rfl)) rfl rfl ?_
  refine aany_guard 4 rfl (fun hg => ?_) (fun hg => ?_)
  rotate_left
  case' _ =>
    first
    | (exact absurd hg (by decide))
    | (exfalso; simp at hg; done)
    | (first | refine aany_take 5 rfl (.yes rfl rfl zDec) zKr zKr zKr (AP.ar (ap_fieldAddr (off := 0) (sz := 1) (g := false) rfl rfl)) rfl rfl ?_ | refine aany_take 5 rfl (.yes rfl rfl zDec) zKr zKr zKr (AP.ar (ap_fieldAddr_el (off := 0) (sz := 1) (g := false) rfl rfl zRc)) rfl rfl ?_
       first | refine aany_take 6 rfl (.yes rfl rfl zDec) zKr zKr zKr (ar_load1 rfl zUpd rfl zRc) rfl rfl ?_ | refine aany_take 6 rfl (.yes rfl rfl zDec) zKr zKr zKr (AQ.ar (aq_load_el1 rfl rfl zScal (fun _ h => h))) rfl rfl ?_ | refine aany_take 6 rfl (.yes rfl rfl zDec) zKr zKr zKr (AQ.ar (aq_load_el1' rfl rfl zScal (fun _ h => h))) rfl rfl ?_ | refine aany_take 6 rfl (.yes rfl rfl zDec) zKr zKr zKr (ar_load_own1 rfl zUpd rfl zAss zScal) rfl rfl ?_
       refine aany_take 7 rfl (.yes rfl rfl zDec) zKr zKr zKr (AP.ar (ap_move rfl)) rfl rfl ?_
       refine aany_take 8 rfl (.yes rfl rfl zDec) zKr zKr zKr (AP.ar (ap_index (k := x15) rfl rfl rfl rfl (by decide) rfl hv')) rfl rfl ?_
       first | refine aany_take 9 rfl (.yes rfl rfl zDec) zKr zKr zKr (AP.ar (ap_fieldAddr (off := 0) (sz := 1) (g := false) rfl rfl)) rfl rfl ?_ | refine aany_take 9 rfl (.yes rfl rfl zDec) zKr zKr zKr (AP.ar (ap_fieldAddr_el (off := 0) (sz := 1) (g := false) rfl rfl zRc)) rfl rfl ?_
       first | refine aany_take 10 rfl (.yes rfl rfl zDec) zKr zKr zKr (ar_load1 rfl zUpd rfl zRc) rfl rfl ?_ | refine aany_take 10 rfl (.yes rfl rfl zDec) zKr zKr zKr (AQ.ar (aq_load_el1 rfl rfl zScal (fun _ h => h))) rfl rfl ?_ | refine aany_take 10 rfl (.yes rfl rfl zDec) zKr zKr zKr (AQ.ar (aq_load_el1' rfl rfl zScal (fun _ h => h))) rfl rfl ?_ | refine aany_take 10 rfl (.yes rfl rfl zDec) zKr zKr zKr (ar_load_own1 rfl zUpd rfl zAss zScal) rfl rfl ?_
       refine aany_take 11 rfl (.yes rfl rfl zDec) zKr zKr zKr (AP.ar (ap_not rfl)) rfl rfl ?_
       first | refine aany_take 12 rfl (.none rfl) zKr zKr zKr (AP.ar (ap_pick_true rfl zDec rfl)) rfl rfl ?_ | refine aany_take 12 rfl (.none rfl) zKr zKr zKr (AP.ar (ap_pick_false rfl zDec rfl)) rfl rfl ?_
       refine aany_take 13 rfl (.none rfl) zKr zKr zKr (AP.ar (ap_move rfl)) rfl rfl ?_
       refine aany_guard 13 rfl (fun hg => ?_) (fun hg => ?_)
       rotate_left
       case' _ =>
         first
         | (exact absurd hg (by decide))
         | (exfalso; simp at hg; done)
         | (first | refine aany_take 14 rfl (.yes rfl rfl zDec) zKr zKr zKr (AP.ar (ap_fieldAddr (off := 0) (sz := 1) (g := false) rfl rfl)) rfl rfl ?_ | refine aany_take 14 rfl (.yes rfl rfl zDec) zKr zKr zKr (AP.ar (ap_fieldAddr_el (off := 0) (sz := 1) (g := false) rfl rfl zRc)) rfl rfl ?_
            first | refine aany_take 15 rfl (.yes rfl rfl zDec) zKr zKr zKr (ar_load1 rfl zUpd rfl zRc) rfl rfl ?_ | refine aany_take 15 rfl (.yes rfl rfl zDec) zKr zKr zKr (AQ.ar (aq_load_el1 rfl rfl zScal (fun _ h => h))) rfl rfl ?_ | refine aany_take 15 rfl (.yes rfl rfl zDec) zKr zKr zKr (AQ.ar (aq_load_el1' rfl rfl zScal (fun _ h => h))) rfl rfl ?_ | refine aany_take 15 rfl (.yes rfl rfl zDec) zKr zKr zKr (ar_load_own1 rfl zUpd rfl zAss zScal) rfl rfl ?_
            refine aany_take 16 rfl (.yes rfl rfl zDec) zKr zKr zKr (AP.ar (ap_move rfl)) rfl rfl ?_
            refine aany_take 17 rfl (.yes rfl rfl zDec) zKr zKr zKr (AP.ar (ap_index (k := x15) rfl rfl rfl rfl (by decide) rfl hv')) rfl rfl ?_
            first | refine aany_take 18 rfl (.yes rfl rfl zDec) zKr zKr zKr (AP.ar (ap_fieldAddr (off := 1) (sz := 3) (g := true) rfl rfl)) rfl rfl ?_ | refine aany_take 18 rfl (.yes rfl rfl zDec) zKr zKr zKr (AP.ar (ap_fieldAddr_el (off := 1) (sz := 3) (g := true) rfl rfl zRc)) rfl rfl ?_
            first | refine aany_take 19 rfl (.yes rfl rfl zDec) zKr zKr zKr (ar_load rfl zUpd rfl rfl zRc) rfl rfl ?_ | refine aany_take 19 rfl (.yes rfl rfl zDec) zKr zKr zKr (AQ.ar (aq_load_el rfl rfl rfl rfl (fun _ h => h))) rfl rfl ?_
            first | refine aany_take 20 rfl (.yes rfl rfl zDec) zKr zKr zKr (ar_load rfl zUpd rfl rfl zRc) rfl rfl ?_ | refine aany_take 20 rfl (.yes rfl rfl zDec) zKr zKr zKr (AQ.ar (aq_load_el rfl rfl rfl rfl (fun _ h => h))) rfl rfl ?_
            refine aany_one 21 zKr rfl (.yes rfl rfl zDec) ?_
            refine aops_call_v zRc (rsame_is t) rfl rfl ?_
            refine aops_nil ?_
            refine aany_take 22 rfl (.yes rfl rfl zDec) zKr zKr zKr (AP.ar (ap_not rfl)) rfl rfl ?_
            first | refine aany_take 23 rfl (.none rfl) zKr zKr zKr (AP.ar (ap_pick_true rfl zDec rfl)) rfl rfl ?_ | refine aany_take 23 rfl (.none rfl) zKr zKr zKr (AP.ar (ap_pick_false rfl zDec rfl)) rfl rfl ?_
            refine aany_nil zKr ?_
           )
       rotate_right
       case' _ =>
         first
         | (exact absurd hg (by decide))
         | (exfalso; simp at hg; done)
         | (refine aany_skip 14 rfl (.no rfl rfl (by first | (show _ = true; with_reducible assumption) | exact zDec)) zKr zKr zKr rfl rfl ?_
            refine aany_skip 15 rfl (.no rfl rfl (by first | (show _ = true; with_reducible assumption) | exact zDec)) zKr zKr zKr rfl rfl ?_
            refine aany_skip 16 rfl (.no rfl rfl (by first | (show _ = true; with_reducible assumption) | exact zDec)) zKr zKr zKr rfl rfl ?_
            refine aany_skip 17 rfl (.no rfl rfl (by first | (show _ = true; with_reducible assumption) | exact zDec)) zKr zKr zKr rfl rfl ?_
            refine aany_skip 18 rfl (.no rfl rfl (by first | (show _ = true; with_reducible assumption) | exact zDec)) zKr zKr zKr rfl rfl ?_
            refine aany_skip 19 rfl (.no rfl rfl (by first | (show _ = true; with_reducible assumption) | exact zDec)) zKr zKr zKr rfl rfl ?_
            refine aany_skip 20 rfl (.no rfl rfl (by first | (show _ = true; with_reducible assumption) | exact zDec)) zKr zKr zKr rfl rfl ?_
            refine aany_skip 21 rfl (.no rfl rfl (by first | (show _ = true; with_reducible assumption) | exact zDec)) zKr zKr zKr rfl rfl ?_
            refine aany_skip 22 rfl (.no rfl rfl (by first | (show _ = true; with_reducible assumption) | exact zDec)) zKr zKr zKr rfl rfl ?_
            first | refine aany_take 23 rfl (.none rfl) zKr zKr zKr (AP.ar (ap_pick_true rfl zDec rfl)) rfl rfl ?_ | refine aany_take 23 rfl (.none rfl) zKr zKr zKr (AP.ar (ap_pick_false rfl zDec rfl)) rfl rfl ?_
            refine aany_nil zKr ?_
           )
      )
  rotate_right
  case' _ =>
    first
    | (exact absurd hg (by decide))
    | (exfalso; simp at hg; done)
    | (refine aany_skip 5 rfl (.no rfl rfl (by first | (show _ = true; with_reducible assumption) | exact zDec)) zKr zKr zKr rfl rfl ?_
       refine aany_skip 6 rfl (.no rfl rfl (by first | (show _ = true; with_reducible assumption) | exact zDec)) zKr zKr zKr rfl rfl ?_
       refine aany_skip 7 rfl (.no rfl rfl (by first | (show _ = true; with_reducible assumption) | exact zDec)) zKr zKr zKr rfl rfl ?_
       refine aany_skip 8 rfl (.no rfl rfl (by first | (show _ = true; with_reducible assumption) | exact zDec)) zKr zKr zKr rfl rfl ?_
       refine aany_skip 9 rfl (.no rfl rfl (by first | (show _ = true; with_reducible assumption) | exact zDec)) zKr zKr zKr rfl rfl ?_
       refine aany_skip 10 rfl (.no rfl rfl (by first | (show _ = true; with_reducible assumption) | exact zDec)) zKr zKr zKr rfl rfl ?_
       refine aany_skip 11 rfl (.no rfl rfl (by first | (show _ = true; with_reducible assumption) | exact zDec)) zKr zKr zKr rfl rfl ?_
       first | refine aany_take 12 rfl (.none rfl) zKr zKr zKr (AP.ar (ap_pick_true rfl zDec rfl)) rfl rfl ?_ | refine aany_take 12 rfl (.none rfl) zKr zKr zKr (AP.ar (ap_pick_false rfl zDec rfl)) rfl rfl ?_
       refine aany_take 13 rfl (.none rfl) zKr zKr zKr (AP.ar (ap_move rfl)) rfl rfl ?_
       refine aany_skip 14 rfl (.no rfl rfl (by first | (show _ = true; with_reducible assumption) | exact zDec)) zKr zKr zKr rfl rfl ?_
       refine aany_skip 15 rfl (.no rfl rfl (by first | (show _ = true; with_reducible assumption) | exact zDec)) zKr zKr zKr rfl rfl ?_
       refine aany_skip 16 rfl (.no rfl rfl (by first | (show _ = true; with_reducible assumption) | exact zDec)) zKr zKr zKr rfl rfl ?_
       refine aany_skip 17 rfl (.no rfl rfl (by first | (show _ = true; with_reducible assumption) | exact zDec)) zKr zKr zKr rfl rfl ?_
       refine aany_skip 18 rfl (.no rfl rfl (by first | (show _ = true; with_reducible assumption) | exact zDec)) zKr zKr zKr rfl rfl ?_
       refine aany_skip 19 rfl (.no rfl rfl (by first | (show _ = true; with_reducible assumption) | exact zDec)) zKr zKr zKr rfl rfl ?_
       refine aany_skip 20 rfl (.no rfl rfl (by first | (show _ = true; with_reducible assumption) | exact zDec)) zKr zKr zKr rfl rfl ?_
       refine aany_skip 21 rfl (.no rfl rfl (by first | (show _ = true; with_reducible assumption) | exact zDec)) zKr zKr zKr rfl rfl ?_
       refine aany_skip 22 rfl (.no rfl rfl (by first | (show _ = true; with_reducible assumption) | exact zDec)) zKr zKr zKr rfl rfl ?_
       first | refine aany_take 23 rfl (.none rfl) zKr zKr zKr (AP.ar (ap_pick_true rfl zDec rfl)) rfl rfl ?_ | refine aany_take 23 rfl (.none rfl) zKr zKr zKr (AP.ar (ap_pick_false rfl zDec rfl)) rfl rfl ?_
       refine aany_nil zKr ?_
      )
  all_goals (
    refine seqQ_n ?_
    refine awp_cond rfl (fun hc => ?_) (fun hc => ?_)
    · first
      | (exact absurd hc (by decide))
      | (refine awp_seq ?_
         refine awp_region ?_
         refine aops_p (ap_assign rfl) rfl rfl rfl ?_
         refine aops_nil ?_
         refine seqQ_n ?_
         refine awp_ret ?_
         refine seqQ_r ?_
         exfalso
         first | (simp at hc; done) | (have h9 := of_neq_true (show (!decide ((((c.map mv).length : Nat) : Int) = 10)) = true by with_reducible assumption); omega)
        )
    · first
      | (exact absurd hc (by decide))
      | (refine awp_skip ?_
         refine seqQ_n ?_
         refine awp_seq ?_
         refine awp_seq ?_
         refine awp_region ?_
         first | refine aops_p (ap_fieldAddr (off := 0) (sz := 1) (g := false) rfl rfl) rfl rfl rfl ?_ | refine aops_p (ap_fieldAddr_el (off := 0) (sz := 1) (g := false) rfl rfl zRc) rfl rfl rfl ?_
         first | refine aops_q (aq_load1 rfl zUpd List.not_mem_nil rfl zRc) rfl rfl rfl ?_ | refine aops_q (aq_load_el1 rfl rfl zScal (fun _ h => absurd h List.not_mem_nil)) rfl rfl rfl ?_ | refine aops_q (aq_load_el1' rfl rfl zScal (fun _ h => absurd h List.not_mem_nil)) rfl rfl rfl ?_ | refine aops_q (aq_load_own1 rfl zUpd List.not_mem_nil rfl zAss zScal) rfl rfl rfl ?_
         first | refine aops_len rfl rfl rfl rfl (fun _ => ?_) | refine aops_p (ap_len_arr rfl zUpd rfl) rfl rfl rfl ?_ | refine aops_p (ap_len_nil rfl rfl) rfl rfl rfl ?_
         refine aops_p (ap_move rfl) rfl rfl rfl ?_
         refine aops_nil ?_
         refine seqQ_n ?_
         refine awp_block ?_
         refine awp_loop1 [4, 6, 7, 50] [.box b5 _ _, .box b7 _ _, .box b13 _ _] (fun (k : Nat) r => (51, .i (k : Int)) :: r) (fun (k : Nat) r => r) (fun (k : Nat) => k ≤ 10) (fun (k : Nat) => 10 - k) (0) zRc (by omega) (wk zSub (by repeat (first | exact .nil | refine .cons (by first | exact .here | exact .there .here | exact .there (.there .here) | exact .there (.there (.there .here)) | exact .there (.there (.there (.there .here)))) ?_))) ?_
         intro k hk
         refine awp_seq ?_
         refine awp_region ?_
         refine aops_p (ap_cmp rfl rfl rfl) rfl rfl rfl ?_
         refine aops_nil ?_
         refine seqQ_n ?_
         refine awp_seq ?_
         refine awp_cond rfl (fun hc => ?_) (fun hc => ?_)
         · have hlt := of_decide_eq_true hc
           refine awp_skip ?_
           refine seqQ_n ?_
           refine awp_seq ?_
           refine awp_block ?_
           refine awp_seq ?_
           refine awp_region ?_
           refine aops_p (ap_move rfl) rfl rfl rfl ?_
           refine aops_p (ap_assign rfl) rfl rfl rfl ?_
           refine aops_nil ?_
           refine seqQ_n ?_
           refine awp_seq ?_
           refine awp_region ?_
           refine aops_p (ap_assign rfl) rfl rfl rfl ?_
           refine aops_nil ?_
           refine seqQ_n ?_
           refine awp_seq ?_
           refine awp_seq ?_
           refine awp_region ?_
           refine aops_p (ap_move rfl) rfl rfl rfl ?_
           first | refine aops_len rfl rfl rfl rfl (fun _ => ?_) | refine aops_p (ap_len_arr rfl zUpd rfl) rfl rfl rfl ?_ | refine aops_p (ap_len_nil rfl rfl) rfl rfl rfl ?_
           refine aops_p (ap_move rfl) rfl rfl rfl ?_
           refine aops_nil ?_
           refine seqQ_n ?_
           refine awp_block ?_
           refine awp_loop2 [4, 6, 7, 8, 50, 51, 54, 55] [.box b5 _ _, .box b7 _ _, .box b13 _ _] (fun (j : Nat) (last : Int) r => (9, .i last) :: (56, .i (j : Int)) :: r) (fun (j : Nat) (last : Int) r => r) (fun (j : Nat) (last : Int) => j ≤ q.length ∧ LastR q j (k : Int) last) (fun (j : Nat) (last : Int) => q.length - j) (0) ((-1)) zRc ⟨by omega, LastR.zero _ _⟩ (wk zSub (by repeat (first | exact .nil | refine .cons (by first | exact .here | exact .there .here | exact .there (.there .here) | exact .there (.there (.there .here)) | exact .there (.there (.there (.there .here)))) ?_))) ?_
           intro j last ⟨hj, hL⟩
           refine awp_seq ?_
           refine awp_region ?_
           refine aops_p (ap_cmp rfl rfl rfl) rfl rfl rfl ?_
           refine aops_nil ?_
           refine seqQ_n ?_
           refine awp_seq ?_
           refine awp_cond rfl (fun hc => ?_) (fun hc => ?_)
           · have hltj := of_decide_eq_true hc
             obtain ⟨x, hx, hd⟩ := drop_cons (l := q) (k := j) (by omega)
             have hx' := getMap msv hx
             refine awp_skip ?_
             refine seqQ_n ?_
             refine awp_seq ?_
             refine awp_block ?_
             refine awp_seq ?_
             refine awp_region ?_
             refine aops_p (ap_move rfl) rfl rfl rfl ?_
             first | refine aops_p (ap_index rfl rfl rfl rfl (by decide) rfl zAss) rfl rfl rfl ?_ | refine aops_p (ap_index rfl rfl rfl rfl (by decide) (by omega) zAss) rfl rfl rfl ?_ | refine aops_p (ap_index_own rfl rfl rfl rfl rfl (by first | omega | (simp only [List.length_map, List.length_set, avs_len]; omega))) rfl rfl rfl ?_
             first | refine aops_q (aq_load rfl zUpd List.not_mem_nil rfl rfl zRc) rfl rfl rfl ?_ | refine aops_q (aq_load_el rfl rfl rfl rfl (fun _ h => absurd h List.not_mem_nil)) rfl rfl rfl ?_
             refine aops_alloc rfl zRc rfl rfl (fun b11 => ?_)
             refine aops_p (ap_assign rfl) rfl rfl rfl ?_
             first | refine aops_store rfl rfl zFlat zUpd rfl zRc ?_ | refine aops_store_own1 rfl rfl zScal zUpd rfl (by simp only [List.length_set, List.length_map]; omega) ?_
             refine aops_nil ?_
             refine seqQ_n ?_
             refine awp_seq ?_
             refine awp_region ?_
             first | refine aops_p (ap_fieldAddr (off := 0) (sz := 1) (g := false) rfl rfl) rfl rfl rfl ?_ | refine aops_p (ap_fieldAddr_el (off := 0) (sz := 1) (g := false) rfl rfl zRc) rfl rfl rfl ?_
             first | refine aops_q (aq_load1 rfl zUpd List.not_mem_nil rfl zRc) rfl rfl rfl ?_ | refine aops_q (aq_load_el1 rfl rfl zScal (fun _ h => absurd h List.not_mem_nil)) rfl rfl rfl ?_ | refine aops_q (aq_load_el1' rfl rfl zScal (fun _ h => absurd h List.not_mem_nil)) rfl rfl rfl ?_ | refine aops_q (aq_load_own1 rfl zUpd List.not_mem_nil rfl zAss zScal) rfl rfl rfl ?_
             refine aops_p (ap_move rfl) rfl rfl rfl ?_
             refine aops_p (ap_cmp rfl rfl rfl) rfl rfl rfl ?_
             refine aops_nil ?_
             refine seqQ_n ?_
             refine awp_cond rfl (fun hc => ?_) (fun hc => ?_)
             · refine awp_region ?_
               refine aops_p (ap_move rfl) rfl rfl rfl ?_
               refine aops_p (ap_assign rfl) rfl rfl rfl ?_
               refine aops_nil ?_
               refine blockQ_n ?_
               refine seqQ_n ?_
               refine awp_region ?_
               refine aops_p (ap_arith rfl rfl rfl (by omega)) rfl rfl rfl ?_
               refine aops_p (ap_move rfl) rfl rfl rfl ?_
               refine aops_nil ?_
               refine seqQ_n ?_
               first
               | (have h0 : x.node = (k : Int) := of_decide_eq_true hc; refine ⟨j + 1, (j : Int), ⟨by omega, LastR.yes (last := 0) hx h0⟩, by omega, wk zSub (by repeat (first | exact .nil | refine .cons (by first | exact .here | exact .there .here | exact .there (.there .here) | exact .there (.there (.there .here)) | exact .there (.there (.there (.there .here)))) ?_))⟩)
               | (have h0 : ¬ x.node = (k : Int) := of_decide_eq_false hc; refine ⟨j + 1, last, ⟨by omega, hL.no hx h0⟩, by omega, wk zSub (by repeat (first | exact .nil | refine .cons (by first | exact .here | exact .there .here | exact .there (.there .here) | exact .there (.there (.there .here)) | exact .there (.there (.there (.there .here)))) ?_))⟩)
             · refine awp_skip ?_
               refine blockQ_n ?_
               refine seqQ_n ?_
               refine awp_region ?_
               refine aops_p (ap_arith rfl rfl rfl (by omega)) rfl rfl rfl ?_
               refine aops_p (ap_move rfl) rfl rfl rfl ?_
               refine aops_nil ?_
               refine seqQ_n ?_
               first
               | (have h0 : x.node = (k : Int) := of_decide_eq_true hc; refine ⟨j + 1, (j : Int), ⟨by omega, LastR.yes (last := 0) hx h0⟩, by omega, wk zSub (by repeat (first | exact .nil | refine .cons (by first | exact .here | exact .there .here | exact .there (.there .here) | exact .there (.there (.there .here)) | exact .there (.there (.there (.there .here)))) ?_))⟩)
               | (have h0 : ¬ x.node = (k : Int) := of_decide_eq_false hc; refine ⟨j + 1, last, ⟨by omega, hL.no hx h0⟩, by omega, wk zSub (by repeat (first | exact .nil | refine .cons (by first | exact .here | exact .there .here | exact .there (.there .here) | exact .there (.there (.there .here)) | exact .there (.there (.there (.there .here)))) ?_))⟩)
           · have hgej := of_decide_eq_false hc
             refine awp_exit ?_
             refine seqQ_x ?_
             refine seqQ_x ?_
             refine blockQ_x rfl ?_
             refine seqQ_n ?_
             refine awp_seq ?_
             have hL' : LastR q q.length (k : Int) last := by have e : j = q.length := (by omega); rw [e] at hL; exact hL
             by_cases hkv : ((k : Nat) : Int) = (x15 : Int)
             case' pos => (obtain rfl : k = x15 := by omega)
             case' neg => (rcases view_at (t := t) (by omega) hkv hqp hL' with ⟨rfl, hy⟩ | ⟨n, m, rfl, hm, hy⟩)
             case' neg.inl => (rw [← hc0] at hy)
             case' neg.inl => (have hy' := getMap mv hy)
             case' neg.inr => (rw [← hc0] at hy)
             case' neg.inr => (have hy' := getMap mv hy)
             case' neg.inr => (have hm' := getMap msv hm)
             all_goals (
               refine awp_draw (Hm := []) zKr zSplit ?_
               refine aany_take 0 rfl (.none rfl) zKr zKr zKr (AP.ar (ap_move rfl)) rfl rfl ?_
               refine aany_take 1 rfl (.none rfl) zKr zKr zKr (AP.ar (ap_move rfl)) rfl rfl ?_
               refine aany_take 2 rfl (.none rfl) zKr zKr zKr (AP.ar (ap_cmp rfl rfl rfl)) rfl rfl ?_
               refine aany_take 3 rfl (.none rfl) zKr zKr zKr (AP.ar (ap_move rfl)) rfl rfl ?_
               refine aany_guard 3 rfl (fun hg => ?_) (fun hg => ?_)
               rotate_left
               case' _ =>
                 first
                 | (exact absurd hg (by decide))
                 | (exfalso; simp at hg; done)
                 | (refine aany_skip 4 rfl (.no rfl rfl (by first | (show _ = false; with_reducible assumption) | exact zDec)) zKr zKr zKr rfl rfl ?_
                    refine aany_skip 5 rfl (.no rfl rfl (by first | (show _ = false; with_reducible assumption) | exact zDec)) zKr zKr zKr rfl rfl ?_
                    refine aany_skip 6 rfl (.no rfl rfl (by first | (show _ = false; with_reducible assumption) | exact zDec)) zKr zKr zKr rfl rfl ?_
                    refine aany_skip 7 rfl (.no rfl rfl (by first | (show _ = false; with_reducible assumption) | exact zDec)) zKr zKr zKr rfl rfl ?_
                    refine aany_skip 8 rfl (.no rfl rfl (by first | (show _ = false; with_reducible assumption) | exact zDec)) zKr zKr zKr rfl rfl ?_
                    refine aany_skip 9 rfl (.no rfl rfl (by first | (show _ = false; with_reducible assumption) | exact zDec)) zKr zKr zKr rfl rfl ?_
                    refine aany_skip 10 rfl (.no rfl rfl (by first | (show _ = false; with_reducible assumption) | exact zDec)) zKr zKr zKr rfl rfl ?_
                    refine aany_skip 11 rfl (.no rfl rfl (by first | (show _ = false; with_reducible assumption) | exact zDec)) zKr zKr zKr rfl rfl ?_
                    refine aany_skip 12 rfl (.no rfl rfl (by first | (show _ = false; with_reducible assumption) | exact zDec)) zKr zKr zKr rfl rfl ?_
                    refine aany_skipu 13 rfl (.no rfl rfl (by first | (show _ = false; with_reducible assumption) | exact zDec)) zKr zKr zKr rfl rfl ?_
                    refine aany_skip 14 rfl (.nou rfl rfl) zKr zKr zKr rfl rfl ?_
                    refine aany_skip 15 rfl (.nou rfl rfl) zKr zKr zKr rfl rfl ?_
                    refine aany_skipu 16 rfl (.nou rfl rfl) zKr zKr zKr rfl rfl ?_
                    refine aany_skip 17 rfl (.nou rfl rfl) zKr zKr zKr rfl rfl ?_
                    refine aany_skip 18 rfl (.nou rfl rfl) zKr zKr zKr rfl rfl ?_
                    refine aany_skip 19 rfl (.nou rfl rfl) zKr zKr zKr rfl rfl ?_
                    refine aany_skip 20 rfl (.nou rfl rfl) zKr zKr zKr rfl rfl ?_
                    refine aany_skip 21 rfl (.nou rfl rfl) zKr zKr zKr rfl rfl ?_
                    refine aany_skip 22 rfl (.nou rfl rfl) zKr zKr zKr rfl rfl ?_
                    refine aany_skip 23 rfl (.nou rfl rfl) zKr zKr zKr rfl rfl ?_
                    refine aany_skip 24 rfl (.nou rfl rfl) zKr zKr zKr rfl rfl ?_
                    refine aany_skip 25 rfl (.nou rfl rfl) zKr zKr zKr rfl rfl ?_
                    refine aany_skip 26 rfl (.nou rfl rfl) zKr zKr zKr rfl rfl ?_
                    refine aany_skip 27 rfl (.nou rfl rfl) zKr zKr zKr rfl rfl ?_
                    refine aany_skip 28 rfl (.nou rfl rfl) zKr zKr zKr rfl rfl ?_
                    refine aany_skip 29 rfl (.nou rfl rfl) zKr zKr zKr rfl rfl ?_
                    refine aany_skip 30 rfl (.nou rfl rfl) zKr zKr zKr rfl rfl ?_
                    refine aany_skip 31 rfl (.no rfl rfl (by first | (show _ = false; with_reducible assumption) | exact zDec)) zKr zKr zKr rfl rfl ?_
                    first | refine aany_take 32 rfl (.none rfl) zKr zKr zKr (AP.ar (ap_pick_true rfl zDec rfl)) rfl rfl ?_ | refine aany_take 32 rfl (.none rfl) zKr zKr zKr (AP.ar (ap_pick_false rfl zDec rfl)) rfl rfl ?_
                    refine aany_nil zKr ?_
                   )
               rotate_right
               case' _ =>
                 first
                 | (exact absurd hg (by decide))
                 | (exfalso; simp at hg; done)
                 | (first | refine aany_take 4 rfl (.yes rfl rfl zDec) zKr zKr zKr (AP.ar (ap_fieldAddr (off := 0) (sz := 1) (g := false) rfl rfl)) rfl rfl ?_ | refine aany_take 4 rfl (.yes rfl rfl zDec) zKr zKr zKr (AP.ar (ap_fieldAddr_el (off := 0) (sz := 1) (g := false) rfl rfl zRc)) rfl rfl ?_
                    first | refine aany_take 5 rfl (.yes rfl rfl zDec) zKr zKr zKr (ar_load1 rfl zUpd rfl zRc) rfl rfl ?_ | refine aany_take 5 rfl (.yes rfl rfl zDec) zKr zKr zKr (AQ.ar (aq_load_el1 rfl rfl zScal (fun _ h => h))) rfl rfl ?_ | refine aany_take 5 rfl (.yes rfl rfl zDec) zKr zKr zKr (AQ.ar (aq_load_el1' rfl rfl zScal (fun _ h => h))) rfl rfl ?_ | refine aany_take 5 rfl (.yes rfl rfl zDec) zKr zKr zKr (ar_load_own1 rfl zUpd rfl zAss zScal) rfl rfl ?_
                    refine aany_take 6 rfl (.yes rfl rfl zDec) zKr zKr zKr (AP.ar (ap_move rfl)) rfl rfl ?_
                    refine aany_take 7 rfl (.yes rfl rfl zDec) zKr zKr zKr (AP.ar (ap_index (k := k) rfl rfl rfl rfl (by decide) rfl hy')) rfl rfl ?_
                    first | refine aany_take 8 rfl (.yes rfl rfl zDec) zKr zKr zKr (AP.ar (ap_fieldAddr (off := 0) (sz := 1) (g := false) rfl rfl)) rfl rfl ?_ | refine aany_take 8 rfl (.yes rfl rfl zDec) zKr zKr zKr (AP.ar (ap_fieldAddr_el (off := 0) (sz := 1) (g := false) rfl rfl zRc)) rfl rfl ?_
                    first | refine aany_take 9 rfl (.yes rfl rfl zDec) zKr zKr zKr (ar_load1 rfl zUpd rfl zRc) rfl rfl ?_ | refine aany_take 9 rfl (.yes rfl rfl zDec) zKr zKr zKr (AQ.ar (aq_load_el1 rfl rfl zScal (fun _ h => h))) rfl rfl ?_ | refine aany_take 9 rfl (.yes rfl rfl zDec) zKr zKr zKr (AQ.ar (aq_load_el1' rfl rfl zScal (fun _ h => h))) rfl rfl ?_ | refine aany_take 9 rfl (.yes rfl rfl zDec) zKr zKr zKr (ar_load_own1 rfl zUpd rfl zAss zScal) rfl rfl ?_
                    refine aany_take 10 rfl (.yes rfl rfl zDec) zKr zKr zKr (AP.ar (ap_move rfl)) rfl rfl ?_
                    refine aany_take 11 rfl (.yes rfl rfl zDec) zKr zKr zKr (AP.ar (ap_cmp rfl rfl rfl)) rfl rfl ?_
                    refine aany_take 12 rfl (.yes rfl rfl zDec) zKr zKr zKr (AP.ar (ap_neb rfl rfl rfl)) rfl rfl ?_
                    refine aany_take 13 rfl (.yes rfl rfl zDec) zKr zKr zKr (AP.ar (ap_move rfl)) rfl rfl ?_
                    refine aany_guard 13 rfl (fun hg => ?_) (fun hg => ?_)
                    rotate_left
                    case' _ =>
                      first
                      | (exact absurd hg (by decide))
                      | (exfalso; simp at hg; done)
                      | (refine aany_take 14 rfl (.yes rfl rfl zDec) zKr zKr zKr (AP.ar (ap_move rfl)) rfl rfl ?_
                         refine aany_take 15 rfl (.yes rfl rfl zDec) zKr zKr zKr (AP.ar (ap_cmp rfl rfl rfl)) rfl rfl ?_
                         refine aany_take 16 rfl (.yes rfl rfl zDec) zKr zKr zKr (AP.ar (ap_move rfl)) rfl rfl ?_
                         refine aany_guard 16 rfl (fun hg => ?_) (fun hg => ?_)
                         rotate_left
                         case' _ =>
                           first
                           | (exact absurd hg (by decide))
                           | (exfalso; simp at hg; done)
                           | (refine aany_skip 17 rfl (.no rfl rfl (by first | (show _ = false; with_reducible assumption) | exact zDec)) zKr zKr zKr rfl rfl ?_
                              refine aany_skip 18 rfl (.no rfl rfl (by first | (show _ = false; with_reducible assumption) | exact zDec)) zKr zKr zKr rfl rfl ?_
                              refine aany_skip 19 rfl (.no rfl rfl (by first | (show _ = false; with_reducible assumption) | exact zDec)) zKr zKr zKr rfl rfl ?_
                              refine aany_skip 20 rfl (.no rfl rfl (by first | (show _ = false; with_reducible assumption) | exact zDec)) zKr zKr zKr rfl rfl ?_
                              refine aany_skip 21 rfl (.no rfl rfl (by first | (show _ = false; with_reducible assumption) | exact zDec)) zKr zKr zKr rfl rfl ?_
                              refine aany_skip 22 rfl (.no rfl rfl (by first | (show _ = false; with_reducible assumption) | exact zDec)) zKr zKr zKr rfl rfl ?_
                              refine aany_skip 23 rfl (.no rfl rfl (by first | (show _ = false; with_reducible assumption) | exact zDec)) zKr zKr zKr rfl rfl ?_
                              refine aany_skip 24 rfl (.no rfl rfl (by first | (show _ = false; with_reducible assumption) | exact zDec)) zKr zKr zKr rfl rfl ?_
                              refine aany_skip 25 rfl (.no rfl rfl (by first | (show _ = false; with_reducible assumption) | exact zDec)) zKr zKr zKr rfl rfl ?_
                              refine aany_skip 26 rfl (.no rfl rfl (by first | (show _ = false; with_reducible assumption) | exact zDec)) zKr zKr zKr rfl rfl ?_
                              refine aany_skip 27 rfl (.no rfl rfl (by first | (show _ = false; with_reducible assumption) | exact zDec)) zKr zKr zKr rfl rfl ?_
                              refine aany_skip 28 rfl (.no rfl rfl (by first | (show _ = false; with_reducible assumption) | exact zDec)) zKr zKr zKr rfl rfl ?_
                              refine aany_skip 29 rfl (.no rfl rfl (by first | (show _ = false; with_reducible assumption) | exact zDec)) zKr zKr zKr rfl rfl ?_
                              first | refine aany_take 30 rfl (.yes rfl rfl zDec) zKr zKr zKr (AP.ar (ap_pick_true rfl zDec rfl)) rfl rfl ?_ | refine aany_take 30 rfl (.yes rfl rfl zDec) zKr zKr zKr (AP.ar (ap_pick_false rfl zDec rfl)) rfl rfl ?_
                              first | refine aany_take 31 rfl (.yes rfl rfl zDec) zKr zKr zKr (AP.ar (ap_pick_true rfl zDec rfl)) rfl rfl ?_ | refine aany_take 31 rfl (.yes rfl rfl zDec) zKr zKr zKr (AP.ar (ap_pick_false rfl zDec rfl)) rfl rfl ?_
                              first | refine aany_take 32 rfl (.none rfl) zKr zKr zKr (AP.ar (ap_pick_true rfl zDec rfl)) rfl rfl ?_ | refine aany_take 32 rfl (.none rfl) zKr zKr zKr (AP.ar (ap_pick_false rfl zDec rfl)) rfl rfl ?_
                              refine aany_nil zKr ?_
                             )
                         rotate_right
                         case' _ =>
                           first
                           | (exact absurd hg (by decide))
                           | (exfalso; simp at hg; done)
                           | (first | refine aany_take 17 rfl (.yes rfl rfl zDec) zKr zKr zKr (AP.ar (ap_fieldAddr (off := 0) (sz := 1) (g := false) rfl rfl)) rfl rfl ?_ | refine aany_take 17 rfl (.yes rfl rfl zDec) zKr zKr zKr (AP.ar (ap_fieldAddr_el (off := 0) (sz := 1) (g := false) rfl rfl zRc)) rfl rfl ?_
                              first | refine aany_take 18 rfl (.yes rfl rfl zDec) zKr zKr zKr (ar_load1 rfl zUpd rfl zRc) rfl rfl ?_ | refine aany_take 18 rfl (.yes rfl rfl zDec) zKr zKr zKr (AQ.ar (aq_load_el1 rfl rfl zScal (fun _ h => h))) rfl rfl ?_ | refine aany_take 18 rfl (.yes rfl rfl zDec) zKr zKr zKr (AQ.ar (aq_load_el1' rfl rfl zScal (fun _ h => h))) rfl rfl ?_ | refine aany_take 18 rfl (.yes rfl rfl zDec) zKr zKr zKr (ar_load_own1 rfl zUpd rfl zAss zScal) rfl rfl ?_
                              refine aany_take 19 rfl (.yes rfl rfl zDec) zKr zKr zKr (AP.ar (ap_move rfl)) rfl rfl ?_
                              refine aany_take 20 rfl (.yes rfl rfl zDec) zKr zKr zKr (AP.ar (ap_index (k := k) rfl rfl rfl rfl (by decide) rfl hy')) rfl rfl ?_
                              first | refine aany_take 21 rfl (.yes rfl rfl zDec) zKr zKr zKr (AP.ar (ap_fieldAddr (off := 1) (sz := 3) (g := true) rfl rfl)) rfl rfl ?_ | refine aany_take 21 rfl (.yes rfl rfl zDec) zKr zKr zKr (AP.ar (ap_fieldAddr_el (off := 1) (sz := 3) (g := true) rfl rfl zRc)) rfl rfl ?_
                              first | refine aany_take 22 rfl (.yes rfl rfl zDec) zKr zKr zKr (ar_load rfl zUpd rfl rfl zRc) rfl rfl ?_ | refine aany_take 22 rfl (.yes rfl rfl zDec) zKr zKr zKr (AQ.ar (aq_load_el rfl rfl rfl rfl (fun _ h => h))) rfl rfl ?_
                              refine aany_take 23 rfl (.yes rfl rfl zDec) zKr zKr zKr (AP.ar (ap_move rfl)) rfl rfl ?_
                              refine aany_take 24 rfl (.yes rfl rfl zDec) zKr zKr zKr (AP.ar (ap_move rfl)) rfl rfl ?_
                              refine aany_take 25 rfl (.yes rfl rfl zDec) zKr zKr zKr (AP.ar (ap_index (k := n) rfl rfl rfl rfl (by decide) rfl hm')) rfl rfl ?_
                              first | refine aany_take 26 rfl (.yes rfl rfl zDec) zKr zKr zKr (AP.ar (ap_fieldAddr (off := 2) (sz := 3) (g := true) rfl rfl)) rfl rfl ?_ | refine aany_take 26 rfl (.yes rfl rfl zDec) zKr zKr zKr (AP.ar (ap_fieldAddr_el (off := 2) (sz := 3) (g := true) rfl rfl zRc)) rfl rfl ?_
                              first | refine aany_take 27 rfl (.yes rfl rfl zDec) zKr zKr zKr (ar_load rfl zUpd rfl rfl zRc) rfl rfl ?_ | refine aany_take 27 rfl (.yes rfl rfl zDec) zKr zKr zKr (AQ.ar (aq_load_el rfl rfl rfl rfl (fun _ h => h))) rfl rfl ?_
                              refine aany_one 28 zKr rfl (.yes rfl rfl zDec) ?_
                              refine aops_call_v zRc (rsame_is m.t) rfl rfl ?_
                              refine aops_nil ?_
                              refine aany_take 29 rfl (.yes rfl rfl zDec) zKr zKr zKr (AP.ar (ap_not rfl)) rfl rfl ?_
                              first | refine aany_take 30 rfl (.yes rfl rfl zDec) zKr zKr zKr (AP.ar (ap_pick_true rfl zDec rfl)) rfl rfl ?_ | refine aany_take 30 rfl (.yes rfl rfl zDec) zKr zKr zKr (AP.ar (ap_pick_false rfl zDec rfl)) rfl rfl ?_
                              first | refine aany_take 31 rfl (.yes rfl rfl zDec) zKr zKr zKr (AP.ar (ap_pick_true rfl zDec rfl)) rfl rfl ?_ | refine aany_take 31 rfl (.yes rfl rfl zDec) zKr zKr zKr (AP.ar (ap_pick_false rfl zDec rfl)) rfl rfl ?_
                              first | refine aany_take 32 rfl (.none rfl) zKr zKr zKr (AP.ar (ap_pick_true rfl zDec rfl)) rfl rfl ?_ | refine aany_take 32 rfl (.none rfl) zKr zKr zKr (AP.ar (ap_pick_false rfl zDec rfl)) rfl rfl ?_
                              refine aany_nil zKr ?_
                             )
                        )
                    rotate_right
                    case' _ =>
                      first
                      | (exact absurd hg (by decide))
                      | (exfalso; simp at hg; done)
                      | (refine aany_skip 14 rfl (.no rfl rfl (by first | (show _ = true; with_reducible assumption) | exact zDec)) zKr zKr zKr rfl rfl ?_
                         refine aany_skip 15 rfl (.no rfl rfl (by first | (show _ = true; with_reducible assumption) | exact zDec)) zKr zKr zKr rfl rfl ?_
                         refine aany_skipu 16 rfl (.no rfl rfl (by first | (show _ = true; with_reducible assumption) | exact zDec)) zKr zKr zKr rfl rfl ?_
                         refine aany_skip 17 rfl (.nou rfl rfl) zKr zKr zKr rfl rfl ?_
                         refine aany_skip 18 rfl (.nou rfl rfl) zKr zKr zKr rfl rfl ?_
                         refine aany_skip 19 rfl (.nou rfl rfl) zKr zKr zKr rfl rfl ?_
                         refine aany_skip 20 rfl (.nou rfl rfl) zKr zKr zKr rfl rfl ?_
                         refine aany_skip 21 rfl (.nou rfl rfl) zKr zKr zKr rfl rfl ?_
                         refine aany_skip 22 rfl (.nou rfl rfl) zKr zKr zKr rfl rfl ?_
                         refine aany_skip 23 rfl (.nou rfl rfl) zKr zKr zKr rfl rfl ?_
                         refine aany_skip 24 rfl (.nou rfl rfl) zKr zKr zKr rfl rfl ?_
                         refine aany_skip 25 rfl (.nou rfl rfl) zKr zKr zKr rfl rfl ?_
                         refine aany_skip 26 rfl (.nou rfl rfl) zKr zKr zKr rfl rfl ?_
                         refine aany_skip 27 rfl (.nou rfl rfl) zKr zKr zKr rfl rfl ?_
                         refine aany_skip 28 rfl (.nou rfl rfl) zKr zKr zKr rfl rfl ?_
                         refine aany_skip 29 rfl (.nou rfl rfl) zKr zKr zKr rfl rfl ?_
                         refine aany_skip 30 rfl (.no rfl rfl (by first | (show _ = true; with_reducible assumption) | exact zDec)) zKr zKr zKr rfl rfl ?_
                         first | refine aany_take 31 rfl (.yes rfl rfl zDec) zKr zKr zKr (AP.ar (ap_pick_true rfl zDec rfl)) rfl rfl ?_ | refine aany_take 31 rfl (.yes rfl rfl zDec) zKr zKr zKr (AP.ar (ap_pick_false rfl zDec rfl)) rfl rfl ?_
                         first | refine aany_take 32 rfl (.none rfl) zKr zKr zKr (AP.ar (ap_pick_true rfl zDec rfl)) rfl rfl ?_ | refine aany_take 32 rfl (.none rfl) zKr zKr zKr (AP.ar (ap_pick_false rfl zDec rfl)) rfl rfl ?_
                         refine aany_nil zKr ?_
                        )
                   )
               all_goals (
                 refine seqQ_n ?_
                 refine awp_cond rfl (fun hc => ?_) (fun hc => ?_)
                 · first
                   | (exact absurd hc (by decide))
                   | (refine awp_seq ?_
                      refine awp_region ?_
                      refine aops_p (ap_assign rfl) rfl rfl rfl ?_
                      refine aops_nil ?_
                      refine seqQ_n ?_
                      refine awp_ret ?_
                      refine blockQ_r ?_
                      refine seqQ_r ?_
                      refine seqQ_r ?_
                      refine blockQ_r ?_
                      refine seqQ_r ?_
                      exfalso
                      first | (simp at hc; done) | (simp at hg; done)
                     )
                 · first
                   | (exact absurd hc (by decide))
                   | (refine awp_skip ?_
                      refine blockQ_n ?_
                      refine seqQ_n ?_
                      refine awp_region ?_
                      refine aops_p (ap_arith rfl rfl rfl (by omega)) rfl rfl rfl ?_
                      refine aops_p (ap_move rfl) rfl rfl rfl ?_
                      refine aops_nil ?_
                      refine seqQ_n ?_
                      refine ⟨k + 1, by omega, by omega, wk zSub (by repeat (first | exact .nil | refine .cons (by first | exact .here | exact .there .here | exact .there (.there .here) | exact .there (.there (.there .here)) | exact .there (.there (.there (.there .here)))) ?_))⟩
                     )
                 )
               )
         · refine awp_exit ?_
           refine seqQ_x ?_
           refine seqQ_x ?_
           refine blockQ_x rfl ?_
           refine seqQ_n ?_
           refine awp_seq ?_
           refine awp_region ?_
           refine aops_call_v zRc (awake18_con) rfl rfl ?_
           refine aops_p (ap_assign rfl) rfl rfl rfl ?_
           refine aops_nil ?_
           refine seqQ_n ?_
           refine awp_ret ?_
           refine post_is (.tmp rfl .nil) (by repeat (first | exact .nil | refine .cons (by first | exact .here | exact .there .here | exact .there (.there .here) | exact .there (.there (.there .here)) | exact .there (.there (.there (.there .here)))) ?_)) rfl
        )
    )
end Go.Proofs.Ytanlbfnlnfkcjaa
