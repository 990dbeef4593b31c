/- The walks of: fbel_con. Each says what one function of the program answers, for the arguments that its statement names. No condition beyond what each theorem says. -/
import Derived.Test.YtegejdhkckndaaaFederatedBelievesW7
import Derived.Test.YtegejdhkckndaaaProg
import Derived.KernelRfl
import Derived.Tactics
import Derived.Tactics2
import Derived.StillTactics
set_option linter.unusedVariables false
set_option linter.unusedSimpArgs false
set_option linter.unnecessarySimpa false
set_option maxRecDepth 4000
namespace Go.Proofs.Ytegejdhkckndaaa
open Go Go.Av Go.Tq
set_option maxHeartbeats 2000000 in
theorem fbel_con (l : List Int) : Con Try.prog 3 [.sl 1 (l.map .i)] [] (Is (.b true) []) := by
  have hcap : capB = 140737488355328 := rfl
  refine con_intro Try.func3 rfl Try.call3 rfl ?_
  refine awp_seq ?_
  refine awp_region ?_
  refine aops_p (ap_assign rfl) rfl rfl rfl ?_
  refine aops_nil ?_
  refine seqQ_n ?_
  refine awp_seq ?_
  refine awp_region ?_
  refine aops_p (ap_move rfl) rfl rfl rfl ?_
  (refine aops_call zRc (New_con l) zSplit rfl rfl ?_; rintro _ _ ⟨b13, rfl, rfl⟩)
  refine aops_p (ap_assign rfl) rfl rfl rfl ?_
  refine aops_nil ?_
  refine seqQ_n ?_
  refine awp_seq ?_
  refine awp_region ?_
  refine aops_p (ap_move rfl) rfl rfl rfl ?_
  (refine aops_call zRc (pair_con _ _ _) zSplit rfl rfl ?_; rintro _ _ ⟨lo, hi, a16, rfl, hp, rfl⟩; have hl1 := hp.len; have hl2 := hp.len2; have h10 := pow_le10 (n := lo.length) (by omega); have hpos : 0 < 2 ^ lo.length := Nat.pow_pos (by omega); have hml : (lo.map mv).length = lo.length := (by simp))
  refine aops_p (ap_move rfl) rfl rfl rfl ?_
  refine aops_p (ap_extract rfl rfl) rfl rfl rfl ?_
  refine aops_p (ap_extract rfl rfl) rfl rfl rfl ?_
  refine aops_alloc rfl zRc rfl rfl (fun b4 => ?_)
  refine aops_alloc rfl zRc rfl rfl (fun b5 => ?_)
  first | refine aops_store rfl rfl zFlat zUpd rfl zRc ?_ | refine aops_store_own1 rfl rfl zScal zUpd rfl (by simp only [List.length_set, List.length_map]; omega) ?_
  first | refine aops_store rfl rfl zFlat zUpd rfl zRc ?_ | refine aops_store_own1 rfl rfl zScal zUpd rfl (by simp only [List.length_set, List.length_map]; omega) ?_
  refine aops_nil ?_
  refine seqQ_n ?_
  refine awp_seq ?_
  refine awp_region ?_
  refine aops_p (ap_move rfl) rfl rfl rfl ?_
  first | refine aops_q (aq_load rfl zUpd List.not_mem_nil rfl rfl zRc) rfl rfl rfl ?_ | refine aops_q (aq_load_el rfl rfl rfl rfl (fun _ h => absurd h List.not_mem_nil)) rfl rfl rfl ?_
  (refine aops_call zRc (set2_con _ _ lo (by omega) _) zSplit rfl rfl ?_; rintro _ _ ⟨u, a21, rfl, hu, rfl⟩)
  refine aops_p (ap_assign rfl) rfl rfl rfl ?_
  refine aops_nil ?_
  refine seqQ_n ?_
  refine awp_seq ?_
  refine awp_region ?_
  first | refine aops_q (aq_load rfl zUpd List.not_mem_nil rfl rfl zRc) rfl rfl rfl ?_ | refine aops_q (aq_load_el rfl rfl rfl rfl (fun _ h => absurd h List.not_mem_nil)) rfl rfl rfl ?_
  first | refine aops_q (aq_load rfl zUpd List.not_mem_nil rfl rfl zRc) rfl rfl rfl ?_ | refine aops_q (aq_load_el rfl rfl rfl rfl (fun _ h => absurd h List.not_mem_nil)) rfl rfl rfl ?_
  refine aops_p (ap_move rfl) rfl rfl rfl ?_
  (refine aops_call zRc (intact_con lo hi hp u hu) zSplit rfl rfl ?_; rintro _ _ ⟨s, rfl, ⟨hs, hI, hQ⟩, rfl⟩; have hlow := pair_fine hp hs hI hQ; have hco : co lo s < 1024 := co_lt (by omega))
  refine aops_p (ap_move rfl) rfl rfl rfl ?_
  refine aops_p (ap_extract rfl rfl) rfl rfl rfl ?_
  refine aops_p (ap_extract rfl rfl) rfl rfl rfl ?_
  refine aops_p (ap_assign rfl) rfl rfl rfl ?_
  refine aops_p (ap_assign rfl) rfl rfl rfl ?_
  refine aops_nil ?_
  refine seqQ_n ?_
  refine awp_seq ?_
  refine awp_seq ?_
  refine awp_region ?_
  refine aops_p (ap_move rfl) rfl rfl rfl ?_
  refine aops_p (ap_cmp rfl rfl rfl) rfl rfl rfl ?_
  refine aops_nil ?_
  refine seqQ_n ?_
  refine awp_cond_f rfl zDec ?_
  refine awp_skip ?_
  refine seqQ_n ?_
  refine awp_seq ?_
  refine awp_region ?_
  first | refine aops_p (ap_fieldAddr (off := 0) (sz := 1) (g := false) rfl rfl) rfl rfl rfl ?_ | refine aops_p (ap_fieldAddr_el (off := 0) (sz := 1) (g := false) rfl rfl zRc) rfl rfl rfl ?_
  first | refine aops_q (aq_load1 rfl zUpd List.not_mem_nil rfl zRc) rfl rfl rfl ?_ | refine aops_q (aq_load_el1 rfl rfl zScal (fun _ h => absurd h List.not_mem_nil)) rfl rfl rfl ?_ | refine aops_q (aq_load_el1' rfl rfl zScal (fun _ h => absurd h List.not_mem_nil)) rfl rfl rfl ?_ | refine aops_q (aq_load_own1 rfl zUpd List.not_mem_nil rfl zAss zScal) rfl rfl rfl ?_
  first | refine aops_len rfl rfl rfl rfl (fun _ => ?_) | refine aops_p (ap_len_arr rfl zUpd rfl) rfl rfl rfl ?_ | refine aops_p (ap_len_nil rfl rfl) rfl rfl rfl ?_
  (rw [hml]; refine aops_p (ap_shl (p := 1) rfl rfl rfl (by omega) (by omega)) rfl rfl rfl ?_)
  refine aops_p (ap_arith (m := ((2 ^ lo.length - 1 : Nat) : Int)) rfl rfl (by simp only [addI, Option.some.injEq]; omega) (by omega)) rfl rfl rfl ?_
  refine aops_p (ap_move rfl) rfl rfl rfl ?_
  refine aops_p (ap_bits rfl rfl rfl (by omega) (by omega)) rfl rfl rfl ?_
  refine aops_p (ap_assign rfl) rfl rfl rfl ?_
  rw [co_full (c := lo) (s := s)]
  refine aops_nil ?_
  refine seqQ_n ?_
  refine awp_seq ?_
  refine awp_seq ?_
  have hnl : ((nodesOf s).map D.i).length = (nodesOf s).length := by simp
  refine awp_region ?_
  refine aops_p (ap_move rfl) rfl rfl rfl ?_
  refine aops_call_v zRc (rNodes_con s) rfl rfl ?_
  first | refine aops_len rfl rfl rfl rfl (fun _ => ?_) | refine aops_p (ap_len_arr rfl zUpd rfl) rfl rfl rfl ?_ | refine aops_p (ap_len_nil rfl rfl) rfl rfl rfl ?_
  refine aops_p (ap_move rfl) rfl rfl rfl ?_
  refine aops_nil ?_
  refine seqQ_n ?_
  refine awp_block ?_
  refine awp_loop2 [3, 4, 5, 7, 9, 39, 40] [.box b5 _ _, .box b4 _ _] (fun (k : Nat) (a : Nat) r => (41, .i (k : Int)) :: r) (fun (k : Nat) (a : Nat) r => .box b13 57 [.sl 1 ((l.take 400).map .i), .i ((a : Nat) : Int)] :: r) (fun (k : Nat) (a : Nat) => k ≤ (nodesOf s).length) (fun (k : Nat) (a : Nat) => (nodesOf s).length - k) (0) (a21) zRc (by omega) (wk zSub (by repeat (first | exact .nil | refine .cons (by first | exact .here | exact .there .here | exact .there (.there .here) | exact .there (.there (.there .here)) | exact .there (.there (.there (.there .here)))) ?_))) ?_
  intro k a hk
  refine awp_seq ?_
  refine awp_region ?_
  refine aops_p (ap_cmp rfl rfl rfl) rfl rfl rfl ?_
  refine aops_nil ?_
  refine seqQ_n ?_
  refine awp_seq ?_
  refine awp_cond rfl (fun hc => ?_) (fun hc => ?_)
  · have hlt := of_decide_eq_true hc
    obtain ⟨x, hx, _⟩ := drop_cons (l := nodesOf s) (k := k) (by omega)
    have hx' := getMap D.i hx
    have hxh := mem_nodesOf.1 (List.mem_of_getElem? hx)
    have hA1 : acceptsC hi x 0 ((co lo s : Nat) : Int) = false := no_accept hs hco hQ hxh (rest_bit0 (by omega) hs)
    have hA2 : ∀ y, acceptsC lo x 0 ((y &&& co lo s : Nat) : Int) = false := fun y => no_accept hs (Nat.lt_of_le_of_lt Nat.and_le_right hco) hlow.2 hxh (rest_bit (by omega) hs)
    have hC1 := yes_confirm hs hI hQ hxh
    have hC2 := yes_confirm hs hlow.1 hlow.2 hxh
    have hA3 := yes_accept hs hI hQ hxh
    refine awp_skip ?_
    refine seqQ_n ?_
    refine awp_seq ?_
    refine awp_block ?_
    refine awp_seq ?_
    refine awp_region ?_
    first | refine aops_p (ap_index rfl rfl rfl rfl (by decide) rfl zAss) rfl rfl rfl ?_ | refine aops_p (ap_index rfl rfl rfl rfl (by decide) (by omega) zAss) rfl rfl rfl ?_ | refine aops_p (ap_index_own rfl rfl rfl rfl rfl (by first | omega | (simp only [List.length_map, List.length_set, avs_len]; omega))) rfl rfl rfl ?_
    first | refine aops_q (aq_load1 rfl zUpd List.not_mem_nil rfl zRc) rfl rfl rfl ?_ | refine aops_q (aq_load_el1 rfl rfl zScal (fun _ h => absurd h List.not_mem_nil)) rfl rfl rfl ?_ | refine aops_q (aq_load_el1' rfl rfl zScal (fun _ h => absurd h List.not_mem_nil)) rfl rfl rfl ?_ | refine aops_q (aq_load_own1 rfl zUpd List.not_mem_nil rfl zAss zScal) rfl rfl rfl ?_
    refine aops_p (ap_assign rfl) rfl rfl rfl ?_
    refine aops_nil ?_
    refine seqQ_n ?_
    refine awp_seq ?_
    refine awp_draw (Hm := [.box b13 _ _]) zKr zSplit ?_
    first | refine aany_take 0 rfl (.none rfl) zKr zKr zKr (ar_load rfl zUpd rfl rfl zRc) rfl rfl ?_ | refine aany_take 0 rfl (.none rfl) zKr zKr zKr (AQ.ar (aq_load_el rfl rfl rfl rfl (fun _ h => h))) rfl rfl ?_
    refine aany_take 1 rfl (.none rfl) zKr zKr zKr (AP.ar (ap_move rfl)) rfl rfl ?_
    refine aany_take 2 rfl (.none rfl) zKr zKr zKr (AP.ar (ap_move rfl)) rfl rfl ?_
    refine aany_one 3 zKr rfl (.none rfl) ?_
    refine aops_call_v zRc (acc_v hA1) rfl rfl ?_
    refine aops_nil ?_
    refine aany_take 4 rfl (.none rfl) zKr zKr zKr (AP.ar (ap_move rfl)) rfl rfl ?_
    refine aany_guard 4 rfl (fun hg => ?_) (fun hg => ?_)
    rotate_left
    case' _ =>
      first
      | (exact absurd hg (by decide))
      | (first | refine aany_take 5 rfl (.yes rfl rfl zDec) zKr zKr zKr (ar_load rfl zUpd rfl rfl zRc) rfl rfl ?_ | refine aany_take 5 rfl (.yes rfl rfl zDec) zKr zKr zKr (AQ.ar (aq_load_el rfl rfl rfl rfl (fun _ h => h))) rfl rfl ?_
         refine aany_take 6 rfl (.yes rfl rfl zDec) zKr zKr zKr (AP.ar (ap_move rfl)) rfl rfl ?_
         refine aany_take 7 rfl (.yes rfl rfl zDec) zKr zKr zKr (AP.ar (ap_move rfl)) rfl rfl ?_
         refine aany_take 9 rfl (.yes rfl rfl zDec) zKr zKr zKr (AP.ar (ap_move rfl)) rfl rfl ?_
         refine aany_one 8 zKr rfl (.yes rfl rfl zDec) ?_
         (refine aops_call zRc (N_con _ _ _ _ (by omega)) zSplit rfl rfl ?_; rintro _ _ ⟨r53, a53, rfl, hr53, rfl⟩; obtain ⟨y, rfl⟩ := Int.eq_ofNat_of_zero_le hr53.1)
         refine aops_nil ?_
         refine aany_take 10 rfl (.yes rfl rfl zDec) zKr zKr zKr (AP.ar (ap_bits rfl rfl rfl (by omega) (by omega))) rfl rfl ?_
         refine aany_one 11 zKr rfl (.yes rfl rfl zDec) ?_
         refine aops_call_v zRc (acc_v (hA2 y)) rfl rfl ?_
         refine aops_nil ?_
         first | refine aany_take 12 rfl (.none rfl) zKr zKr zKr (AP.ar (ap_pick_true rfl zDec rfl)) rfl rfl ?_ | refine aany_take 12 rfl (.none rfl) zKr zKr zKr (AP.ar (ap_pick_false rfl zDec rfl)) rfl rfl ?_
         refine aany_take 13 rfl (.none rfl) zKr zKr zKr (AP.ar (ap_move rfl)) rfl rfl ?_
         refine aany_guard 13 rfl (fun hg => ?_) (fun hg => ?_)
         rotate_left
         case' _ =>
           first
           | (exact absurd hg (by decide))
           | (first | refine aany_take 14 rfl (.yes rfl rfl zDec) zKr zKr zKr (ar_load rfl zUpd rfl rfl zRc) rfl rfl ?_ | refine aany_take 14 rfl (.yes rfl rfl zDec) zKr zKr zKr (AQ.ar (aq_load_el rfl rfl rfl rfl (fun _ h => h))) rfl rfl ?_
              refine aany_take 15 rfl (.yes rfl rfl zDec) zKr zKr zKr (AP.ar (ap_move rfl)) rfl rfl ?_
              refine aany_take 16 rfl (.yes rfl rfl zDec) zKr zKr zKr (AP.ar (ap_move rfl)) rfl rfl ?_
              refine aany_one 17 zKr rfl (.yes rfl rfl zDec) ?_
              refine aops_call_v zRc (cfm_v hC1) rfl rfl ?_
              refine aops_nil ?_
              refine aany_take 18 rfl (.yes rfl rfl zDec) zKr zKr zKr (AP.ar (ap_not rfl)) rfl rfl ?_
              first | refine aany_take 19 rfl (.none rfl) zKr zKr zKr (AP.ar (ap_pick_true rfl zDec rfl)) rfl rfl ?_ | refine aany_take 19 rfl (.none rfl) zKr zKr zKr (AP.ar (ap_pick_false rfl zDec rfl)) rfl rfl ?_
              refine aany_take 20 rfl (.none rfl) zKr zKr zKr (AP.ar (ap_move rfl)) rfl rfl ?_
              refine aany_guard 20 rfl (fun hg => ?_) (fun hg => ?_)
              rotate_left
              case' _ =>
                first
                | (exact absurd hg (by decide))
                | (first | refine aany_take 21 rfl (.yes rfl rfl zDec) zKr zKr zKr (ar_load rfl zUpd rfl rfl zRc) rfl rfl ?_ | refine aany_take 21 rfl (.yes rfl rfl zDec) zKr zKr zKr (AQ.ar (aq_load_el rfl rfl rfl rfl (fun _ h => h))) rfl rfl ?_
                   refine aany_take 22 rfl (.yes rfl rfl zDec) zKr zKr zKr (AP.ar (ap_move rfl)) rfl rfl ?_
                   refine aany_take 23 rfl (.yes rfl rfl zDec) zKr zKr zKr (AP.ar (ap_move rfl)) rfl rfl ?_
                   refine aany_one 24 zKr rfl (.yes rfl rfl zDec) ?_
                   refine aops_call_v zRc (cfm_v hC2) rfl rfl ?_
                   refine aops_nil ?_
                   refine aany_take 25 rfl (.yes rfl rfl zDec) zKr zKr zKr (AP.ar (ap_not rfl)) rfl rfl ?_
                   first | refine aany_take 26 rfl (.none rfl) zKr zKr zKr (AP.ar (ap_pick_true rfl zDec rfl)) rfl rfl ?_ | refine aany_take 26 rfl (.none rfl) zKr zKr zKr (AP.ar (ap_pick_false rfl zDec rfl)) rfl rfl ?_
                   refine aany_take 27 rfl (.none rfl) zKr zKr zKr (AP.ar (ap_move rfl)) rfl rfl ?_
                   refine aany_guard 27 rfl (fun hg => ?_) (fun hg => ?_)
                   rotate_left
                   case' _ =>
                     first
                     | (exact absurd hg (by decide))
                     | (first | refine aany_take 28 rfl (.yes rfl rfl zDec) zKr zKr zKr (ar_load rfl zUpd rfl rfl zRc) rfl rfl ?_ | refine aany_take 28 rfl (.yes rfl rfl zDec) zKr zKr zKr (AQ.ar (aq_load_el rfl rfl rfl rfl (fun _ h => h))) rfl rfl ?_
                        refine aany_take 29 rfl (.yes rfl rfl zDec) zKr zKr zKr (AP.ar (ap_move rfl)) rfl rfl ?_
                        refine aany_take 30 rfl (.yes rfl rfl zDec) zKr zKr zKr (AP.ar (ap_move rfl)) rfl rfl ?_
                        refine aany_one 31 zKr rfl (.yes rfl rfl zDec) ?_
                        refine aops_call_v zRc (acc_v hA3) rfl rfl ?_
                        refine aops_nil ?_
                        refine aany_take 32 rfl (.yes rfl rfl zDec) zKr zKr zKr (AP.ar (ap_not rfl)) rfl rfl ?_
                        first | refine aany_take 33 rfl (.none rfl) zKr zKr zKr (AP.ar (ap_pick_true rfl zDec rfl)) rfl rfl ?_ | refine aany_take 33 rfl (.none rfl) zKr zKr zKr (AP.ar (ap_pick_false rfl zDec rfl)) rfl rfl ?_
                        refine aany_nil zKr ?_
                       )
                   rotate_right
                   case' _ =>
                     first
                     | (exact absurd hg (by decide))
                     | (refine aany_skip 28 rfl (.no rfl rfl (by first | (show _ = true; with_reducible assumption) | exact zDec)) zKr zKr zKr rfl rfl ?_
                        refine aany_skip 29 rfl (.no rfl rfl (by first | (show _ = true; with_reducible assumption) | exact zDec)) zKr zKr zKr rfl rfl ?_
                        refine aany_skip 30 rfl (.no rfl rfl (by first | (show _ = true; with_reducible assumption) | exact zDec)) zKr zKr zKr rfl rfl ?_
                        refine aany_skip 31 rfl (.no rfl rfl (by first | (show _ = true; with_reducible assumption) | exact zDec)) zKr zKr zKr rfl rfl ?_
                        refine aany_skip 32 rfl (.no rfl rfl (by first | (show _ = true; with_reducible assumption) | exact zDec)) zKr zKr zKr rfl rfl ?_
                        first | refine aany_take 33 rfl (.none rfl) zKr zKr zKr (AP.ar (ap_pick_true rfl zDec rfl)) rfl rfl ?_ | refine aany_take 33 rfl (.none rfl) zKr zKr zKr (AP.ar (ap_pick_false rfl zDec rfl)) rfl rfl ?_
                        refine aany_nil zKr ?_
                       )
                  )
              rotate_right
              case' _ =>
                first
                | (exact absurd hg (by decide))
                | (refine aany_skip 21 rfl (.no rfl rfl (by first | (show _ = true; with_reducible assumption) | exact zDec)) zKr zKr zKr rfl rfl ?_
                   refine aany_skip 22 rfl (.no rfl rfl (by first | (show _ = true; with_reducible assumption) | exact zDec)) zKr zKr zKr rfl rfl ?_
                   refine aany_skip 23 rfl (.no rfl rfl (by first | (show _ = true; with_reducible assumption) | exact zDec)) zKr zKr zKr rfl rfl ?_
                   refine aany_skip 24 rfl (.no rfl rfl (by first | (show _ = true; with_reducible assumption) | exact zDec)) zKr zKr zKr rfl rfl ?_
                   refine aany_skip 25 rfl (.no rfl rfl (by first | (show _ = true; with_reducible assumption) | exact zDec)) zKr zKr zKr rfl rfl ?_
                   first | refine aany_take 26 rfl (.none rfl) zKr zKr zKr (AP.ar (ap_pick_true rfl zDec rfl)) rfl rfl ?_ | refine aany_take 26 rfl (.none rfl) zKr zKr zKr (AP.ar (ap_pick_false rfl zDec rfl)) rfl rfl ?_
                   refine aany_take 27 rfl (.none rfl) zKr zKr zKr (AP.ar (ap_move rfl)) rfl rfl ?_
                   refine aany_skip 28 rfl (.no rfl rfl (by first | (show _ = true; with_reducible assumption) | exact zDec)) zKr zKr zKr rfl rfl ?_
                   refine aany_skip 29 rfl (.no rfl rfl (by first | (show _ = true; with_reducible assumption) | exact zDec)) zKr zKr zKr rfl rfl ?_
                   refine aany_skip 30 rfl (.no rfl rfl (by first | (show _ = true; with_reducible assumption) | exact zDec)) zKr zKr zKr rfl rfl ?_
                   refine aany_skip 31 rfl (.no rfl rfl (by first | (show _ = true; with_reducible assumption) | exact zDec)) zKr zKr zKr rfl rfl ?_
                   refine aany_skip 32 rfl (.no rfl rfl (by first | (show _ = true; with_reducible assumption) | exact zDec)) zKr zKr zKr rfl rfl ?_
                   first | refine aany_take 33 rfl (.none rfl) zKr zKr zKr (AP.ar (ap_pick_true rfl zDec rfl)) rfl rfl ?_ | refine aany_take 33 rfl (.none rfl) zKr zKr zKr (AP.ar (ap_pick_false rfl zDec rfl)) rfl rfl ?_
                   refine aany_nil zKr ?_
                  )
             )
         rotate_right
         case' _ =>
           first
           | (exact absurd hg (by decide))
           | (refine aany_skip 14 rfl (.no rfl rfl (by first | (show _ = true; with_reducible assumption) | exact zDec)) zKr zKr zKr rfl rfl ?_
              refine aany_skip 15 rfl (.no rfl rfl (by first | (show _ = true; with_reducible assumption) | exact zDec)) zKr zKr zKr rfl rfl ?_
              refine aany_skip 16 rfl (.no rfl rfl (by first | (show _ = true; with_reducible assumption) | exact zDec)) zKr zKr zKr rfl rfl ?_
              refine aany_skip 17 rfl (.no rfl rfl (by first | (show _ = true; with_reducible assumption) | exact zDec)) zKr zKr zKr rfl rfl ?_
              refine aany_skip 18 rfl (.no rfl rfl (by first | (show _ = true; with_reducible assumption) | exact zDec)) zKr zKr zKr rfl rfl ?_
              first | refine aany_take 19 rfl (.none rfl) zKr zKr zKr (AP.ar (ap_pick_true rfl zDec rfl)) rfl rfl ?_ | refine aany_take 19 rfl (.none rfl) zKr zKr zKr (AP.ar (ap_pick_false rfl zDec rfl)) rfl rfl ?_
              refine aany_take 20 rfl (.none rfl) zKr zKr zKr (AP.ar (ap_move rfl)) rfl rfl ?_
              refine aany_skip 21 rfl (.no rfl rfl (by first | (show _ = true; with_reducible assumption) | exact zDec)) zKr zKr zKr rfl rfl ?_
              refine aany_skip 22 rfl (.no rfl rfl (by first | (show _ = true; with_reducible assumption) | exact zDec)) zKr zKr zKr rfl rfl ?_
              refine aany_skip 23 rfl (.no rfl rfl (by first | (show _ = true; with_reducible assumption) | exact zDec)) zKr zKr zKr rfl rfl ?_
              refine aany_skip 24 rfl (.no rfl rfl (by first | (show _ = true; with_reducible assumption) | exact zDec)) zKr zKr zKr rfl rfl ?_
              refine aany_skip 25 rfl (.no rfl rfl (by first | (show _ = true; with_reducible assumption) | exact zDec)) zKr zKr zKr rfl rfl ?_
              first | refine aany_take 26 rfl (.none rfl) zKr zKr zKr (AP.ar (ap_pick_true rfl zDec rfl)) rfl rfl ?_ | refine aany_take 26 rfl (.none rfl) zKr zKr zKr (AP.ar (ap_pick_false rfl zDec rfl)) rfl rfl ?_
              refine aany_take 27 rfl (.none rfl) zKr zKr zKr (AP.ar (ap_move rfl)) rfl rfl ?_
              refine aany_skip 28 rfl (.no rfl rfl (by first | (show _ = true; with_reducible assumption) | exact zDec)) zKr zKr zKr rfl rfl ?_
              refine aany_skip 29 rfl (.no rfl rfl (by first | (show _ = true; with_reducible assumption) | exact zDec)) zKr zKr zKr rfl rfl ?_
              refine aany_skip 30 rfl (.no rfl rfl (by first | (show _ = true; with_reducible assumption) | exact zDec)) zKr zKr zKr rfl rfl ?_
              refine aany_skip 31 rfl (.no rfl rfl (by first | (show _ = true; with_reducible assumption) | exact zDec)) zKr zKr zKr rfl rfl ?_
              refine aany_skip 32 rfl (.no rfl rfl (by first | (show _ = true; with_reducible assumption) | exact zDec)) zKr zKr zKr rfl rfl ?_
              first | refine aany_take 33 rfl (.none rfl) zKr zKr zKr (AP.ar (ap_pick_true rfl zDec rfl)) rfl rfl ?_ | refine aany_take 33 rfl (.none rfl) zKr zKr zKr (AP.ar (ap_pick_false rfl zDec rfl)) rfl rfl ?_
              refine aany_nil zKr ?_
             )
        )
    rotate_right
    case' _ =>
      first
      | (exact absurd hg (by decide))
      | (refine aany_skip 5 rfl (.no rfl rfl (by first | (show _ = true; with_reducible assumption) | exact zDec)) zKr zKr zKr rfl rfl ?_
         refine aany_skip 6 rfl (.no rfl rfl (by first | (show _ = true; with_reducible assumption) | exact zDec)) zKr zKr zKr rfl rfl ?_
         refine aany_skip 7 rfl (.no rfl rfl (by first | (show _ = true; with_reducible assumption) | exact zDec)) zKr zKr zKr rfl rfl ?_
         refine aany_skip 8 rfl (.no rfl rfl (by first | (show _ = true; with_reducible assumption) | exact zDec)) zKr zKr zKr rfl rfl ?_
         refine aany_skip 9 rfl (.no rfl rfl (by first | (show _ = true; with_reducible assumption) | exact zDec)) zKr zKr zKr rfl rfl ?_
         refine aany_skip 10 rfl (.no rfl rfl (by first | (show _ = true; with_reducible assumption) | exact zDec)) zKr zKr zKr rfl rfl ?_
         refine aany_skip 11 rfl (.no rfl rfl (by first | (show _ = true; with_reducible assumption) | exact zDec)) zKr zKr zKr rfl rfl ?_
         first | refine aany_take 12 rfl (.none rfl) zKr zKr zKr (AP.ar (ap_pick_true rfl zDec rfl)) rfl rfl ?_ | refine aany_take 12 rfl (.none rfl) zKr zKr zKr (AP.ar (ap_pick_false rfl zDec rfl)) rfl rfl ?_
         refine aany_take 13 rfl (.none rfl) zKr zKr zKr (AP.ar (ap_move rfl)) rfl rfl ?_
         refine aany_skip 14 rfl (.no rfl rfl (by first | (show _ = true; with_reducible assumption) | exact zDec)) zKr zKr zKr rfl rfl ?_
         refine aany_skip 15 rfl (.no rfl rfl (by first | (show _ = true; with_reducible assumption) | exact zDec)) zKr zKr zKr rfl rfl ?_
         refine aany_skip 16 rfl (.no rfl rfl (by first | (show _ = true; with_reducible assumption) | exact zDec)) zKr zKr zKr rfl rfl ?_
         refine aany_skip 17 rfl (.no rfl rfl (by first | (show _ = true; with_reducible assumption) | exact zDec)) zKr zKr zKr rfl rfl ?_
         refine aany_skip 18 rfl (.no rfl rfl (by first | (show _ = true; with_reducible assumption) | exact zDec)) zKr zKr zKr rfl rfl ?_
         first | refine aany_take 19 rfl (.none rfl) zKr zKr zKr (AP.ar (ap_pick_true rfl zDec rfl)) rfl rfl ?_ | refine aany_take 19 rfl (.none rfl) zKr zKr zKr (AP.ar (ap_pick_false rfl zDec rfl)) rfl rfl ?_
         refine aany_take 20 rfl (.none rfl) zKr zKr zKr (AP.ar (ap_move rfl)) rfl rfl ?_
         refine aany_skip 21 rfl (.no rfl rfl (by first | (show _ = true; with_reducible assumption) | exact zDec)) zKr zKr zKr rfl rfl ?_
         refine aany_skip 22 rfl (.no rfl rfl (by first | (show _ = true; with_reducible assumption) | exact zDec)) zKr zKr zKr rfl rfl ?_
         refine aany_skip 23 rfl (.no rfl rfl (by first | (show _ = true; with_reducible assumption) | exact zDec)) zKr zKr zKr rfl rfl ?_
         refine aany_skip 24 rfl (.no rfl rfl (by first | (show _ = true; with_reducible assumption) | exact zDec)) zKr zKr zKr rfl rfl ?_
         refine aany_skip 25 rfl (.no rfl rfl (by first | (show _ = true; with_reducible assumption) | exact zDec)) zKr zKr zKr rfl rfl ?_
         first | refine aany_take 26 rfl (.none rfl) zKr zKr zKr (AP.ar (ap_pick_true rfl zDec rfl)) rfl rfl ?_ | refine aany_take 26 rfl (.none rfl) zKr zKr zKr (AP.ar (ap_pick_false rfl zDec rfl)) rfl rfl ?_
         refine aany_take 27 rfl (.none rfl) zKr zKr zKr (AP.ar (ap_move rfl)) rfl rfl ?_
         refine aany_skip 28 rfl (.no rfl rfl (by first | (show _ = true; with_reducible assumption) | exact zDec)) zKr zKr zKr rfl rfl ?_
         refine aany_skip 29 rfl (.no rfl rfl (by first | (show _ = true; with_reducible assumption) | exact zDec)) zKr zKr zKr rfl rfl ?_
         refine aany_skip 30 rfl (.no rfl rfl (by first | (show _ = true; with_reducible assumption) | exact zDec)) zKr zKr zKr rfl rfl ?_
         refine aany_skip 31 rfl (.no rfl rfl (by first | (show _ = true; with_reducible assumption) | exact zDec)) zKr zKr zKr rfl rfl ?_
         refine aany_skip 32 rfl (.no rfl rfl (by first | (show _ = true; with_reducible assumption) | exact zDec)) zKr zKr zKr rfl rfl ?_
         first | refine aany_take 33 rfl (.none rfl) zKr zKr zKr (AP.ar (ap_pick_true rfl zDec rfl)) rfl rfl ?_ | refine aany_take 33 rfl (.none rfl) zKr zKr zKr (AP.ar (ap_pick_false rfl zDec rfl)) rfl rfl ?_
         refine aany_nil zKr ?_
        )
    all_goals (
      refine seqQ_n ?_
      refine awp_cond rfl (fun hc => ?_) (fun hc => ?_)
      · first
        | (exact absurd hc (by decide))
        | (refine awp_seq ?_
           refine awp_region ?_
           refine aops_p (ap_assign rfl) rfl rfl rfl ?_
           refine aops_nil ?_
           refine seqQ_n ?_
           refine awp_ret ?_
           refine blockQ_r ?_
           refine seqQ_r ?_
           refine seqQ_r ?_
           refine blockQ_r ?_
           refine seqQ_r ?_
           first | (refine post_is (.tmp rfl .nil) (by repeat (first | exact .nil | refine .cons (by first | exact .here | exact .there .here | exact .there (.there .here) | exact .there (.there (.there .here)) | exact .there (.there (.there (.there .here)))) ?_)) rfl) | (exfalso; exact absurd hc (by decide))
          )
      · first
        | (exact absurd hc (by decide))
        | (refine awp_skip ?_
           refine blockQ_n ?_
           refine seqQ_n ?_
           refine awp_region ?_
           refine aops_p (ap_arith rfl rfl rfl (by omega)) rfl rfl rfl ?_
           refine aops_p (ap_move rfl) rfl rfl rfl ?_
           refine aops_nil ?_
           refine seqQ_n ?_
           refine ⟨k + 1, _, by omega, by omega, wk zSub (by repeat (first | exact .nil | refine .cons (by first | exact .here | exact .there .here | exact .there (.there .here) | exact .there (.there (.there .here)) | exact .there (.there (.there (.there .here)))) ?_))⟩
          )
      )
  · refine awp_exit ?_
    refine seqQ_x ?_
    refine seqQ_x ?_
    refine blockQ_x rfl ?_
    refine seqQ_n ?_
    refine awp_seq ?_
    refine awp_region ?_
    refine aops_call_v zRc (awake18_con) rfl rfl ?_
    refine aops_p (ap_assign rfl) rfl rfl rfl ?_
    refine aops_nil ?_
    refine seqQ_n ?_
    refine awp_ret ?_
    first | (refine post_is (.tmp rfl .nil) (by repeat (first | exact .nil | refine .cons (by first | exact .here | exact .there .here | exact .there (.there .here) | exact .there (.there (.there .here)) | exact .there (.there (.there (.there .here)))) ?_)) rfl) | (exfalso; exact absurd hc (by decide))
end Go.Proofs.Ytegejdhkckndaaa
