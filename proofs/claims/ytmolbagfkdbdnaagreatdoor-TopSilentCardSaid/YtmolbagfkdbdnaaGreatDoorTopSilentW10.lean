/- Walks: each says what one function of the program answers, for the arguments that its statement names. No condition beyond what each theorem says. -/
import Derived.Test.YtmolbagfkdbdnaaGreatDoorTopSilentW9
import Derived.Test.YtmolbagfkdbdnaaGreatDoorProg
import Derived.KernelRfl
import Derived.Tactics
import Derived.Tactics2
import Derived.StillTactics
import Derived.Shelf.SlSortCmp.Whole1
import Derived.Shelf.SlSortCmp.NoneTotal
import Derived.Shelf.Strconv.Atoi
set_option linter.unusedVariables false
set_option linter.unusedSimpArgs false
set_option maxRecDepth 4000
set_option maxHeartbeats 2000000
namespace Go.Proofs.YtmolbagfkdbdnaaGreatDoor
open Go Go.Av Go.Tq
theorem next0_con (b : Nat) : Con Tryz.prog 145 [.p b 0] [.box b 166 [.v (.string tT), .v (.string (tkT 0)), .i 0]] (Is (.tup []) [.box b 166 [.v (.string tT), .v (.string (tkT 1)), .i 0]]) := by
  have hcap : capB = 140737488355328 := rfl
  refine con_intro Tryz.func145 rfl Tryz.call145 rfl ?_
  refine zW ?_
  refine awp_draw2 (stB [12]) (by kernel_rfl) ?_
  refine aany2_pure 0 rfl (.none rfl) zKr zKr zKr (ap_move rfl) rfl rfl ?_
  first | refine aany2_pure 1 rfl (.none rfl) zKr zKr zKr (ap_nilCheck rfl) rfl rfl ?_ | refine aany2_pure 1 rfl (.none rfl) zKr zKr zKr (ap_nilCheck_el rfl) rfl rfl ?_
  first | refine aany2_pure 2 rfl (.none rfl) zKr zKr zKr (ap_fieldAddr (off := 2) (sz := 1) (g := false) rfl rfl) rfl rfl ?_ | refine aany2_pure 2 rfl (.none rfl) zKr zKr zKr (ap_fieldAddr_el (off := 2) (sz := 1) (g := false) rfl rfl zRc) rfl rfl ?_
  first | refine aany2_take 3 rfl (.none rfl) zKr zKr zKr zKr (stB_out zKr) (aq_load1 rfl zUpd List.not_mem_nil rfl zRc) rfl rfl ?_ | refine aany2_take 3 rfl (.none rfl) zKr zKr zKr zKr (stB_out zKr) (aq_load_el1 rfl rfl zScal (fun _ h => absurd h List.not_mem_nil)) rfl rfl ?_ | refine aany2_take 3 rfl (.none rfl) zKr zKr zKr zKr (stB_out zKr) (aq_load_el1' rfl rfl zScal (fun _ h => absurd h List.not_mem_nil)) rfl rfl ?_ | refine aany2_take 3 rfl (.none rfl) zKr zKr zKr zKr (stB_out zKr) (aq_load_own1 rfl zUpd List.not_mem_nil rfl (by first | with_reducible assumption | assumption | rfl) zScal) rfl rfl ?_
  refine aany2_pure 4 rfl (.none rfl) zKr zKr zKr (ap_move rfl) rfl rfl ?_
  first | refine aany2_pure 5 rfl (.none rfl) zKr zKr zKr (ap_nilCheck rfl) rfl rfl ?_ | refine aany2_pure 5 rfl (.none rfl) zKr zKr zKr (ap_nilCheck_el rfl) rfl rfl ?_
  first | refine aany2_pure 6 rfl (.none rfl) zKr zKr zKr (ap_fieldAddr (off := 1) (sz := 1) (g := false) rfl rfl) rfl rfl ?_ | refine aany2_pure 6 rfl (.none rfl) zKr zKr zKr (ap_fieldAddr_el (off := 1) (sz := 1) (g := false) rfl rfl zRc) rfl rfl ?_
  first | refine aany2_take 7 rfl (.none rfl) zKr zKr zKr zKr (stB_out zKr) (aq_load1 rfl zUpd List.not_mem_nil rfl zRc) rfl rfl ?_ | refine aany2_take 7 rfl (.none rfl) zKr zKr zKr zKr (stB_out zKr) (aq_load_el1 rfl rfl zScal (fun _ h => absurd h List.not_mem_nil)) rfl rfl ?_ | refine aany2_take 7 rfl (.none rfl) zKr zKr zKr zKr (stB_out zKr) (aq_load_el1' rfl rfl zScal (fun _ h => absurd h List.not_mem_nil)) rfl rfl ?_ | refine aany2_take 7 rfl (.none rfl) zKr zKr zKr zKr (stB_out zKr) (aq_load_own1 rfl zUpd List.not_mem_nil rfl (by first | with_reducible assumption | assumption | rfl) zScal) rfl rfl ?_
  refine aany2_pure 8 rfl (.none rfl) zKr zKr zKr (ap_len_str rfl rfl) rfl rfl ?_
  refine aany2_pure 9 rfl (.none rfl) zKr zKr zKr (ap_arith rfl rfl rfl (by decide)) rfl rfl ?_
  first | refine aany2_pure 10 rfl (.none rfl) zKr zKr zKr (ap_nilCheck rfl) rfl rfl ?_ | refine aany2_pure 10 rfl (.none rfl) zKr zKr zKr (ap_nilCheck_el rfl) rfl rfl ?_
  first | refine aany2_pure 11 rfl (.none rfl) zKr zKr zKr (ap_fieldAddr (off := 2) (sz := 1) (g := false) rfl rfl) rfl rfl ?_ | refine aany2_pure 11 rfl (.none rfl) zKr zKr zKr (ap_fieldAddr_el (off := 2) (sz := 1) (g := false) rfl rfl zRc) rfl rfl ?_
  refine aany2_switch (Hm := [.box _ _ _]) (by kernel_rfl) (by kernel_rfl) (by repeat (first | exact .nil | exact Split.none _ | apply Split.left | apply Split.right)) ?_
  refine zOn 12 ?_
  iterate 3 refine zW ?_
  all_goals (
    iterate 3 refine zW ?_
    refine awp_unroll (awpin_sel [0] zRc zWk (awpin_step ?_))
    refine zW ?_; refine zW ?_
    refine zDr [] ?_
    refine zT 0 ?_
    refine zT 1 ?_
    refine zT 2 ?_
    refine zT 3 ?_
    refine zT 4 ?_
    refine zT 5 ?_
    refine zT 6 ?_
    refine zT 7 ?_
    refine zT 8 ?_
    refine zT 9 ?_
    refine zT 10 ?_
    refine zT 11 ?_
    refine zT 12 ?_
    refine zT 13 ?_
    refine zT 14 ?_
    refine zT 15 ?_
    refine zT 16 ?_
    refine zT 17 ?_
    refine zT 18 ?_
    refine aany_take 19 rfl zGd zKr zKr zKr (AP.ar (ap_index_str (k := 0) (c := 50) rfl rfl rfl (by decide) (by decide))) rfl rfl ?_
    refine zT 20 ?_
    refine zT 21 ?_
    refine zW ?_
    all_goals (
      refine zW ?_
      refine awp_cond_f rfl zDec ?_
      iterate 6 refine zW ?_
      refine zDr [] ?_
      refine zT 0 ?_
      refine zT 1 ?_
      refine zT 2 ?_
      refine zT 3 ?_
      refine zT 4 ?_
      refine zT 5 ?_
      refine zT 6 ?_
      refine zT 7 ?_
      refine aany_take 8 rfl zGd zKr zKr zKr (AP.ar (ap_slice_str_from (k := 0) rfl rfl rfl (by decide) (by decide))) rfl rfl ?_
      refine zT 9 ?_
      refine zW ?_
      all_goals (
        iterate 11 refine zW ?_
        refine aops_call_v zRc (hp0_con) rfl rfl ?_
        iterate 3 refine zW ?_
        refine awp_cond_f rfl zDec ?_
        iterate 5 refine zW ?_
        all_goals first | refine zW ?_ | (refine zG (fun hg => ?_) fun hg => ?_; case' _ => refine zW ?_)
        all_goals first | (refine zY ?_; refine aops_p (ap_index_str (k := 0) (c := 50) rfl rfl rfl (by decide) (by decide)) rfl rfl rfl ?_) | refine zSk ?_ | (refine zG (fun hg => ?_) fun hg => ?_; case' _ => refine aops_p (ap_index_str (k := 0) (c := 50) rfl rfl rfl (by decide) (by decide)) rfl rfl rfl ?_)
        all_goals first | (refine zY ?_; refine aops_call_v zRc (ib50_con) rfl rfl ?_) | refine zSk ?_ | (refine zG (fun hg => ?_) fun hg => ?_; case' _ => refine aops_call_v zRc (ib50_con) rfl rfl ?_)
        iterate 3 all_goals first | refine zW ?_ | (refine zG (fun hg => ?_) fun hg => ?_; case' _ => refine zW ?_)
        all_goals (
          refine zW ?_; refine zW ?_
          refine awp_cond_f rfl zDec ?_
          refine zW ?_
          refine awp_unroll (awpin_sel [0, 2, 3] zRc zWk (awpin_step ?_))
          iterate 8 refine zW ?_
          iterate 2 all_goals first | refine zW ?_ | (refine zG (fun hg => ?_) fun hg => ?_; case' _ => refine zW ?_)
          all_goals first | (refine zY ?_; refine aops_p (ap_index_str (k := 0) (c := 50) rfl rfl rfl (by decide) (by decide)) rfl rfl rfl ?_) | refine zSk ?_ | (refine zG (fun hg => ?_) fun hg => ?_; case' _ => refine aops_p (ap_index_str (k := 0) (c := 50) rfl rfl rfl (by decide) (by decide)) rfl rfl rfl ?_)
          all_goals first | (refine zY ?_; refine aops_call_v zRc (dg50_con) rfl rfl ?_) | refine zSk ?_ | (refine zG (fun hg => ?_) fun hg => ?_; case' _ => refine aops_call_v zRc (dg50_con) rfl rfl ?_)
          all_goals refine zW ?_
          all_goals (
            refine zW ?_; refine zW ?_
            refine awp_cond_t rfl zDec ?_
            iterate 5 refine zW ?_
            refine aops_p (ap_arith rfl rfl rfl (by decide)) rfl rfl rfl ?_
            iterate 3 refine zW ?_
            refine seqQ_n (awpin_sel [0, 2, 3] zRc zWk (awpin_step ?_))
            iterate 8 refine zW ?_
            iterate 2 all_goals first | refine zW ?_ | (refine zG (fun hg => ?_) fun hg => ?_; case' _ => refine zW ?_)
            all_goals first | (refine zY ?_; refine aops_p (ap_index_str (k := 1) (c := 32) rfl rfl rfl (by decide) (by decide)) rfl rfl rfl ?_) | refine zSk ?_ | (refine zG (fun hg => ?_) fun hg => ?_; case' _ => refine aops_p (ap_index_str (k := 1) (c := 32) rfl rfl rfl (by decide) (by decide)) rfl rfl rfl ?_)
            all_goals first | (refine zY ?_; refine aops_call_v zRc (dg32_con) rfl rfl ?_) | refine zSk ?_ | (refine zG (fun hg => ?_) fun hg => ?_; case' _ => refine aops_call_v zRc (dg32_con) rfl rfl ?_)
            all_goals refine zW ?_
            all_goals (
              refine zW ?_; refine zW ?_
              refine awp_cond_f rfl zDec ?_
              iterate 10 refine zW ?_
              refine aops_p (ap_slice_str_to (k := 1) rfl rfl rfl (by decide) (by decide)) rfl rfl rfl ?_
              iterate 4 refine zW ?_
              exact post_is_end .nil zKeep rfl
              )
            )
          )
        )
      )
    )
theorem next1_con (b : Nat) : Con Tryz.prog 145 [.p b 0] [.box b 166 [.v (.string tT), .v (.string (tkT 1)), .i 0]] (Is (.tup []) [.box b 166 [.v (.string tT), .v (.string (tkT 2)), .i 2]]) := by
  have hcap : capB = 140737488355328 := rfl
  refine con_intro Tryz.func145 rfl Tryz.call145 rfl ?_
  refine zW ?_
  refine awp_draw2 (stB [12]) (by kernel_rfl) ?_
  refine aany2_pure 0 rfl (.none rfl) zKr zKr zKr (ap_move rfl) rfl rfl ?_
  first | refine aany2_pure 1 rfl (.none rfl) zKr zKr zKr (ap_nilCheck rfl) rfl rfl ?_ | refine aany2_pure 1 rfl (.none rfl) zKr zKr zKr (ap_nilCheck_el rfl) rfl rfl ?_
  first | refine aany2_pure 2 rfl (.none rfl) zKr zKr zKr (ap_fieldAddr (off := 2) (sz := 1) (g := false) rfl rfl) rfl rfl ?_ | refine aany2_pure 2 rfl (.none rfl) zKr zKr zKr (ap_fieldAddr_el (off := 2) (sz := 1) (g := false) rfl rfl zRc) rfl rfl ?_
  first | refine aany2_take 3 rfl (.none rfl) zKr zKr zKr zKr (stB_out zKr) (aq_load1 rfl zUpd List.not_mem_nil rfl zRc) rfl rfl ?_ | refine aany2_take 3 rfl (.none rfl) zKr zKr zKr zKr (stB_out zKr) (aq_load_el1 rfl rfl zScal (fun _ h => absurd h List.not_mem_nil)) rfl rfl ?_ | refine aany2_take 3 rfl (.none rfl) zKr zKr zKr zKr (stB_out zKr) (aq_load_el1' rfl rfl zScal (fun _ h => absurd h List.not_mem_nil)) rfl rfl ?_ | refine aany2_take 3 rfl (.none rfl) zKr zKr zKr zKr (stB_out zKr) (aq_load_own1 rfl zUpd List.not_mem_nil rfl (by first | with_reducible assumption | assumption | rfl) zScal) rfl rfl ?_
  refine aany2_pure 4 rfl (.none rfl) zKr zKr zKr (ap_move rfl) rfl rfl ?_
  first | refine aany2_pure 5 rfl (.none rfl) zKr zKr zKr (ap_nilCheck rfl) rfl rfl ?_ | refine aany2_pure 5 rfl (.none rfl) zKr zKr zKr (ap_nilCheck_el rfl) rfl rfl ?_
  first | refine aany2_pure 6 rfl (.none rfl) zKr zKr zKr (ap_fieldAddr (off := 1) (sz := 1) (g := false) rfl rfl) rfl rfl ?_ | refine aany2_pure 6 rfl (.none rfl) zKr zKr zKr (ap_fieldAddr_el (off := 1) (sz := 1) (g := false) rfl rfl zRc) rfl rfl ?_
  first | refine aany2_take 7 rfl (.none rfl) zKr zKr zKr zKr (stB_out zKr) (aq_load1 rfl zUpd List.not_mem_nil rfl zRc) rfl rfl ?_ | refine aany2_take 7 rfl (.none rfl) zKr zKr zKr zKr (stB_out zKr) (aq_load_el1 rfl rfl zScal (fun _ h => absurd h List.not_mem_nil)) rfl rfl ?_ | refine aany2_take 7 rfl (.none rfl) zKr zKr zKr zKr (stB_out zKr) (aq_load_el1' rfl rfl zScal (fun _ h => absurd h List.not_mem_nil)) rfl rfl ?_ | refine aany2_take 7 rfl (.none rfl) zKr zKr zKr zKr (stB_out zKr) (aq_load_own1 rfl zUpd List.not_mem_nil rfl (by first | with_reducible assumption | assumption | rfl) zScal) rfl rfl ?_
  refine aany2_pure 8 rfl (.none rfl) zKr zKr zKr (ap_len_str rfl rfl) rfl rfl ?_
  refine aany2_pure 9 rfl (.none rfl) zKr zKr zKr (ap_arith rfl rfl rfl (by decide)) rfl rfl ?_
  first | refine aany2_pure 10 rfl (.none rfl) zKr zKr zKr (ap_nilCheck rfl) rfl rfl ?_ | refine aany2_pure 10 rfl (.none rfl) zKr zKr zKr (ap_nilCheck_el rfl) rfl rfl ?_
  first | refine aany2_pure 11 rfl (.none rfl) zKr zKr zKr (ap_fieldAddr (off := 2) (sz := 1) (g := false) rfl rfl) rfl rfl ?_ | refine aany2_pure 11 rfl (.none rfl) zKr zKr zKr (ap_fieldAddr_el (off := 2) (sz := 1) (g := false) rfl rfl zRc) rfl rfl ?_
  refine aany2_switch (Hm := [.box _ _ _]) (by kernel_rfl) (by kernel_rfl) (by repeat (first | exact .nil | exact Split.none _ | apply Split.left | apply Split.right)) ?_
  refine zOn 12 ?_
  iterate 3 refine zW ?_
  all_goals (
    iterate 3 refine zW ?_
    refine awp_unroll (awpin_sel [0] zRc zWk (awpin_step ?_))
    refine zW ?_; refine zW ?_
    refine zDr [] ?_
    refine zT 0 ?_
    refine zT 1 ?_
    refine zT 2 ?_
    refine zT 3 ?_
    refine zT 4 ?_
    refine zT 5 ?_
    refine zT 6 ?_
    refine zT 7 ?_
    refine zT 8 ?_
    refine zT 9 ?_
    refine zT 10 ?_
    refine zT 11 ?_
    refine zT 12 ?_
    refine zT 13 ?_
    refine zT 14 ?_
    refine zT 15 ?_
    refine zT 16 ?_
    refine zT 17 ?_
    refine zT 18 ?_
    refine aany_take 19 rfl zGd zKr zKr zKr (AP.ar (ap_index_str (k := 1) (c := 32) rfl rfl rfl (by decide) (by decide))) rfl rfl ?_
    refine zT 20 ?_
    refine zT 21 ?_
    refine zW ?_
    all_goals (
      refine zW ?_
      refine awp_cond_t rfl zDec ?_
      iterate 8 refine zW ?_
      refine aops_p (ap_arith rfl rfl rfl (by decide)) rfl rfl rfl ?_
      iterate 5 refine zW ?_
      refine seqQ_n (awpin_sel [0] zRc zWk (awpin_step ?_))
      refine zW ?_; refine zW ?_
      refine zDr [] ?_
      refine zT 0 ?_
      refine zT 1 ?_
      refine zT 2 ?_
      refine zT 3 ?_
      refine zT 4 ?_
      refine zT 5 ?_
      refine zT 6 ?_
      refine zT 7 ?_
      refine zT 8 ?_
      refine zT 9 ?_
      refine zT 10 ?_
      refine zT 11 ?_
      refine zT 12 ?_
      refine zT 13 ?_
      refine zT 14 ?_
      refine zT 15 ?_
      refine zT 16 ?_
      refine zT 17 ?_
      refine zT 18 ?_
      refine aany_take 19 rfl zGd zKr zKr zKr (AP.ar (ap_index_str (k := 2) (c := 111) rfl rfl rfl (by decide) (by decide))) rfl rfl ?_
      refine zT 20 ?_
      refine zT 21 ?_
      refine zW ?_
      all_goals (
        refine zW ?_
        refine awp_cond_f rfl zDec ?_
        iterate 6 refine zW ?_
        refine zDr [] ?_
        refine zT 0 ?_
        refine zT 1 ?_
        refine zT 2 ?_
        refine zT 3 ?_
        refine zT 4 ?_
        refine zT 5 ?_
        refine zT 6 ?_
        refine zT 7 ?_
        refine aany_take 8 rfl zGd zKr zKr zKr (AP.ar (ap_slice_str_from (k := 2) rfl rfl rfl (by decide) (by decide))) rfl rfl ?_
        refine zT 9 ?_
        refine zW ?_
        all_goals (
          iterate 11 refine zW ?_
          refine aops_call_v zRc (hp1_con) rfl rfl ?_
          iterate 3 refine zW ?_
          refine awp_cond_t rfl zDec ?_
          iterate 9 refine zW ?_
          refine aops_p (ap_slice_str_to (k := 2) rfl rfl rfl (by decide) (by decide)) rfl rfl rfl ?_
          iterate 4 refine zW ?_
          exact post_is_end .nil zKeep rfl
          )
        )
      )
    )
theorem next2_con (b : Nat) : Con Tryz.prog 145 [.p b 0] [.box b 166 [.v (.string tT), .v (.string (tkT 2)), .i 2]] (Is (.tup []) [.box b 166 [.v (.string tT), .v (.string (tkT 3)), .i 5]]) := by
  have hcap : capB = 140737488355328 := rfl
  refine con_intro Tryz.func145 rfl Tryz.call145 rfl ?_
  refine zW ?_
  refine awp_draw2 (stB [12]) (by kernel_rfl) ?_
  refine aany2_pure 0 rfl (.none rfl) zKr zKr zKr (ap_move rfl) rfl rfl ?_
  first | refine aany2_pure 1 rfl (.none rfl) zKr zKr zKr (ap_nilCheck rfl) rfl rfl ?_ | refine aany2_pure 1 rfl (.none rfl) zKr zKr zKr (ap_nilCheck_el rfl) rfl rfl ?_
  first | refine aany2_pure 2 rfl (.none rfl) zKr zKr zKr (ap_fieldAddr (off := 2) (sz := 1) (g := false) rfl rfl) rfl rfl ?_ | refine aany2_pure 2 rfl (.none rfl) zKr zKr zKr (ap_fieldAddr_el (off := 2) (sz := 1) (g := false) rfl rfl zRc) rfl rfl ?_
  first | refine aany2_take 3 rfl (.none rfl) zKr zKr zKr zKr (stB_out zKr) (aq_load1 rfl zUpd List.not_mem_nil rfl zRc) rfl rfl ?_ | refine aany2_take 3 rfl (.none rfl) zKr zKr zKr zKr (stB_out zKr) (aq_load_el1 rfl rfl zScal (fun _ h => absurd h List.not_mem_nil)) rfl rfl ?_ | refine aany2_take 3 rfl (.none rfl) zKr zKr zKr zKr (stB_out zKr) (aq_load_el1' rfl rfl zScal (fun _ h => absurd h List.not_mem_nil)) rfl rfl ?_ | refine aany2_take 3 rfl (.none rfl) zKr zKr zKr zKr (stB_out zKr) (aq_load_own1 rfl zUpd List.not_mem_nil rfl (by first | with_reducible assumption | assumption | rfl) zScal) rfl rfl ?_
  refine aany2_pure 4 rfl (.none rfl) zKr zKr zKr (ap_move rfl) rfl rfl ?_
  first | refine aany2_pure 5 rfl (.none rfl) zKr zKr zKr (ap_nilCheck rfl) rfl rfl ?_ | refine aany2_pure 5 rfl (.none rfl) zKr zKr zKr (ap_nilCheck_el rfl) rfl rfl ?_
  first | refine aany2_pure 6 rfl (.none rfl) zKr zKr zKr (ap_fieldAddr (off := 1) (sz := 1) (g := false) rfl rfl) rfl rfl ?_ | refine aany2_pure 6 rfl (.none rfl) zKr zKr zKr (ap_fieldAddr_el (off := 1) (sz := 1) (g := false) rfl rfl zRc) rfl rfl ?_
  first | refine aany2_take 7 rfl (.none rfl) zKr zKr zKr zKr (stB_out zKr) (aq_load1 rfl zUpd List.not_mem_nil rfl zRc) rfl rfl ?_ | refine aany2_take 7 rfl (.none rfl) zKr zKr zKr zKr (stB_out zKr) (aq_load_el1 rfl rfl zScal (fun _ h => absurd h List.not_mem_nil)) rfl rfl ?_ | refine aany2_take 7 rfl (.none rfl) zKr zKr zKr zKr (stB_out zKr) (aq_load_el1' rfl rfl zScal (fun _ h => absurd h List.not_mem_nil)) rfl rfl ?_ | refine aany2_take 7 rfl (.none rfl) zKr zKr zKr zKr (stB_out zKr) (aq_load_own1 rfl zUpd List.not_mem_nil rfl (by first | with_reducible assumption | assumption | rfl) zScal) rfl rfl ?_
  refine aany2_pure 8 rfl (.none rfl) zKr zKr zKr (ap_len_str rfl rfl) rfl rfl ?_
  refine aany2_pure 9 rfl (.none rfl) zKr zKr zKr (ap_arith rfl rfl rfl (by decide)) rfl rfl ?_
  first | refine aany2_pure 10 rfl (.none rfl) zKr zKr zKr (ap_nilCheck rfl) rfl rfl ?_ | refine aany2_pure 10 rfl (.none rfl) zKr zKr zKr (ap_nilCheck_el rfl) rfl rfl ?_
  first | refine aany2_pure 11 rfl (.none rfl) zKr zKr zKr (ap_fieldAddr (off := 2) (sz := 1) (g := false) rfl rfl) rfl rfl ?_ | refine aany2_pure 11 rfl (.none rfl) zKr zKr zKr (ap_fieldAddr_el (off := 2) (sz := 1) (g := false) rfl rfl zRc) rfl rfl ?_
  refine aany2_switch (Hm := [.box _ _ _]) (by kernel_rfl) (by kernel_rfl) (by repeat (first | exact .nil | exact Split.none _ | apply Split.left | apply Split.right)) ?_
  refine zOn 12 ?_
  iterate 3 refine zW ?_
  all_goals (
    iterate 3 refine zW ?_
    refine awp_unroll (awpin_sel [0] zRc zWk (awpin_step ?_))
    refine zW ?_; refine zW ?_
    refine zDr [] ?_
    refine zT 0 ?_
    refine zT 1 ?_
    refine zT 2 ?_
    refine zT 3 ?_
    refine zT 4 ?_
    refine zT 5 ?_
    refine zT 6 ?_
    refine zT 7 ?_
    refine zT 8 ?_
    refine zT 9 ?_
    refine zT 10 ?_
    refine zT 11 ?_
    refine zT 12 ?_
    refine zT 13 ?_
    refine zT 14 ?_
    refine zT 15 ?_
    refine zT 16 ?_
    refine zT 17 ?_
    refine zT 18 ?_
    refine aany_take 19 rfl zGd zKr zKr zKr (AP.ar (ap_index_str (k := 4) (c := 32) rfl rfl rfl (by decide) (by decide))) rfl rfl ?_
    refine zT 20 ?_
    refine zT 21 ?_
    refine zW ?_
    all_goals (
      refine zW ?_
      refine awp_cond_t rfl zDec ?_
      iterate 8 refine zW ?_
      refine aops_p (ap_arith rfl rfl rfl (by decide)) rfl rfl rfl ?_
      iterate 5 refine zW ?_
      refine seqQ_n (awpin_sel [0] zRc zWk (awpin_step ?_))
      refine zW ?_; refine zW ?_
      refine zDr [] ?_
      refine zT 0 ?_
      refine zT 1 ?_
      refine zT 2 ?_
      refine zT 3 ?_
      refine zT 4 ?_
      refine zT 5 ?_
      refine zT 6 ?_
      refine zT 7 ?_
      refine zT 8 ?_
      refine zT 9 ?_
      refine zT 10 ?_
      refine zT 11 ?_
      refine zT 12 ?_
      refine zT 13 ?_
      refine zT 14 ?_
      refine zT 15 ?_
      refine zT 16 ?_
      refine zT 17 ?_
      refine zT 18 ?_
      refine aany_take 19 rfl zGd zKr zKr zKr (AP.ar (ap_index_str (k := 5) (c := 40) rfl rfl rfl (by decide) (by decide))) rfl rfl ?_
      refine zT 20 ?_
      refine zT 21 ?_
      refine zW ?_
      all_goals (
        refine zW ?_
        refine awp_cond_f rfl zDec ?_
        iterate 6 refine zW ?_
        refine zDr [] ?_
        refine zT 0 ?_
        refine zT 1 ?_
        refine zT 2 ?_
        refine zT 3 ?_
        refine zT 4 ?_
        refine zT 5 ?_
        refine zT 6 ?_
        refine zT 7 ?_
        refine aany_take 8 rfl zGd zKr zKr zKr (AP.ar (ap_slice_str_from (k := 5) rfl rfl rfl (by decide) (by decide))) rfl rfl ?_
        refine zT 9 ?_
        refine zW ?_
        all_goals (
          iterate 11 refine zW ?_
          refine aops_call_v zRc (hp2_con) rfl rfl ?_
          iterate 3 refine zW ?_
          refine awp_cond_f rfl zDec ?_
          iterate 5 refine zW ?_
          all_goals first | refine zW ?_ | (refine zG (fun hg => ?_) fun hg => ?_; case' _ => refine zW ?_)
          all_goals first | (refine zY ?_; refine aops_p (ap_index_str (k := 0) (c := 40) rfl rfl rfl (by decide) (by decide)) rfl rfl rfl ?_) | refine zSk ?_ | (refine zG (fun hg => ?_) fun hg => ?_; case' _ => refine aops_p (ap_index_str (k := 0) (c := 40) rfl rfl rfl (by decide) (by decide)) rfl rfl rfl ?_)
          all_goals first | (refine zY ?_; refine aops_call_v zRc (ib40_con) rfl rfl ?_) | refine zSk ?_ | (refine zG (fun hg => ?_) fun hg => ?_; case' _ => refine aops_call_v zRc (ib40_con) rfl rfl ?_)
          iterate 3 all_goals first | refine zW ?_ | (refine zG (fun hg => ?_) fun hg => ?_; case' _ => refine zW ?_)
          all_goals (
            refine zW ?_; refine zW ?_
            refine awp_cond_t rfl zDec ?_
            iterate 9 refine zW ?_
            refine aops_p (ap_slice_str_to (k := 1) rfl rfl rfl (by decide) (by decide)) rfl rfl rfl ?_
            iterate 4 refine zW ?_
            exact post_is_end .nil zKeep rfl
            )
          )
        )
      )
    )
theorem next3_con (b : Nat) : Con Tryz.prog 145 [.p b 0] [.box b 166 [.v (.string tT), .v (.string (tkT 3)), .i 5]] (Is (.tup []) [.box b 166 [.v (.string tT), .v (.string (tkT 4)), .i 6]]) := by
  have hcap : capB = 140737488355328 := rfl
  refine con_intro Tryz.func145 rfl Tryz.call145 rfl ?_
  refine zW ?_
  refine awp_draw2 (stB [12]) (by kernel_rfl) ?_
  refine aany2_pure 0 rfl (.none rfl) zKr zKr zKr (ap_move rfl) rfl rfl ?_
  first | refine aany2_pure 1 rfl (.none rfl) zKr zKr zKr (ap_nilCheck rfl) rfl rfl ?_ | refine aany2_pure 1 rfl (.none rfl) zKr zKr zKr (ap_nilCheck_el rfl) rfl rfl ?_
  first | refine aany2_pure 2 rfl (.none rfl) zKr zKr zKr (ap_fieldAddr (off := 2) (sz := 1) (g := false) rfl rfl) rfl rfl ?_ | refine aany2_pure 2 rfl (.none rfl) zKr zKr zKr (ap_fieldAddr_el (off := 2) (sz := 1) (g := false) rfl rfl zRc) rfl rfl ?_
  first | refine aany2_take 3 rfl (.none rfl) zKr zKr zKr zKr (stB_out zKr) (aq_load1 rfl zUpd List.not_mem_nil rfl zRc) rfl rfl ?_ | refine aany2_take 3 rfl (.none rfl) zKr zKr zKr zKr (stB_out zKr) (aq_load_el1 rfl rfl zScal (fun _ h => absurd h List.not_mem_nil)) rfl rfl ?_ | refine aany2_take 3 rfl (.none rfl) zKr zKr zKr zKr (stB_out zKr) (aq_load_el1' rfl rfl zScal (fun _ h => absurd h List.not_mem_nil)) rfl rfl ?_ | refine aany2_take 3 rfl (.none rfl) zKr zKr zKr zKr (stB_out zKr) (aq_load_own1 rfl zUpd List.not_mem_nil rfl (by first | with_reducible assumption | assumption | rfl) zScal) rfl rfl ?_
  refine aany2_pure 4 rfl (.none rfl) zKr zKr zKr (ap_move rfl) rfl rfl ?_
  first | refine aany2_pure 5 rfl (.none rfl) zKr zKr zKr (ap_nilCheck rfl) rfl rfl ?_ | refine aany2_pure 5 rfl (.none rfl) zKr zKr zKr (ap_nilCheck_el rfl) rfl rfl ?_
  first | refine aany2_pure 6 rfl (.none rfl) zKr zKr zKr (ap_fieldAddr (off := 1) (sz := 1) (g := false) rfl rfl) rfl rfl ?_ | refine aany2_pure 6 rfl (.none rfl) zKr zKr zKr (ap_fieldAddr_el (off := 1) (sz := 1) (g := false) rfl rfl zRc) rfl rfl ?_
  first | refine aany2_take 7 rfl (.none rfl) zKr zKr zKr zKr (stB_out zKr) (aq_load1 rfl zUpd List.not_mem_nil rfl zRc) rfl rfl ?_ | refine aany2_take 7 rfl (.none rfl) zKr zKr zKr zKr (stB_out zKr) (aq_load_el1 rfl rfl zScal (fun _ h => absurd h List.not_mem_nil)) rfl rfl ?_ | refine aany2_take 7 rfl (.none rfl) zKr zKr zKr zKr (stB_out zKr) (aq_load_el1' rfl rfl zScal (fun _ h => absurd h List.not_mem_nil)) rfl rfl ?_ | refine aany2_take 7 rfl (.none rfl) zKr zKr zKr zKr (stB_out zKr) (aq_load_own1 rfl zUpd List.not_mem_nil rfl (by first | with_reducible assumption | assumption | rfl) zScal) rfl rfl ?_
  refine aany2_pure 8 rfl (.none rfl) zKr zKr zKr (ap_len_str rfl rfl) rfl rfl ?_
  refine aany2_pure 9 rfl (.none rfl) zKr zKr zKr (ap_arith rfl rfl rfl (by decide)) rfl rfl ?_
  first | refine aany2_pure 10 rfl (.none rfl) zKr zKr zKr (ap_nilCheck rfl) rfl rfl ?_ | refine aany2_pure 10 rfl (.none rfl) zKr zKr zKr (ap_nilCheck_el rfl) rfl rfl ?_
  first | refine aany2_pure 11 rfl (.none rfl) zKr zKr zKr (ap_fieldAddr (off := 2) (sz := 1) (g := false) rfl rfl) rfl rfl ?_ | refine aany2_pure 11 rfl (.none rfl) zKr zKr zKr (ap_fieldAddr_el (off := 2) (sz := 1) (g := false) rfl rfl zRc) rfl rfl ?_
  refine aany2_switch (Hm := [.box _ _ _]) (by kernel_rfl) (by kernel_rfl) (by repeat (first | exact .nil | exact Split.none _ | apply Split.left | apply Split.right)) ?_
  refine zOn 12 ?_
  iterate 3 refine zW ?_
  all_goals (
    iterate 3 refine zW ?_
    refine awp_unroll (awpin_sel [0] zRc zWk (awpin_step ?_))
    refine zW ?_; refine zW ?_
    refine zDr [] ?_
    refine zT 0 ?_
    refine zT 1 ?_
    refine zT 2 ?_
    refine zT 3 ?_
    refine zT 4 ?_
    refine zT 5 ?_
    refine zT 6 ?_
    refine zT 7 ?_
    refine zT 8 ?_
    refine zT 9 ?_
    refine zT 10 ?_
    refine zT 11 ?_
    refine zT 12 ?_
    refine zT 13 ?_
    refine zT 14 ?_
    refine zT 15 ?_
    refine zT 16 ?_
    refine zT 17 ?_
    refine zT 18 ?_
    refine aany_take 19 rfl zGd zKr zKr zKr (AP.ar (ap_index_str (k := 6) (c := 48) rfl rfl rfl (by decide) (by decide))) rfl rfl ?_
    refine zT 20 ?_
    refine zT 21 ?_
    refine zW ?_
    all_goals (
      refine zW ?_
      refine awp_cond_f rfl zDec ?_
      iterate 6 refine zW ?_
      refine zDr [] ?_
      refine zT 0 ?_
      refine zT 1 ?_
      refine zT 2 ?_
      refine zT 3 ?_
      refine zT 4 ?_
      refine zT 5 ?_
      refine zT 6 ?_
      refine zT 7 ?_
      refine aany_take 8 rfl zGd zKr zKr zKr (AP.ar (ap_slice_str_from (k := 6) rfl rfl rfl (by decide) (by decide))) rfl rfl ?_
      refine zT 9 ?_
      refine zW ?_
      all_goals (
        iterate 11 refine zW ?_
        refine aops_call_v zRc (hp3_con) rfl rfl ?_
        iterate 3 refine zW ?_
        refine awp_cond_f rfl zDec ?_
        iterate 5 refine zW ?_
        all_goals first | refine zW ?_ | (refine zG (fun hg => ?_) fun hg => ?_; case' _ => refine zW ?_)
        all_goals first | (refine zY ?_; refine aops_p (ap_index_str (k := 0) (c := 48) rfl rfl rfl (by decide) (by decide)) rfl rfl rfl ?_) | refine zSk ?_ | (refine zG (fun hg => ?_) fun hg => ?_; case' _ => refine aops_p (ap_index_str (k := 0) (c := 48) rfl rfl rfl (by decide) (by decide)) rfl rfl rfl ?_)
        all_goals first | (refine zY ?_; refine aops_call_v zRc (ib48_con) rfl rfl ?_) | refine zSk ?_ | (refine zG (fun hg => ?_) fun hg => ?_; case' _ => refine aops_call_v zRc (ib48_con) rfl rfl ?_)
        iterate 3 all_goals first | refine zW ?_ | (refine zG (fun hg => ?_) fun hg => ?_; case' _ => refine zW ?_)
        all_goals (
          refine zW ?_; refine zW ?_
          refine awp_cond_f rfl zDec ?_
          refine zW ?_
          refine awp_unroll (awpin_sel [0, 2, 3] zRc zWk (awpin_step ?_))
          iterate 8 refine zW ?_
          iterate 2 all_goals first | refine zW ?_ | (refine zG (fun hg => ?_) fun hg => ?_; case' _ => refine zW ?_)
          all_goals first | (refine zY ?_; refine aops_p (ap_index_str (k := 0) (c := 48) rfl rfl rfl (by decide) (by decide)) rfl rfl rfl ?_) | refine zSk ?_ | (refine zG (fun hg => ?_) fun hg => ?_; case' _ => refine aops_p (ap_index_str (k := 0) (c := 48) rfl rfl rfl (by decide) (by decide)) rfl rfl rfl ?_)
          all_goals first | (refine zY ?_; refine aops_call_v zRc (dg48_con) rfl rfl ?_) | refine zSk ?_ | (refine zG (fun hg => ?_) fun hg => ?_; case' _ => refine aops_call_v zRc (dg48_con) rfl rfl ?_)
          all_goals refine zW ?_
          all_goals (
            refine zW ?_; refine zW ?_
            refine awp_cond_t rfl zDec ?_
            iterate 5 refine zW ?_
            refine aops_p (ap_arith rfl rfl rfl (by decide)) rfl rfl rfl ?_
            iterate 3 refine zW ?_
            refine seqQ_n (awpin_sel [0, 2, 3] zRc zWk (awpin_step ?_))
            iterate 8 refine zW ?_
            iterate 2 all_goals first | refine zW ?_ | (refine zG (fun hg => ?_) fun hg => ?_; case' _ => refine zW ?_)
            all_goals first | (refine zY ?_; refine aops_p (ap_index_str (k := 1) (c := 44) rfl rfl rfl (by decide) (by decide)) rfl rfl rfl ?_) | refine zSk ?_ | (refine zG (fun hg => ?_) fun hg => ?_; case' _ => refine aops_p (ap_index_str (k := 1) (c := 44) rfl rfl rfl (by decide) (by decide)) rfl rfl rfl ?_)
            all_goals first | (refine zY ?_; refine aops_call_v zRc (dg44_con) rfl rfl ?_) | refine zSk ?_ | (refine zG (fun hg => ?_) fun hg => ?_; case' _ => refine aops_call_v zRc (dg44_con) rfl rfl ?_)
            all_goals refine zW ?_
            all_goals (
              refine zW ?_; refine zW ?_
              refine awp_cond_f rfl zDec ?_
              iterate 10 refine zW ?_
              refine aops_p (ap_slice_str_to (k := 1) rfl rfl rfl (by decide) (by decide)) rfl rfl rfl ?_
              iterate 4 refine zW ?_
              exact post_is_end .nil zKeep rfl
              )
            )
          )
        )
      )
    )
theorem next4_con (b : Nat) : Con Tryz.prog 145 [.p b 0] [.box b 166 [.v (.string tT), .v (.string (tkT 4)), .i 6]] (Is (.tup []) [.box b 166 [.v (.string tT), .v (.string (tkT 5)), .i 7]]) := by
  have hcap : capB = 140737488355328 := rfl
  refine con_intro Tryz.func145 rfl Tryz.call145 rfl ?_
  refine zW ?_
  refine awp_draw2 (stB [12]) (by kernel_rfl) ?_
  refine aany2_pure 0 rfl (.none rfl) zKr zKr zKr (ap_move rfl) rfl rfl ?_
  first | refine aany2_pure 1 rfl (.none rfl) zKr zKr zKr (ap_nilCheck rfl) rfl rfl ?_ | refine aany2_pure 1 rfl (.none rfl) zKr zKr zKr (ap_nilCheck_el rfl) rfl rfl ?_
  first | refine aany2_pure 2 rfl (.none rfl) zKr zKr zKr (ap_fieldAddr (off := 2) (sz := 1) (g := false) rfl rfl) rfl rfl ?_ | refine aany2_pure 2 rfl (.none rfl) zKr zKr zKr (ap_fieldAddr_el (off := 2) (sz := 1) (g := false) rfl rfl zRc) rfl rfl ?_
  first | refine aany2_take 3 rfl (.none rfl) zKr zKr zKr zKr (stB_out zKr) (aq_load1 rfl zUpd List.not_mem_nil rfl zRc) rfl rfl ?_ | refine aany2_take 3 rfl (.none rfl) zKr zKr zKr zKr (stB_out zKr) (aq_load_el1 rfl rfl zScal (fun _ h => absurd h List.not_mem_nil)) rfl rfl ?_ | refine aany2_take 3 rfl (.none rfl) zKr zKr zKr zKr (stB_out zKr) (aq_load_el1' rfl rfl zScal (fun _ h => absurd h List.not_mem_nil)) rfl rfl ?_ | refine aany2_take 3 rfl (.none rfl) zKr zKr zKr zKr (stB_out zKr) (aq_load_own1 rfl zUpd List.not_mem_nil rfl (by first | with_reducible assumption | assumption | rfl) zScal) rfl rfl ?_
  refine aany2_pure 4 rfl (.none rfl) zKr zKr zKr (ap_move rfl) rfl rfl ?_
  first | refine aany2_pure 5 rfl (.none rfl) zKr zKr zKr (ap_nilCheck rfl) rfl rfl ?_ | refine aany2_pure 5 rfl (.none rfl) zKr zKr zKr (ap_nilCheck_el rfl) rfl rfl ?_
  first | refine aany2_pure 6 rfl (.none rfl) zKr zKr zKr (ap_fieldAddr (off := 1) (sz := 1) (g := false) rfl rfl) rfl rfl ?_ | refine aany2_pure 6 rfl (.none rfl) zKr zKr zKr (ap_fieldAddr_el (off := 1) (sz := 1) (g := false) rfl rfl zRc) rfl rfl ?_
  first | refine aany2_take 7 rfl (.none rfl) zKr zKr zKr zKr (stB_out zKr) (aq_load1 rfl zUpd List.not_mem_nil rfl zRc) rfl rfl ?_ | refine aany2_take 7 rfl (.none rfl) zKr zKr zKr zKr (stB_out zKr) (aq_load_el1 rfl rfl zScal (fun _ h => absurd h List.not_mem_nil)) rfl rfl ?_ | refine aany2_take 7 rfl (.none rfl) zKr zKr zKr zKr (stB_out zKr) (aq_load_el1' rfl rfl zScal (fun _ h => absurd h List.not_mem_nil)) rfl rfl ?_ | refine aany2_take 7 rfl (.none rfl) zKr zKr zKr zKr (stB_out zKr) (aq_load_own1 rfl zUpd List.not_mem_nil rfl (by first | with_reducible assumption | assumption | rfl) zScal) rfl rfl ?_
  refine aany2_pure 8 rfl (.none rfl) zKr zKr zKr (ap_len_str rfl rfl) rfl rfl ?_
  refine aany2_pure 9 rfl (.none rfl) zKr zKr zKr (ap_arith rfl rfl rfl (by decide)) rfl rfl ?_
  first | refine aany2_pure 10 rfl (.none rfl) zKr zKr zKr (ap_nilCheck rfl) rfl rfl ?_ | refine aany2_pure 10 rfl (.none rfl) zKr zKr zKr (ap_nilCheck_el rfl) rfl rfl ?_
  first | refine aany2_pure 11 rfl (.none rfl) zKr zKr zKr (ap_fieldAddr (off := 2) (sz := 1) (g := false) rfl rfl) rfl rfl ?_ | refine aany2_pure 11 rfl (.none rfl) zKr zKr zKr (ap_fieldAddr_el (off := 2) (sz := 1) (g := false) rfl rfl zRc) rfl rfl ?_
  refine aany2_switch (Hm := [.box _ _ _]) (by kernel_rfl) (by kernel_rfl) (by repeat (first | exact .nil | exact Split.none _ | apply Split.left | apply Split.right)) ?_
  refine zOn 12 ?_
  iterate 3 refine zW ?_
  all_goals (
    iterate 3 refine zW ?_
    refine awp_unroll (awpin_sel [0] zRc zWk (awpin_step ?_))
    refine zW ?_; refine zW ?_
    refine zDr [] ?_
    refine zT 0 ?_
    refine zT 1 ?_
    refine zT 2 ?_
    refine zT 3 ?_
    refine zT 4 ?_
    refine zT 5 ?_
    refine zT 6 ?_
    refine zT 7 ?_
    refine zT 8 ?_
    refine zT 9 ?_
    refine zT 10 ?_
    refine zT 11 ?_
    refine zT 12 ?_
    refine zT 13 ?_
    refine zT 14 ?_
    refine zT 15 ?_
    refine zT 16 ?_
    refine zT 17 ?_
    refine zT 18 ?_
    refine aany_take 19 rfl zGd zKr zKr zKr (AP.ar (ap_index_str (k := 7) (c := 44) rfl rfl rfl (by decide) (by decide))) rfl rfl ?_
    refine zT 20 ?_
    refine zT 21 ?_
    refine zW ?_
    all_goals (
      refine zW ?_
      refine awp_cond_f rfl zDec ?_
      iterate 6 refine zW ?_
      refine zDr [] ?_
      refine zT 0 ?_
      refine zT 1 ?_
      refine zT 2 ?_
      refine zT 3 ?_
      refine zT 4 ?_
      refine zT 5 ?_
      refine zT 6 ?_
      refine zT 7 ?_
      refine aany_take 8 rfl zGd zKr zKr zKr (AP.ar (ap_slice_str_from (k := 7) rfl rfl rfl (by decide) (by decide))) rfl rfl ?_
      refine zT 9 ?_
      refine zW ?_
      all_goals (
        iterate 11 refine zW ?_
        refine aops_call_v zRc (hp4_con) rfl rfl ?_
        iterate 3 refine zW ?_
        refine awp_cond_f rfl zDec ?_
        iterate 5 refine zW ?_
        all_goals first | refine zW ?_ | (refine zG (fun hg => ?_) fun hg => ?_; case' _ => refine zW ?_)
        all_goals first | (refine zY ?_; refine aops_p (ap_index_str (k := 0) (c := 44) rfl rfl rfl (by decide) (by decide)) rfl rfl rfl ?_) | refine zSk ?_ | (refine zG (fun hg => ?_) fun hg => ?_; case' _ => refine aops_p (ap_index_str (k := 0) (c := 44) rfl rfl rfl (by decide) (by decide)) rfl rfl rfl ?_)
        all_goals first | (refine zY ?_; refine aops_call_v zRc (ib44_con) rfl rfl ?_) | refine zSk ?_ | (refine zG (fun hg => ?_) fun hg => ?_; case' _ => refine aops_call_v zRc (ib44_con) rfl rfl ?_)
        iterate 3 all_goals first | refine zW ?_ | (refine zG (fun hg => ?_) fun hg => ?_; case' _ => refine zW ?_)
        all_goals (
          refine zW ?_; refine zW ?_
          refine awp_cond_t rfl zDec ?_
          iterate 9 refine zW ?_
          refine aops_p (ap_slice_str_to (k := 1) rfl rfl rfl (by decide) (by decide)) rfl rfl rfl ?_
          iterate 4 refine zW ?_
          exact post_is_end .nil zKeep rfl
          )
        )
      )
    )
theorem next5_con (b : Nat) : Con Tryz.prog 145 [.p b 0] [.box b 166 [.v (.string tT), .v (.string (tkT 5)), .i 7]] (Is (.tup []) [.box b 166 [.v (.string tT), .v (.string (tkT 6)), .i 9]]) := by
  have hcap : capB = 140737488355328 := rfl
  refine con_intro Tryz.func145 rfl Tryz.call145 rfl ?_
  refine zW ?_
  refine awp_draw2 (stB [12]) (by kernel_rfl) ?_
  refine aany2_pure 0 rfl (.none rfl) zKr zKr zKr (ap_move rfl) rfl rfl ?_
  first | refine aany2_pure 1 rfl (.none rfl) zKr zKr zKr (ap_nilCheck rfl) rfl rfl ?_ | refine aany2_pure 1 rfl (.none rfl) zKr zKr zKr (ap_nilCheck_el rfl) rfl rfl ?_
  first | refine aany2_pure 2 rfl (.none rfl) zKr zKr zKr (ap_fieldAddr (off := 2) (sz := 1) (g := false) rfl rfl) rfl rfl ?_ | refine aany2_pure 2 rfl (.none rfl) zKr zKr zKr (ap_fieldAddr_el (off := 2) (sz := 1) (g := false) rfl rfl zRc) rfl rfl ?_
  first | refine aany2_take 3 rfl (.none rfl) zKr zKr zKr zKr (stB_out zKr) (aq_load1 rfl zUpd List.not_mem_nil rfl zRc) rfl rfl ?_ | refine aany2_take 3 rfl (.none rfl) zKr zKr zKr zKr (stB_out zKr) (aq_load_el1 rfl rfl zScal (fun _ h => absurd h List.not_mem_nil)) rfl rfl ?_ | refine aany2_take 3 rfl (.none rfl) zKr zKr zKr zKr (stB_out zKr) (aq_load_el1' rfl rfl zScal (fun _ h => absurd h List.not_mem_nil)) rfl rfl ?_ | refine aany2_take 3 rfl (.none rfl) zKr zKr zKr zKr (stB_out zKr) (aq_load_own1 rfl zUpd List.not_mem_nil rfl (by first | with_reducible assumption | assumption | rfl) zScal) rfl rfl ?_
  refine aany2_pure 4 rfl (.none rfl) zKr zKr zKr (ap_move rfl) rfl rfl ?_
  first | refine aany2_pure 5 rfl (.none rfl) zKr zKr zKr (ap_nilCheck rfl) rfl rfl ?_ | refine aany2_pure 5 rfl (.none rfl) zKr zKr zKr (ap_nilCheck_el rfl) rfl rfl ?_
  first | refine aany2_pure 6 rfl (.none rfl) zKr zKr zKr (ap_fieldAddr (off := 1) (sz := 1) (g := false) rfl rfl) rfl rfl ?_ | refine aany2_pure 6 rfl (.none rfl) zKr zKr zKr (ap_fieldAddr_el (off := 1) (sz := 1) (g := false) rfl rfl zRc) rfl rfl ?_
  first | refine aany2_take 7 rfl (.none rfl) zKr zKr zKr zKr (stB_out zKr) (aq_load1 rfl zUpd List.not_mem_nil rfl zRc) rfl rfl ?_ | refine aany2_take 7 rfl (.none rfl) zKr zKr zKr zKr (stB_out zKr) (aq_load_el1 rfl rfl zScal (fun _ h => absurd h List.not_mem_nil)) rfl rfl ?_ | refine aany2_take 7 rfl (.none rfl) zKr zKr zKr zKr (stB_out zKr) (aq_load_el1' rfl rfl zScal (fun _ h => absurd h List.not_mem_nil)) rfl rfl ?_ | refine aany2_take 7 rfl (.none rfl) zKr zKr zKr zKr (stB_out zKr) (aq_load_own1 rfl zUpd List.not_mem_nil rfl (by first | with_reducible assumption | assumption | rfl) zScal) rfl rfl ?_
  refine aany2_pure 8 rfl (.none rfl) zKr zKr zKr (ap_len_str rfl rfl) rfl rfl ?_
  refine aany2_pure 9 rfl (.none rfl) zKr zKr zKr (ap_arith rfl rfl rfl (by decide)) rfl rfl ?_
  first | refine aany2_pure 10 rfl (.none rfl) zKr zKr zKr (ap_nilCheck rfl) rfl rfl ?_ | refine aany2_pure 10 rfl (.none rfl) zKr zKr zKr (ap_nilCheck_el rfl) rfl rfl ?_
  first | refine aany2_pure 11 rfl (.none rfl) zKr zKr zKr (ap_fieldAddr (off := 2) (sz := 1) (g := false) rfl rfl) rfl rfl ?_ | refine aany2_pure 11 rfl (.none rfl) zKr zKr zKr (ap_fieldAddr_el (off := 2) (sz := 1) (g := false) rfl rfl zRc) rfl rfl ?_
  refine aany2_switch (Hm := [.box _ _ _]) (by kernel_rfl) (by kernel_rfl) (by repeat (first | exact .nil | exact Split.none _ | apply Split.left | apply Split.right)) ?_
  refine zOn 12 ?_
  iterate 3 refine zW ?_
  all_goals (
    iterate 3 refine zW ?_
    refine awp_unroll (awpin_sel [0] zRc zWk (awpin_step ?_))
    refine zW ?_; refine zW ?_
    refine zDr [] ?_
    refine zT 0 ?_
    refine zT 1 ?_
    refine zT 2 ?_
    refine zT 3 ?_
    refine zT 4 ?_
    refine zT 5 ?_
    refine zT 6 ?_
    refine zT 7 ?_
    refine zT 8 ?_
    refine zT 9 ?_
    refine zT 10 ?_
    refine zT 11 ?_
    refine zT 12 ?_
    refine zT 13 ?_
    refine zT 14 ?_
    refine zT 15 ?_
    refine zT 16 ?_
    refine zT 17 ?_
    refine zT 18 ?_
    refine aany_take 19 rfl zGd zKr zKr zKr (AP.ar (ap_index_str (k := 8) (c := 32) rfl rfl rfl (by decide) (by decide))) rfl rfl ?_
    refine zT 20 ?_
    refine zT 21 ?_
    refine zW ?_
    all_goals (
      refine zW ?_
      refine awp_cond_t rfl zDec ?_
      iterate 8 refine zW ?_
      refine aops_p (ap_arith rfl rfl rfl (by decide)) rfl rfl rfl ?_
      iterate 5 refine zW ?_
      refine seqQ_n (awpin_sel [0] zRc zWk (awpin_step ?_))
      refine zW ?_; refine zW ?_
      refine zDr [] ?_
      refine zT 0 ?_
      refine zT 1 ?_
      refine zT 2 ?_
      refine zT 3 ?_
      refine zT 4 ?_
      refine zT 5 ?_
      refine zT 6 ?_
      refine zT 7 ?_
      refine zT 8 ?_
      refine zT 9 ?_
      refine zT 10 ?_
      refine zT 11 ?_
      refine zT 12 ?_
      refine zT 13 ?_
      refine zT 14 ?_
      refine zT 15 ?_
      refine zT 16 ?_
      refine zT 17 ?_
      refine zT 18 ?_
      refine aany_take 19 rfl zGd zKr zKr zKr (AP.ar (ap_index_str (k := 9) (c := 49) rfl rfl rfl (by decide) (by decide))) rfl rfl ?_
      refine zT 20 ?_
      refine zT 21 ?_
      refine zW ?_
      all_goals (
        refine zW ?_
        refine awp_cond_f rfl zDec ?_
        iterate 6 refine zW ?_
        refine zDr [] ?_
        refine zT 0 ?_
        refine zT 1 ?_
        refine zT 2 ?_
        refine zT 3 ?_
        refine zT 4 ?_
        refine zT 5 ?_
        refine zT 6 ?_
        refine zT 7 ?_
        refine aany_take 8 rfl zGd zKr zKr zKr (AP.ar (ap_slice_str_from (k := 9) rfl rfl rfl (by decide) (by decide))) rfl rfl ?_
        refine zT 9 ?_
        refine zW ?_
        all_goals (
          iterate 11 refine zW ?_
          refine aops_call_v zRc (hp5_con) rfl rfl ?_
          iterate 3 refine zW ?_
          refine awp_cond_f rfl zDec ?_
          iterate 5 refine zW ?_
          all_goals first | refine zW ?_ | (refine zG (fun hg => ?_) fun hg => ?_; case' _ => refine zW ?_)
          all_goals first | (refine zY ?_; refine aops_p (ap_index_str (k := 0) (c := 49) rfl rfl rfl (by decide) (by decide)) rfl rfl rfl ?_) | refine zSk ?_ | (refine zG (fun hg => ?_) fun hg => ?_; case' _ => refine aops_p (ap_index_str (k := 0) (c := 49) rfl rfl rfl (by decide) (by decide)) rfl rfl rfl ?_)
          all_goals first | (refine zY ?_; refine aops_call_v zRc (ib49_con) rfl rfl ?_) | refine zSk ?_ | (refine zG (fun hg => ?_) fun hg => ?_; case' _ => refine aops_call_v zRc (ib49_con) rfl rfl ?_)
          iterate 3 all_goals first | refine zW ?_ | (refine zG (fun hg => ?_) fun hg => ?_; case' _ => refine zW ?_)
          all_goals (
            refine zW ?_; refine zW ?_
            refine awp_cond_f rfl zDec ?_
            refine zW ?_
            refine awp_unroll (awpin_sel [0, 2, 3] zRc zWk (awpin_step ?_))
            iterate 8 refine zW ?_
            iterate 2 all_goals first | refine zW ?_ | (refine zG (fun hg => ?_) fun hg => ?_; case' _ => refine zW ?_)
            all_goals first | (refine zY ?_; refine aops_p (ap_index_str (k := 0) (c := 49) rfl rfl rfl (by decide) (by decide)) rfl rfl rfl ?_) | refine zSk ?_ | (refine zG (fun hg => ?_) fun hg => ?_; case' _ => refine aops_p (ap_index_str (k := 0) (c := 49) rfl rfl rfl (by decide) (by decide)) rfl rfl rfl ?_)
            all_goals first | (refine zY ?_; refine aops_call_v zRc (dg49_con) rfl rfl ?_) | refine zSk ?_ | (refine zG (fun hg => ?_) fun hg => ?_; case' _ => refine aops_call_v zRc (dg49_con) rfl rfl ?_)
            all_goals refine zW ?_
            all_goals (
              refine zW ?_; refine zW ?_
              refine awp_cond_t rfl zDec ?_
              iterate 5 refine zW ?_
              refine aops_p (ap_arith rfl rfl rfl (by decide)) rfl rfl rfl ?_
              iterate 3 refine zW ?_
              refine seqQ_n (awpin_sel [0, 2, 3] zRc zWk (awpin_step ?_))
              iterate 8 refine zW ?_
              iterate 2 all_goals first | refine zW ?_ | (refine zG (fun hg => ?_) fun hg => ?_; case' _ => refine zW ?_)
              all_goals first | (refine zY ?_; refine aops_p (ap_index_str (k := 1) (c := 44) rfl rfl rfl (by decide) (by decide)) rfl rfl rfl ?_) | refine zSk ?_ | (refine zG (fun hg => ?_) fun hg => ?_; case' _ => refine aops_p (ap_index_str (k := 1) (c := 44) rfl rfl rfl (by decide) (by decide)) rfl rfl rfl ?_)
              all_goals first | (refine zY ?_; refine aops_call_v zRc (dg44_con) rfl rfl ?_) | refine zSk ?_ | (refine zG (fun hg => ?_) fun hg => ?_; case' _ => refine aops_call_v zRc (dg44_con) rfl rfl ?_)
              all_goals refine zW ?_
              all_goals (
                refine zW ?_; refine zW ?_
                refine awp_cond_f rfl zDec ?_
                iterate 10 refine zW ?_
                refine aops_p (ap_slice_str_to (k := 1) rfl rfl rfl (by decide) (by decide)) rfl rfl rfl ?_
                iterate 4 refine zW ?_
                exact post_is_end .nil zKeep rfl
                )
              )
            )
          )
        )
      )
    )
theorem next6_con (b : Nat) : Con Tryz.prog 145 [.p b 0] [.box b 166 [.v (.string tT), .v (.string (tkT 6)), .i 9]] (Is (.tup []) [.box b 166 [.v (.string tT), .v (.string (tkT 7)), .i 10]]) := by
  have hcap : capB = 140737488355328 := rfl
  refine con_intro Tryz.func145 rfl Tryz.call145 rfl ?_
  refine zW ?_
  refine awp_draw2 (stB [12]) (by kernel_rfl) ?_
  refine aany2_pure 0 rfl (.none rfl) zKr zKr zKr (ap_move rfl) rfl rfl ?_
  first | refine aany2_pure 1 rfl (.none rfl) zKr zKr zKr (ap_nilCheck rfl) rfl rfl ?_ | refine aany2_pure 1 rfl (.none rfl) zKr zKr zKr (ap_nilCheck_el rfl) rfl rfl ?_
  first | refine aany2_pure 2 rfl (.none rfl) zKr zKr zKr (ap_fieldAddr (off := 2) (sz := 1) (g := false) rfl rfl) rfl rfl ?_ | refine aany2_pure 2 rfl (.none rfl) zKr zKr zKr (ap_fieldAddr_el (off := 2) (sz := 1) (g := false) rfl rfl zRc) rfl rfl ?_
  first | refine aany2_take 3 rfl (.none rfl) zKr zKr zKr zKr (stB_out zKr) (aq_load1 rfl zUpd List.not_mem_nil rfl zRc) rfl rfl ?_ | refine aany2_take 3 rfl (.none rfl) zKr zKr zKr zKr (stB_out zKr) (aq_load_el1 rfl rfl zScal (fun _ h => absurd h List.not_mem_nil)) rfl rfl ?_ | refine aany2_take 3 rfl (.none rfl) zKr zKr zKr zKr (stB_out zKr) (aq_load_el1' rfl rfl zScal (fun _ h => absurd h List.not_mem_nil)) rfl rfl ?_ | refine aany2_take 3 rfl (.none rfl) zKr zKr zKr zKr (stB_out zKr) (aq_load_own1 rfl zUpd List.not_mem_nil rfl (by first | with_reducible assumption | assumption | rfl) zScal) rfl rfl ?_
  refine aany2_pure 4 rfl (.none rfl) zKr zKr zKr (ap_move rfl) rfl rfl ?_
  first | refine aany2_pure 5 rfl (.none rfl) zKr zKr zKr (ap_nilCheck rfl) rfl rfl ?_ | refine aany2_pure 5 rfl (.none rfl) zKr zKr zKr (ap_nilCheck_el rfl) rfl rfl ?_
  first | refine aany2_pure 6 rfl (.none rfl) zKr zKr zKr (ap_fieldAddr (off := 1) (sz := 1) (g := false) rfl rfl) rfl rfl ?_ | refine aany2_pure 6 rfl (.none rfl) zKr zKr zKr (ap_fieldAddr_el (off := 1) (sz := 1) (g := false) rfl rfl zRc) rfl rfl ?_
  first | refine aany2_take 7 rfl (.none rfl) zKr zKr zKr zKr (stB_out zKr) (aq_load1 rfl zUpd List.not_mem_nil rfl zRc) rfl rfl ?_ | refine aany2_take 7 rfl (.none rfl) zKr zKr zKr zKr (stB_out zKr) (aq_load_el1 rfl rfl zScal (fun _ h => absurd h List.not_mem_nil)) rfl rfl ?_ | refine aany2_take 7 rfl (.none rfl) zKr zKr zKr zKr (stB_out zKr) (aq_load_el1' rfl rfl zScal (fun _ h => absurd h List.not_mem_nil)) rfl rfl ?_ | refine aany2_take 7 rfl (.none rfl) zKr zKr zKr zKr (stB_out zKr) (aq_load_own1 rfl zUpd List.not_mem_nil rfl (by first | with_reducible assumption | assumption | rfl) zScal) rfl rfl ?_
  refine aany2_pure 8 rfl (.none rfl) zKr zKr zKr (ap_len_str rfl rfl) rfl rfl ?_
  refine aany2_pure 9 rfl (.none rfl) zKr zKr zKr (ap_arith rfl rfl rfl (by decide)) rfl rfl ?_
  first | refine aany2_pure 10 rfl (.none rfl) zKr zKr zKr (ap_nilCheck rfl) rfl rfl ?_ | refine aany2_pure 10 rfl (.none rfl) zKr zKr zKr (ap_nilCheck_el rfl) rfl rfl ?_
  first | refine aany2_pure 11 rfl (.none rfl) zKr zKr zKr (ap_fieldAddr (off := 2) (sz := 1) (g := false) rfl rfl) rfl rfl ?_ | refine aany2_pure 11 rfl (.none rfl) zKr zKr zKr (ap_fieldAddr_el (off := 2) (sz := 1) (g := false) rfl rfl zRc) rfl rfl ?_
  refine aany2_switch (Hm := [.box _ _ _]) (by kernel_rfl) (by kernel_rfl) (by repeat (first | exact .nil | exact Split.none _ | apply Split.left | apply Split.right)) ?_
  refine zOn 12 ?_
  iterate 3 refine zW ?_
  all_goals (
    iterate 3 refine zW ?_
    refine awp_unroll (awpin_sel [0] zRc zWk (awpin_step ?_))
    refine zW ?_; refine zW ?_
    refine zDr [] ?_
    refine zT 0 ?_
    refine zT 1 ?_
    refine zT 2 ?_
    refine zT 3 ?_
    refine zT 4 ?_
    refine zT 5 ?_
    refine zT 6 ?_
    refine zT 7 ?_
    refine zT 8 ?_
    refine zT 9 ?_
    refine zT 10 ?_
    refine zT 11 ?_
    refine zT 12 ?_
    refine zT 13 ?_
    refine zT 14 ?_
    refine zT 15 ?_
    refine zT 16 ?_
    refine zT 17 ?_
    refine zT 18 ?_
    refine aany_take 19 rfl zGd zKr zKr zKr (AP.ar (ap_index_str (k := 10) (c := 44) rfl rfl rfl (by decide) (by decide))) rfl rfl ?_
    refine zT 20 ?_
    refine zT 21 ?_
    refine zW ?_
    all_goals (
      refine zW ?_
      refine awp_cond_f rfl zDec ?_
      iterate 6 refine zW ?_
      refine zDr [] ?_
      refine zT 0 ?_
      refine zT 1 ?_
      refine zT 2 ?_
      refine zT 3 ?_
      refine zT 4 ?_
      refine zT 5 ?_
      refine zT 6 ?_
      refine zT 7 ?_
      refine aany_take 8 rfl zGd zKr zKr zKr (AP.ar (ap_slice_str_from (k := 10) rfl rfl rfl (by decide) (by decide))) rfl rfl ?_
      refine zT 9 ?_
      refine zW ?_
      all_goals (
        iterate 11 refine zW ?_
        refine aops_call_v zRc (hp6_con) rfl rfl ?_
        iterate 3 refine zW ?_
        refine awp_cond_f rfl zDec ?_
        iterate 5 refine zW ?_
        all_goals first | refine zW ?_ | (refine zG (fun hg => ?_) fun hg => ?_; case' _ => refine zW ?_)
        all_goals first | (refine zY ?_; refine aops_p (ap_index_str (k := 0) (c := 44) rfl rfl rfl (by decide) (by decide)) rfl rfl rfl ?_) | refine zSk ?_ | (refine zG (fun hg => ?_) fun hg => ?_; case' _ => refine aops_p (ap_index_str (k := 0) (c := 44) rfl rfl rfl (by decide) (by decide)) rfl rfl rfl ?_)
        all_goals first | (refine zY ?_; refine aops_call_v zRc (ib44_con) rfl rfl ?_) | refine zSk ?_ | (refine zG (fun hg => ?_) fun hg => ?_; case' _ => refine aops_call_v zRc (ib44_con) rfl rfl ?_)
        iterate 3 all_goals first | refine zW ?_ | (refine zG (fun hg => ?_) fun hg => ?_; case' _ => refine zW ?_)
        all_goals (
          refine zW ?_; refine zW ?_
          refine awp_cond_t rfl zDec ?_
          iterate 9 refine zW ?_
          refine aops_p (ap_slice_str_to (k := 1) rfl rfl rfl (by decide) (by decide)) rfl rfl rfl ?_
          iterate 4 refine zW ?_
          exact post_is_end .nil zKeep rfl
          )
        )
      )
    )
theorem next7_con (b : Nat) : Con Tryz.prog 145 [.p b 0] [.box b 166 [.v (.string tT), .v (.string (tkT 7)), .i 10]] (Is (.tup []) [.box b 166 [.v (.string tT), .v (.string (tkT 8)), .i 12]]) := by
  have hcap : capB = 140737488355328 := rfl
  refine con_intro Tryz.func145 rfl Tryz.call145 rfl ?_
  refine zW ?_
  refine awp_draw2 (stB [12]) (by kernel_rfl) ?_
  refine aany2_pure 0 rfl (.none rfl) zKr zKr zKr (ap_move rfl) rfl rfl ?_
  first | refine aany2_pure 1 rfl (.none rfl) zKr zKr zKr (ap_nilCheck rfl) rfl rfl ?_ | refine aany2_pure 1 rfl (.none rfl) zKr zKr zKr (ap_nilCheck_el rfl) rfl rfl ?_
  first | refine aany2_pure 2 rfl (.none rfl) zKr zKr zKr (ap_fieldAddr (off := 2) (sz := 1) (g := false) rfl rfl) rfl rfl ?_ | refine aany2_pure 2 rfl (.none rfl) zKr zKr zKr (ap_fieldAddr_el (off := 2) (sz := 1) (g := false) rfl rfl zRc) rfl rfl ?_
  first | refine aany2_take 3 rfl (.none rfl) zKr zKr zKr zKr (stB_out zKr) (aq_load1 rfl zUpd List.not_mem_nil rfl zRc) rfl rfl ?_ | refine aany2_take 3 rfl (.none rfl) zKr zKr zKr zKr (stB_out zKr) (aq_load_el1 rfl rfl zScal (fun _ h => absurd h List.not_mem_nil)) rfl rfl ?_ | refine aany2_take 3 rfl (.none rfl) zKr zKr zKr zKr (stB_out zKr) (aq_load_el1' rfl rfl zScal (fun _ h => absurd h List.not_mem_nil)) rfl rfl ?_ | refine aany2_take 3 rfl (.none rfl) zKr zKr zKr zKr (stB_out zKr) (aq_load_own1 rfl zUpd List.not_mem_nil rfl (by first | with_reducible assumption | assumption | rfl) zScal) rfl rfl ?_
  refine aany2_pure 4 rfl (.none rfl) zKr zKr zKr (ap_move rfl) rfl rfl ?_
  first | refine aany2_pure 5 rfl (.none rfl) zKr zKr zKr (ap_nilCheck rfl) rfl rfl ?_ | refine aany2_pure 5 rfl (.none rfl) zKr zKr zKr (ap_nilCheck_el rfl) rfl rfl ?_
  first | refine aany2_pure 6 rfl (.none rfl) zKr zKr zKr (ap_fieldAddr (off := 1) (sz := 1) (g := false) rfl rfl) rfl rfl ?_ | refine aany2_pure 6 rfl (.none rfl) zKr zKr zKr (ap_fieldAddr_el (off := 1) (sz := 1) (g := false) rfl rfl zRc) rfl rfl ?_
  first | refine aany2_take 7 rfl (.none rfl) zKr zKr zKr zKr (stB_out zKr) (aq_load1 rfl zUpd List.not_mem_nil rfl zRc) rfl rfl ?_ | refine aany2_take 7 rfl (.none rfl) zKr zKr zKr zKr (stB_out zKr) (aq_load_el1 rfl rfl zScal (fun _ h => absurd h List.not_mem_nil)) rfl rfl ?_ | refine aany2_take 7 rfl (.none rfl) zKr zKr zKr zKr (stB_out zKr) (aq_load_el1' rfl rfl zScal (fun _ h => absurd h List.not_mem_nil)) rfl rfl ?_ | refine aany2_take 7 rfl (.none rfl) zKr zKr zKr zKr (stB_out zKr) (aq_load_own1 rfl zUpd List.not_mem_nil rfl (by first | with_reducible assumption | assumption | rfl) zScal) rfl rfl ?_
  refine aany2_pure 8 rfl (.none rfl) zKr zKr zKr (ap_len_str rfl rfl) rfl rfl ?_
  refine aany2_pure 9 rfl (.none rfl) zKr zKr zKr (ap_arith rfl rfl rfl (by decide)) rfl rfl ?_
  first | refine aany2_pure 10 rfl (.none rfl) zKr zKr zKr (ap_nilCheck rfl) rfl rfl ?_ | refine aany2_pure 10 rfl (.none rfl) zKr zKr zKr (ap_nilCheck_el rfl) rfl rfl ?_
  first | refine aany2_pure 11 rfl (.none rfl) zKr zKr zKr (ap_fieldAddr (off := 2) (sz := 1) (g := false) rfl rfl) rfl rfl ?_ | refine aany2_pure 11 rfl (.none rfl) zKr zKr zKr (ap_fieldAddr_el (off := 2) (sz := 1) (g := false) rfl rfl zRc) rfl rfl ?_
  refine aany2_switch (Hm := [.box _ _ _]) (by kernel_rfl) (by kernel_rfl) (by repeat (first | exact .nil | exact Split.none _ | apply Split.left | apply Split.right)) ?_
  refine zOn 12 ?_
  iterate 3 refine zW ?_
  all_goals (
    iterate 3 refine zW ?_
    refine awp_unroll (awpin_sel [0] zRc zWk (awpin_step ?_))
    refine zW ?_; refine zW ?_
    refine zDr [] ?_
    refine zT 0 ?_
    refine zT 1 ?_
    refine zT 2 ?_
    refine zT 3 ?_
    refine zT 4 ?_
    refine zT 5 ?_
    refine zT 6 ?_
    refine zT 7 ?_
    refine zT 8 ?_
    refine zT 9 ?_
    refine zT 10 ?_
    refine zT 11 ?_
    refine zT 12 ?_
    refine zT 13 ?_
    refine zT 14 ?_
    refine zT 15 ?_
    refine zT 16 ?_
    refine zT 17 ?_
    refine zT 18 ?_
    refine aany_take 19 rfl zGd zKr zKr zKr (AP.ar (ap_index_str (k := 11) (c := 32) rfl rfl rfl (by decide) (by decide))) rfl rfl ?_
    refine zT 20 ?_
    refine zT 21 ?_
    refine zW ?_
    all_goals (
      refine zW ?_
      refine awp_cond_t rfl zDec ?_
      iterate 8 refine zW ?_
      refine aops_p (ap_arith rfl rfl rfl (by decide)) rfl rfl rfl ?_
      iterate 5 refine zW ?_
      refine seqQ_n (awpin_sel [0] zRc zWk (awpin_step ?_))
      refine zW ?_; refine zW ?_
      refine zDr [] ?_
      refine zT 0 ?_
      refine zT 1 ?_
      refine zT 2 ?_
      refine zT 3 ?_
      refine zT 4 ?_
      refine zT 5 ?_
      refine zT 6 ?_
      refine zT 7 ?_
      refine zT 8 ?_
      refine zT 9 ?_
      refine zT 10 ?_
      refine zT 11 ?_
      refine zT 12 ?_
      refine zT 13 ?_
      refine zT 14 ?_
      refine zT 15 ?_
      refine zT 16 ?_
      refine zT 17 ?_
      refine zT 18 ?_
      refine aany_take 19 rfl zGd zKr zKr zKr (AP.ar (ap_index_str (k := 12) (c := 50) rfl rfl rfl (by decide) (by decide))) rfl rfl ?_
      refine zT 20 ?_
      refine zT 21 ?_
      refine zW ?_
      all_goals (
        refine zW ?_
        refine awp_cond_f rfl zDec ?_
        iterate 6 refine zW ?_
        refine zDr [] ?_
        refine zT 0 ?_
        refine zT 1 ?_
        refine zT 2 ?_
        refine zT 3 ?_
        refine zT 4 ?_
        refine zT 5 ?_
        refine zT 6 ?_
        refine zT 7 ?_
        refine aany_take 8 rfl zGd zKr zKr zKr (AP.ar (ap_slice_str_from (k := 12) rfl rfl rfl (by decide) (by decide))) rfl rfl ?_
        refine zT 9 ?_
        refine zW ?_
        all_goals (
          iterate 11 refine zW ?_
          refine aops_call_v zRc (hp7_con) rfl rfl ?_
          iterate 3 refine zW ?_
          refine awp_cond_f rfl zDec ?_
          iterate 5 refine zW ?_
          all_goals first | refine zW ?_ | (refine zG (fun hg => ?_) fun hg => ?_; case' _ => refine zW ?_)
          all_goals first | (refine zY ?_; refine aops_p (ap_index_str (k := 0) (c := 50) rfl rfl rfl (by decide) (by decide)) rfl rfl rfl ?_) | refine zSk ?_ | (refine zG (fun hg => ?_) fun hg => ?_; case' _ => refine aops_p (ap_index_str (k := 0) (c := 50) rfl rfl rfl (by decide) (by decide)) rfl rfl rfl ?_)
          all_goals first | (refine zY ?_; refine aops_call_v zRc (ib50_con) rfl rfl ?_) | refine zSk ?_ | (refine zG (fun hg => ?_) fun hg => ?_; case' _ => refine aops_call_v zRc (ib50_con) rfl rfl ?_)
          iterate 3 all_goals first | refine zW ?_ | (refine zG (fun hg => ?_) fun hg => ?_; case' _ => refine zW ?_)
          all_goals (
            refine zW ?_; refine zW ?_
            refine awp_cond_f rfl zDec ?_
            refine zW ?_
            refine awp_unroll (awpin_sel [0, 2, 3] zRc zWk (awpin_step ?_))
            iterate 8 refine zW ?_
            iterate 2 all_goals first | refine zW ?_ | (refine zG (fun hg => ?_) fun hg => ?_; case' _ => refine zW ?_)
            all_goals first | (refine zY ?_; refine aops_p (ap_index_str (k := 0) (c := 50) rfl rfl rfl (by decide) (by decide)) rfl rfl rfl ?_) | refine zSk ?_ | (refine zG (fun hg => ?_) fun hg => ?_; case' _ => refine aops_p (ap_index_str (k := 0) (c := 50) rfl rfl rfl (by decide) (by decide)) rfl rfl rfl ?_)
            all_goals first | (refine zY ?_; refine aops_call_v zRc (dg50_con) rfl rfl ?_) | refine zSk ?_ | (refine zG (fun hg => ?_) fun hg => ?_; case' _ => refine aops_call_v zRc (dg50_con) rfl rfl ?_)
            all_goals refine zW ?_
            all_goals (
              refine zW ?_; refine zW ?_
              refine awp_cond_t rfl zDec ?_
              iterate 5 refine zW ?_
              refine aops_p (ap_arith rfl rfl rfl (by decide)) rfl rfl rfl ?_
              iterate 3 refine zW ?_
              refine seqQ_n (awpin_sel [0, 2, 3] zRc zWk (awpin_step ?_))
              iterate 8 refine zW ?_
              iterate 2 all_goals first | refine zW ?_ | (refine zG (fun hg => ?_) fun hg => ?_; case' _ => refine zW ?_)
              all_goals first | (refine zY ?_; refine aops_p (ap_index_str (k := 1) (c := 41) rfl rfl rfl (by decide) (by decide)) rfl rfl rfl ?_) | refine zSk ?_ | (refine zG (fun hg => ?_) fun hg => ?_; case' _ => refine aops_p (ap_index_str (k := 1) (c := 41) rfl rfl rfl (by decide) (by decide)) rfl rfl rfl ?_)
              all_goals first | (refine zY ?_; refine aops_call_v zRc (dg41_con) rfl rfl ?_) | refine zSk ?_ | (refine zG (fun hg => ?_) fun hg => ?_; case' _ => refine aops_call_v zRc (dg41_con) rfl rfl ?_)
              all_goals refine zW ?_
              all_goals (
                refine zW ?_; refine zW ?_
                refine awp_cond_f rfl zDec ?_
                iterate 10 refine zW ?_
                refine aops_p (ap_slice_str_to (k := 1) rfl rfl rfl (by decide) (by decide)) rfl rfl rfl ?_
                iterate 4 refine zW ?_
                exact post_is_end .nil zKeep rfl
                )
              )
            )
          )
        )
      )
    )
end Go.Proofs.YtmolbagfkdbdnaaGreatDoor
