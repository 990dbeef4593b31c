/- Walks: each says what one function of the program answers, for the arguments that its statement names. No condition beyond what each theorem says. -/
import Derived.Test.YtmolbagfkdbdnaaGreatDoorTopSilentW10
import Derived.Test.YtmolbagfkdbdnaaGreatDoorProg
import Derived.KernelRfl
import Derived.Tactics
import Derived.Tactics2
import Derived.StillTactics
import Derived.Shelf.SlSortCmp.Whole1
import Derived.Shelf.SlSortCmp.NoneTotal
import Derived.Shelf.Strconv.Atoi
set_option linter.unusedVariables false
set_option linter.unusedSimpArgs false
set_option maxRecDepth 4000
set_option maxHeartbeats 2000000
namespace Go.Proofs.YtmolbagfkdbdnaaGreatDoor
open Go Go.Av Go.Tq
theorem next8_con (b : Nat) : Con Tryz.prog 145 [.p b 0] [.box b 166 [.v (.string tT), .v (.string (tkT 8)), .i 12]] (Is (.tup []) [.box b 166 [.v (.string tT), .v (.string (tkT 9)), .i 13]]) := by
  have hcap : capB = 140737488355328 := rfl
  refine con_intro Tryz.func145 rfl Tryz.call145 rfl ?_
  refine zW ?_
  refine awp_draw2 (stB [12]) (by kernel_rfl) ?_
  refine aany2_pure 0 rfl (.none rfl) zKr zKr zKr (ap_move rfl) rfl rfl ?_
  first | refine aany2_pure 1 rfl (.none rfl) zKr zKr zKr (ap_nilCheck rfl) rfl rfl ?_ | refine aany2_pure 1 rfl (.none rfl) zKr zKr zKr (ap_nilCheck_el rfl) rfl rfl ?_
  first | refine aany2_pure 2 rfl (.none rfl) zKr zKr zKr (ap_fieldAddr (off := 2) (sz := 1) (g := false) rfl rfl) rfl rfl ?_ | refine aany2_pure 2 rfl (.none rfl) zKr zKr zKr (ap_fieldAddr_el (off := 2) (sz := 1) (g := false) rfl rfl zRc) rfl rfl ?_
  first | refine aany2_take 3 rfl (.none rfl) zKr zKr zKr zKr (stB_out zKr) (aq_load1 rfl zUpd List.not_mem_nil rfl zRc) rfl rfl ?_ | refine aany2_take 3 rfl (.none rfl) zKr zKr zKr zKr (stB_out zKr) (aq_load_el1 rfl rfl zScal (fun _ h => absurd h List.not_mem_nil)) rfl rfl ?_ | refine aany2_take 3 rfl (.none rfl) zKr zKr zKr zKr (stB_out zKr) (aq_load_el1' rfl rfl zScal (fun _ h => absurd h List.not_mem_nil)) rfl rfl ?_ | refine aany2_take 3 rfl (.none rfl) zKr zKr zKr zKr (stB_out zKr) (aq_load_own1 rfl zUpd List.not_mem_nil rfl (by first | with_reducible assumption | assumption | rfl) zScal) rfl rfl ?_
  refine aany2_pure 4 rfl (.none rfl) zKr zKr zKr (ap_move rfl) rfl rfl ?_
  first | refine aany2_pure 5 rfl (.none rfl) zKr zKr zKr (ap_nilCheck rfl) rfl rfl ?_ | refine aany2_pure 5 rfl (.none rfl) zKr zKr zKr (ap_nilCheck_el rfl) rfl rfl ?_
  first | refine aany2_pure 6 rfl (.none rfl) zKr zKr zKr (ap_fieldAddr (off := 1) (sz := 1) (g := false) rfl rfl) rfl rfl ?_ | refine aany2_pure 6 rfl (.none rfl) zKr zKr zKr (ap_fieldAddr_el (off := 1) (sz := 1) (g := false) rfl rfl zRc) rfl rfl ?_
  first | refine aany2_take 7 rfl (.none rfl) zKr zKr zKr zKr (stB_out zKr) (aq_load1 rfl zUpd List.not_mem_nil rfl zRc) rfl rfl ?_ | refine aany2_take 7 rfl (.none rfl) zKr zKr zKr zKr (stB_out zKr) (aq_load_el1 rfl rfl zScal (fun _ h => absurd h List.not_mem_nil)) rfl rfl ?_ | refine aany2_take 7 rfl (.none rfl) zKr zKr zKr zKr (stB_out zKr) (aq_load_el1' rfl rfl zScal (fun _ h => absurd h List.not_mem_nil)) rfl rfl ?_ | refine aany2_take 7 rfl (.none rfl) zKr zKr zKr zKr (stB_out zKr) (aq_load_own1 rfl zUpd List.not_mem_nil rfl (by first | with_reducible assumption | assumption | rfl) zScal) rfl rfl ?_
  refine aany2_pure 8 rfl (.none rfl) zKr zKr zKr (ap_len_str rfl rfl) rfl rfl ?_
  refine aany2_pure 9 rfl (.none rfl) zKr zKr zKr (ap_arith rfl rfl rfl (by decide)) rfl rfl ?_
  first | refine aany2_pure 10 rfl (.none rfl) zKr zKr zKr (ap_nilCheck rfl) rfl rfl ?_ | refine aany2_pure 10 rfl (.none rfl) zKr zKr zKr (ap_nilCheck_el rfl) rfl rfl ?_
  first | refine aany2_pure 11 rfl (.none rfl) zKr zKr zKr (ap_fieldAddr (off := 2) (sz := 1) (g := false) rfl rfl) rfl rfl ?_ | refine aany2_pure 11 rfl (.none rfl) zKr zKr zKr (ap_fieldAddr_el (off := 2) (sz := 1) (g := false) rfl rfl zRc) rfl rfl ?_
  refine aany2_switch (Hm := [.box _ _ _]) (by kernel_rfl) (by kernel_rfl) (by repeat (first | exact .nil | exact Split.none _ | apply Split.left | apply Split.right)) ?_
  refine zOn 12 ?_
  iterate 3 refine zW ?_
  all_goals (
    iterate 3 refine zW ?_
    refine awp_unroll (awpin_sel [0] zRc zWk (awpin_step ?_))
    refine zW ?_; refine zW ?_
    refine zDr [] ?_
    refine zT 0 ?_
    refine zT 1 ?_
    refine zT 2 ?_
    refine zT 3 ?_
    refine zT 4 ?_
    refine zT 5 ?_
    refine zT 6 ?_
    refine zT 7 ?_
    refine zT 8 ?_
    refine zT 9 ?_
    refine zT 10 ?_
    refine zT 11 ?_
    refine zT 12 ?_
    refine zT 13 ?_
    refine zT 14 ?_
    refine zT 15 ?_
    refine zT 16 ?_
    refine zT 17 ?_
    refine zT 18 ?_
    refine aany_take 19 rfl zGd zKr zKr zKr (AP.ar (ap_index_str (k := 13) (c := 41) rfl rfl rfl (by decide) (by decide))) rfl rfl ?_
    refine zT 20 ?_
    refine zT 21 ?_
    refine zW ?_
    all_goals (
      refine zW ?_
      refine awp_cond_f rfl zDec ?_
      iterate 6 refine zW ?_
      refine zDr [] ?_
      refine zT 0 ?_
      refine zT 1 ?_
      refine zT 2 ?_
      refine zT 3 ?_
      refine zT 4 ?_
      refine zT 5 ?_
      refine zT 6 ?_
      refine zT 7 ?_
      refine aany_take 8 rfl zGd zKr zKr zKr (AP.ar (ap_slice_str_from (k := 13) rfl rfl rfl (by decide) (by decide))) rfl rfl ?_
      refine zT 9 ?_
      refine zW ?_
      all_goals (
        iterate 11 refine zW ?_
        refine aops_call_v zRc (hp8_con) rfl rfl ?_
        iterate 3 refine zW ?_
        refine awp_cond_f rfl zDec ?_
        iterate 5 refine zW ?_
        all_goals first | refine zW ?_ | (refine zG (fun hg => ?_) fun hg => ?_; case' _ => refine zW ?_)
        all_goals first | (refine zY ?_; refine aops_p (ap_index_str (k := 0) (c := 41) rfl rfl rfl (by decide) (by decide)) rfl rfl rfl ?_) | refine zSk ?_ | (refine zG (fun hg => ?_) fun hg => ?_; case' _ => refine aops_p (ap_index_str (k := 0) (c := 41) rfl rfl rfl (by decide) (by decide)) rfl rfl rfl ?_)
        all_goals first | (refine zY ?_; refine aops_call_v zRc (ib41_con) rfl rfl ?_) | refine zSk ?_ | (refine zG (fun hg => ?_) fun hg => ?_; case' _ => refine aops_call_v zRc (ib41_con) rfl rfl ?_)
        iterate 3 all_goals first | refine zW ?_ | (refine zG (fun hg => ?_) fun hg => ?_; case' _ => refine zW ?_)
        all_goals (
          refine zW ?_; refine zW ?_
          refine awp_cond_t rfl zDec ?_
          iterate 9 refine zW ?_
          refine aops_p (ap_slice_str_to (k := 1) rfl rfl rfl (by decide) (by decide)) rfl rfl rfl ?_
          iterate 4 refine zW ?_
          exact post_is_end .nil zKeep rfl
          )
        )
      )
    )
theorem next9_con (b : Nat) : Con Tryz.prog 145 [.p b 0] [.box b 166 [.v (.string tT), .v (.string (tkT 9)), .i 13]] (Is (.tup []) [.box b 166 [.v (.string tT), .v (.string (tkT 10)), .i 14]]) := by
  have hcap : capB = 140737488355328 := rfl
  refine con_intro Tryz.func145 rfl Tryz.call145 rfl ?_
  refine zW ?_
  refine awp_draw2 (stB [12]) (by kernel_rfl) ?_
  refine aany2_pure 0 rfl (.none rfl) zKr zKr zKr (ap_move rfl) rfl rfl ?_
  first | refine aany2_pure 1 rfl (.none rfl) zKr zKr zKr (ap_nilCheck rfl) rfl rfl ?_ | refine aany2_pure 1 rfl (.none rfl) zKr zKr zKr (ap_nilCheck_el rfl) rfl rfl ?_
  first | refine aany2_pure 2 rfl (.none rfl) zKr zKr zKr (ap_fieldAddr (off := 2) (sz := 1) (g := false) rfl rfl) rfl rfl ?_ | refine aany2_pure 2 rfl (.none rfl) zKr zKr zKr (ap_fieldAddr_el (off := 2) (sz := 1) (g := false) rfl rfl zRc) rfl rfl ?_
  first | refine aany2_take 3 rfl (.none rfl) zKr zKr zKr zKr (stB_out zKr) (aq_load1 rfl zUpd List.not_mem_nil rfl zRc) rfl rfl ?_ | refine aany2_take 3 rfl (.none rfl) zKr zKr zKr zKr (stB_out zKr) (aq_load_el1 rfl rfl zScal (fun _ h => absurd h List.not_mem_nil)) rfl rfl ?_ | refine aany2_take 3 rfl (.none rfl) zKr zKr zKr zKr (stB_out zKr) (aq_load_el1' rfl rfl zScal (fun _ h => absurd h List.not_mem_nil)) rfl rfl ?_ | refine aany2_take 3 rfl (.none rfl) zKr zKr zKr zKr (stB_out zKr) (aq_load_own1 rfl zUpd List.not_mem_nil rfl (by first | with_reducible assumption | assumption | rfl) zScal) rfl rfl ?_
  refine aany2_pure 4 rfl (.none rfl) zKr zKr zKr (ap_move rfl) rfl rfl ?_
  first | refine aany2_pure 5 rfl (.none rfl) zKr zKr zKr (ap_nilCheck rfl) rfl rfl ?_ | refine aany2_pure 5 rfl (.none rfl) zKr zKr zKr (ap_nilCheck_el rfl) rfl rfl ?_
  first | refine aany2_pure 6 rfl (.none rfl) zKr zKr zKr (ap_fieldAddr (off := 1) (sz := 1) (g := false) rfl rfl) rfl rfl ?_ | refine aany2_pure 6 rfl (.none rfl) zKr zKr zKr (ap_fieldAddr_el (off := 1) (sz := 1) (g := false) rfl rfl zRc) rfl rfl ?_
  first | refine aany2_take 7 rfl (.none rfl) zKr zKr zKr zKr (stB_out zKr) (aq_load1 rfl zUpd List.not_mem_nil rfl zRc) rfl rfl ?_ | refine aany2_take 7 rfl (.none rfl) zKr zKr zKr zKr (stB_out zKr) (aq_load_el1 rfl rfl zScal (fun _ h => absurd h List.not_mem_nil)) rfl rfl ?_ | refine aany2_take 7 rfl (.none rfl) zKr zKr zKr zKr (stB_out zKr) (aq_load_el1' rfl rfl zScal (fun _ h => absurd h List.not_mem_nil)) rfl rfl ?_ | refine aany2_take 7 rfl (.none rfl) zKr zKr zKr zKr (stB_out zKr) (aq_load_own1 rfl zUpd List.not_mem_nil rfl (by first | with_reducible assumption | assumption | rfl) zScal) rfl rfl ?_
  refine aany2_pure 8 rfl (.none rfl) zKr zKr zKr (ap_len_str rfl rfl) rfl rfl ?_
  refine aany2_pure 9 rfl (.none rfl) zKr zKr zKr (ap_arith rfl rfl rfl (by decide)) rfl rfl ?_
  first | refine aany2_pure 10 rfl (.none rfl) zKr zKr zKr (ap_nilCheck rfl) rfl rfl ?_ | refine aany2_pure 10 rfl (.none rfl) zKr zKr zKr (ap_nilCheck_el rfl) rfl rfl ?_
  first | refine aany2_pure 11 rfl (.none rfl) zKr zKr zKr (ap_fieldAddr (off := 2) (sz := 1) (g := false) rfl rfl) rfl rfl ?_ | refine aany2_pure 11 rfl (.none rfl) zKr zKr zKr (ap_fieldAddr_el (off := 2) (sz := 1) (g := false) rfl rfl zRc) rfl rfl ?_
  refine aany2_switch (Hm := [.box _ _ _]) (by kernel_rfl) (by kernel_rfl) (by repeat (first | exact .nil | exact Split.none _ | apply Split.left | apply Split.right)) ?_
  refine zOn 12 ?_
  iterate 3 refine zW ?_
  all_goals (
    iterate 3 refine zW ?_
    refine awp_unroll (awpin_sel [0] zRc zWk (awpin_step ?_))
    refine zW ?_; refine zW ?_
    refine zDr [] ?_
    refine zT 0 ?_
    refine zT 1 ?_
    refine zT 2 ?_
    refine zT 3 ?_
    refine zT 4 ?_
    refine zT 5 ?_
    refine zT 6 ?_
    refine zT 7 ?_
    refine zT 8 ?_
    refine zT 9 ?_
    refine zT 10 ?_
    refine zK 11 ?_
    refine zK 12 ?_
    refine zK 13 ?_
    refine zK 14 ?_
    refine zK 15 ?_
    refine zK 16 ?_
    refine zK 17 ?_
    refine zK 18 ?_
    refine zK 19 ?_
    refine zK 20 ?_
    refine zT 21 ?_
    refine zW ?_
    all_goals (
      refine zW ?_
      refine awp_cond_f rfl zDec ?_
      iterate 6 refine zW ?_
      refine zDr [] ?_
      refine zT 0 ?_
      refine zT 1 ?_
      refine zT 2 ?_
      refine zT 3 ?_
      refine zT 4 ?_
      refine zT 5 ?_
      refine zT 6 ?_
      refine zT 7 ?_
      refine aany_take 8 rfl zGd zKr zKr zKr (AP.ar (ap_slice_str_from (k := 14) rfl rfl rfl (by decide) (by decide))) rfl rfl ?_
      refine zT 9 ?_
      refine zW ?_
      all_goals (
        iterate 11 refine zW ?_
        refine aops_call_v zRc (hp9_con) rfl rfl ?_
        iterate 3 refine zW ?_
        refine awp_cond_f rfl zDec ?_
        iterate 5 refine zW ?_
        all_goals first | refine zW ?_ | (refine zG (fun hg => ?_) fun hg => ?_; case' _ => refine zW ?_)
        all_goals first | (refine zY ?_; refine aops_p (ap_index_str (k := 0) (c := 0) rfl rfl rfl (by decide) (by decide)) rfl rfl rfl ?_) | refine zSk ?_ | (refine zG (fun hg => ?_) fun hg => ?_; case' _ => refine aops_p (ap_index_str (k := 0) (c := 0) rfl rfl rfl (by decide) (by decide)) rfl rfl rfl ?_)
        all_goals first | (refine zY ?_; refine aops_call_v zRc (ib50_con) rfl rfl ?_) | refine zSk ?_ | (refine zG (fun hg => ?_) fun hg => ?_; case' _ => refine aops_call_v zRc (ib50_con) rfl rfl ?_)
        iterate 3 all_goals first | refine zW ?_ | (refine zG (fun hg => ?_) fun hg => ?_; case' _ => refine zW ?_)
        all_goals (
          refine zW ?_; refine zW ?_
          refine awp_cond_f rfl zDec ?_
          refine zW ?_
          refine awp_unroll (awpin_sel [0, 2, 3] zRc zWk (awpin_step ?_))
          iterate 8 refine zW ?_
          iterate 2 all_goals first | refine zW ?_ | (refine zG (fun hg => ?_) fun hg => ?_; case' _ => refine zW ?_)
          all_goals first | (refine zY ?_; refine aops_p (ap_index_str (k := 0) (c := 48) rfl rfl rfl (by decide) (by decide)) rfl rfl rfl ?_) | refine zSk ?_ | (refine zG (fun hg => ?_) fun hg => ?_; case' _ => refine aops_p (ap_index_str (k := 0) (c := 48) rfl rfl rfl (by decide) (by decide)) rfl rfl rfl ?_)
          all_goals first | (refine zY ?_; refine aops_call_v zRc (dg48_con) rfl rfl ?_) | refine zSk ?_ | (refine zG (fun hg => ?_) fun hg => ?_; case' _ => refine aops_call_v zRc (dg48_con) rfl rfl ?_)
          all_goals refine zW ?_
          all_goals (
            refine zW ?_; refine zW ?_
            refine awp_cond_f rfl zDec ?_
            iterate 10 refine zW ?_
            refine aops_p (ap_slice_str_to (k := 0) rfl rfl rfl (by decide) (by decide)) rfl rfl rfl ?_
            iterate 4 refine zW ?_
            exact post_is_end .nil zKeep rfl
            )
          )
        )
      )
    )
theorem num1_con (b : Nat) : Con Tryz.prog 146 [.p b 0] [.box b 166 [.v (.string tT), .v (.string (tkT 1)), .i 0]] (Is (.tup [.i 2, .b true]) [.box b 166 [.v (.string tT), .v (.string (tkT 2)), .i 2]]) := by
  have hcap : capB = 140737488355328 := rfl
  refine con_intro Tryz.func146 rfl Tryz.call146 rfl ?_
  iterate 21 refine zW ?_
  all_goals first | refine zW ?_ | (refine zG (fun hg => ?_) fun hg => ?_; case' _ => refine zW ?_)
  all_goals first | (refine zY ?_; refine aops_p (ap_index_str (k := 0) (c := 50) rfl rfl rfl (by decide) (by decide)) rfl rfl rfl ?_) | refine zSk ?_ | (refine zG (fun hg => ?_) fun hg => ?_; case' _ => refine aops_p (ap_index_str (k := 0) (c := 50) rfl rfl rfl (by decide) (by decide)) rfl rfl rfl ?_)
  all_goals first | (refine zY ?_; refine aops_call_v zRc (dg50_con) rfl rfl ?_) | refine zSk ?_ | (refine zG (fun hg => ?_) fun hg => ?_; case' _ => refine aops_call_v zRc (dg50_con) rfl rfl ?_)
  iterate 13 all_goals first | refine zW ?_ | (refine zG (fun hg => ?_) fun hg => ?_; case' _ => refine zW ?_)
  all_goals first | (refine zY ?_; refine aops_p (ap_index_str (k := 0) (c := 50) rfl rfl rfl (by decide) (by decide)) rfl rfl rfl ?_) | refine zSk ?_ | (refine zG (fun hg => ?_) fun hg => ?_; case' _ => refine aops_p (ap_index_str (k := 0) (c := 50) rfl rfl rfl (by decide) (by decide)) rfl rfl rfl ?_)
  iterate 3 all_goals first | refine zW ?_ | (refine zG (fun hg => ?_) fun hg => ?_; case' _ => refine zW ?_)
  all_goals (
    refine zW ?_; refine zW ?_
    refine awp_cond_f rfl zDec ?_
    iterate 5 refine zW ?_
    refine aops_call_v zRc (ato1_con) rfl rfl ?_
    iterate 10 refine zW ?_
    refine aops_call_is zRc (next1_con b) zSplit rfl rfl ?_
    iterate 10 refine zW ?_
    (refine zPi ?_; exact rfl)
    )
theorem num4_con (b : Nat) : Con Tryz.prog 146 [.p b 0] [.box b 166 [.v (.string tT), .v (.string (tkT 4)), .i 6]] (Is (.tup [.i 0, .b true]) [.box b 166 [.v (.string tT), .v (.string (tkT 5)), .i 7]]) := by
  have hcap : capB = 140737488355328 := rfl
  refine con_intro Tryz.func146 rfl Tryz.call146 rfl ?_
  iterate 21 refine zW ?_
  all_goals first | refine zW ?_ | (refine zG (fun hg => ?_) fun hg => ?_; case' _ => refine zW ?_)
  all_goals first | (refine zY ?_; refine aops_p (ap_index_str (k := 0) (c := 48) rfl rfl rfl (by decide) (by decide)) rfl rfl rfl ?_) | refine zSk ?_ | (refine zG (fun hg => ?_) fun hg => ?_; case' _ => refine aops_p (ap_index_str (k := 0) (c := 48) rfl rfl rfl (by decide) (by decide)) rfl rfl rfl ?_)
  all_goals first | (refine zY ?_; refine aops_call_v zRc (dg48_con) rfl rfl ?_) | refine zSk ?_ | (refine zG (fun hg => ?_) fun hg => ?_; case' _ => refine aops_call_v zRc (dg48_con) rfl rfl ?_)
  iterate 13 all_goals first | refine zW ?_ | (refine zG (fun hg => ?_) fun hg => ?_; case' _ => refine zW ?_)
  all_goals first | (refine zY ?_; refine aops_p (ap_index_str (k := 0) (c := 48) rfl rfl rfl (by decide) (by decide)) rfl rfl rfl ?_) | refine zSk ?_ | (refine zG (fun hg => ?_) fun hg => ?_; case' _ => refine aops_p (ap_index_str (k := 0) (c := 48) rfl rfl rfl (by decide) (by decide)) rfl rfl rfl ?_)
  iterate 3 all_goals first | refine zW ?_ | (refine zG (fun hg => ?_) fun hg => ?_; case' _ => refine zW ?_)
  all_goals (
    refine zW ?_; refine zW ?_
    refine awp_cond_f rfl zDec ?_
    iterate 5 refine zW ?_
    refine aops_call_v zRc (ato4_con) rfl rfl ?_
    iterate 10 refine zW ?_
    refine aops_call_is zRc (next4_con b) zSplit rfl rfl ?_
    iterate 10 refine zW ?_
    (refine zPi ?_; exact rfl)
    )
theorem num6_con (b : Nat) : Con Tryz.prog 146 [.p b 0] [.box b 166 [.v (.string tT), .v (.string (tkT 6)), .i 9]] (Is (.tup [.i 1, .b true]) [.box b 166 [.v (.string tT), .v (.string (tkT 7)), .i 10]]) := by
  have hcap : capB = 140737488355328 := rfl
  refine con_intro Tryz.func146 rfl Tryz.call146 rfl ?_
  iterate 21 refine zW ?_
  all_goals first | refine zW ?_ | (refine zG (fun hg => ?_) fun hg => ?_; case' _ => refine zW ?_)
  all_goals first | (refine zY ?_; refine aops_p (ap_index_str (k := 0) (c := 49) rfl rfl rfl (by decide) (by decide)) rfl rfl rfl ?_) | refine zSk ?_ | (refine zG (fun hg => ?_) fun hg => ?_; case' _ => refine aops_p (ap_index_str (k := 0) (c := 49) rfl rfl rfl (by decide) (by decide)) rfl rfl rfl ?_)
  all_goals first | (refine zY ?_; refine aops_call_v zRc (dg49_con) rfl rfl ?_) | refine zSk ?_ | (refine zG (fun hg => ?_) fun hg => ?_; case' _ => refine aops_call_v zRc (dg49_con) rfl rfl ?_)
  iterate 13 all_goals first | refine zW ?_ | (refine zG (fun hg => ?_) fun hg => ?_; case' _ => refine zW ?_)
  all_goals first | (refine zY ?_; refine aops_p (ap_index_str (k := 0) (c := 49) rfl rfl rfl (by decide) (by decide)) rfl rfl rfl ?_) | refine zSk ?_ | (refine zG (fun hg => ?_) fun hg => ?_; case' _ => refine aops_p (ap_index_str (k := 0) (c := 49) rfl rfl rfl (by decide) (by decide)) rfl rfl rfl ?_)
  iterate 3 all_goals first | refine zW ?_ | (refine zG (fun hg => ?_) fun hg => ?_; case' _ => refine zW ?_)
  all_goals (
    refine zW ?_; refine zW ?_
    refine awp_cond_f rfl zDec ?_
    iterate 5 refine zW ?_
    refine aops_call_v zRc (ato6_con) rfl rfl ?_
    iterate 10 refine zW ?_
    refine aops_call_is zRc (next6_con b) zSplit rfl rfl ?_
    iterate 10 refine zW ?_
    (refine zPi ?_; exact rfl)
    )
theorem num8_con (b : Nat) : Con Tryz.prog 146 [.p b 0] [.box b 166 [.v (.string tT), .v (.string (tkT 8)), .i 12]] (Is (.tup [.i 2, .b true]) [.box b 166 [.v (.string tT), .v (.string (tkT 9)), .i 13]]) := by
  have hcap : capB = 140737488355328 := rfl
  refine con_intro Tryz.func146 rfl Tryz.call146 rfl ?_
  iterate 21 refine zW ?_
  all_goals first | refine zW ?_ | (refine zG (fun hg => ?_) fun hg => ?_; case' _ => refine zW ?_)
  all_goals first | (refine zY ?_; refine aops_p (ap_index_str (k := 0) (c := 50) rfl rfl rfl (by decide) (by decide)) rfl rfl rfl ?_) | refine zSk ?_ | (refine zG (fun hg => ?_) fun hg => ?_; case' _ => refine aops_p (ap_index_str (k := 0) (c := 50) rfl rfl rfl (by decide) (by decide)) rfl rfl rfl ?_)
  all_goals first | (refine zY ?_; refine aops_call_v zRc (dg50_con) rfl rfl ?_) | refine zSk ?_ | (refine zG (fun hg => ?_) fun hg => ?_; case' _ => refine aops_call_v zRc (dg50_con) rfl rfl ?_)
  iterate 13 all_goals first | refine zW ?_ | (refine zG (fun hg => ?_) fun hg => ?_; case' _ => refine zW ?_)
  all_goals first | (refine zY ?_; refine aops_p (ap_index_str (k := 0) (c := 50) rfl rfl rfl (by decide) (by decide)) rfl rfl rfl ?_) | refine zSk ?_ | (refine zG (fun hg => ?_) fun hg => ?_; case' _ => refine aops_p (ap_index_str (k := 0) (c := 50) rfl rfl rfl (by decide) (by decide)) rfl rfl rfl ?_)
  iterate 3 all_goals first | refine zW ?_ | (refine zG (fun hg => ?_) fun hg => ?_; case' _ => refine zW ?_)
  all_goals (
    refine zW ?_; refine zW ?_
    refine awp_cond_f rfl zDec ?_
    iterate 5 refine zW ?_
    refine aops_call_v zRc (ato8_con) rfl rfl ?_
    iterate 10 refine zW ?_
    refine aops_call_is zRc (next8_con b) zSplit rfl rfl ?_
    iterate 10 refine zW ?_
    (refine zPi ?_; exact rfl)
    )
theorem take2_con (b : Nat) : Con Tryz.prog 175 [.p b 0, .v (.string (⟨#[111, 102]⟩ : ByteArray))] [.box b 166 [.v (.string tT), .v (.string (tkT 2)), .i 2]] (Is (.b true) [.box b 166 [.v (.string tT), .v (.string (tkT 3)), .i 5]]) := by
  have hcap : capB = 140737488355328 := rfl
  refine con_intro Tryz.func175 rfl Tryz.call175 rfl ?_
  iterate 16 refine zW ?_
  refine awp_cond_f rfl zDec ?_
  iterate 5 refine zW ?_
  refine aops_call_is zRc (next2_con b) zSplit rfl rfl ?_
  iterate 8 refine zW ?_
  (refine zPi ?_; exact rfl)
theorem take3_con (b : Nat) : Con Tryz.prog 175 [.p b 0, .v (.string (⟨#[40]⟩ : ByteArray))] [.box b 166 [.v (.string tT), .v (.string (tkT 3)), .i 5]] (Is (.b true) [.box b 166 [.v (.string tT), .v (.string (tkT 4)), .i 6]]) := by
  have hcap : capB = 140737488355328 := rfl
  refine con_intro Tryz.func175 rfl Tryz.call175 rfl ?_
  iterate 16 refine zW ?_
  refine awp_cond_f rfl zDec ?_
  iterate 5 refine zW ?_
  refine aops_call_is zRc (next3_con b) zSplit rfl rfl ?_
  iterate 8 refine zW ?_
  (refine zPi ?_; exact rfl)
theorem take5_con (b : Nat) : Con Tryz.prog 175 [.p b 0, .v (.string (⟨#[44]⟩ : ByteArray))] [.box b 166 [.v (.string tT), .v (.string (tkT 5)), .i 7]] (Is (.b true) [.box b 166 [.v (.string tT), .v (.string (tkT 6)), .i 9]]) := by
  have hcap : capB = 140737488355328 := rfl
  refine con_intro Tryz.func175 rfl Tryz.call175 rfl ?_
  iterate 16 refine zW ?_
  refine awp_cond_f rfl zDec ?_
  iterate 5 refine zW ?_
  refine aops_call_is zRc (next5_con b) zSplit rfl rfl ?_
  iterate 8 refine zW ?_
  (refine zPi ?_; exact rfl)
theorem take7_con (b : Nat) : Con Tryz.prog 175 [.p b 0, .v (.string (⟨#[44]⟩ : ByteArray))] [.box b 166 [.v (.string tT), .v (.string (tkT 7)), .i 10]] (Is (.b true) [.box b 166 [.v (.string tT), .v (.string (tkT 8)), .i 12]]) := by
  have hcap : capB = 140737488355328 := rfl
  refine con_intro Tryz.func175 rfl Tryz.call175 rfl ?_
  iterate 16 refine zW ?_
  refine awp_cond_f rfl zDec ?_
  iterate 5 refine zW ?_
  refine aops_call_is zRc (next7_con b) zSplit rfl rfl ?_
  iterate 8 refine zW ?_
  (refine zPi ?_; exact rfl)
theorem take9_con (b : Nat) : Con Tryz.prog 175 [.p b 0, .v (.string (⟨#[41]⟩ : ByteArray))] [.box b 166 [.v (.string tT), .v (.string (tkT 9)), .i 13]] (Is (.b true) [.box b 166 [.v (.string tT), .v (.string (tkT 10)), .i 14]]) := by
  have hcap : capB = 140737488355328 := rfl
  refine con_intro Tryz.func175 rfl Tryz.call175 rfl ?_
  iterate 16 refine zW ?_
  refine awp_cond_f rfl zDec ?_
  iterate 5 refine zW ?_
  refine aops_call_is zRc (next9_con b) zSplit rfl rfl ?_
  iterate 8 refine zW ?_
  (refine zPi ?_; exact rfl)
theorem take5n_con (b : Nat) : Con Tryz.prog 175 [.p b 0, .v (.string (⟨#[41]⟩ : ByteArray))] [.box b 166 [.v (.string tT), .v (.string (tkT 5)), .i 7]] (Is (.b false) [.box b 166 [.v (.string tT), .v (.string (tkT 5)), .i 7]]) := by
  have hcap : capB = 140737488355328 := rfl
  refine con_intro Tryz.func175 rfl Tryz.call175 rfl ?_
  iterate 16 refine zW ?_
  refine awp_cond_t rfl zDec ?_
  iterate 7 refine zW ?_
  (refine zPi ?_; exact rfl)
theorem take7n_con (b : Nat) : Con Tryz.prog 175 [.p b 0, .v (.string (⟨#[41]⟩ : ByteArray))] [.box b 166 [.v (.string tT), .v (.string (tkT 7)), .i 10]] (Is (.b false) [.box b 166 [.v (.string tT), .v (.string (tkT 7)), .i 10]]) := by
  have hcap : capB = 140737488355328 := rfl
  refine con_intro Tryz.func175 rfl Tryz.call175 rfl ?_
  iterate 16 refine zW ?_
  refine awp_cond_t rfl zDec ?_
  iterate 7 refine zW ?_
  (refine zPi ?_; exact rfl)
theorem rest_con (b : Nat) : Con Tryz.prog 147 [.p b 0, .i 2] [.box b 166 [.v (.string tT), .v (.string (tkT 2)), .i 2]] (Is (.tup [av m3.t, .b true]) [.box b 166 [.v (.string tT), .v (.string (tkT 10)), .i 14]]) := by
  have hcap : capB = 140737488355328 := rfl
  refine con_intro Tryz.func147 rfl Tryz.call147 rfl ?_
  refine zW ?_; refine zW ?_
  refine zAl fun b4 => ?_
  iterate 6 refine zW ?_
  refine aops_p (AP.up (ap_build zKr rfl zRc zFill) (d' := (.agg [.i 2, .nil, .sl 3 []])) (Up.agg (by repeat (first | exact UpL.nil | apply UpL.cons (by first | exact Up.same | exact Up.int | exact Up.nil))))) rfl rfl rfl ?_
  refine zAl fun b6 => ?_
  iterate 7 refine zW ?_
  refine aops_call_is zRc (take2_con b) zSplit rfl rfl ?_
  refine zW ?_; refine zW ?_
  all_goals first | refine zW ?_ | (refine zG (fun hg => ?_) fun hg => ?_; case' _ => refine zW ?_)
  all_goals first | (refine zY ?_; refine aops_call_is zRc (take3_con b) zSplit rfl rfl ?_) | refine zSk ?_ | (refine zG (fun hg => ?_) fun hg => ?_; case' _ => refine aops_call_is zRc (take3_con b) zSplit rfl rfl ?_)
  iterate 2 all_goals first | refine zW ?_ | (refine zG (fun hg => ?_) fun hg => ?_; case' _ => refine zW ?_)
  all_goals (
    refine zW ?_; refine zW ?_
    refine awp_cond_f rfl zDec ?_
    iterate 3 refine zW ?_
    refine awp_unroll (awpin_sel [0, 4, 6] zRc zWk (awpin_step ?_))
    iterate 4 refine zW ?_
    refine aops_call_is zRc (num4_con b) zSplit rfl rfl ?_
    iterate 14 refine zW ?_
    refine awp_cond_f rfl zDec ?_
    iterate 12 refine zW ?_
    refine awp_cond_f rfl zDec ?_
    iterate 4 refine zW ?_
    refine aops_lit (e := 3) (sz := 1) (by_ := 8) rfl rfl zRc rfl rfl rfl rfl ?_
    first | refine aops_append (e := 3) (sz := 1) (by_ := 8) rfl zUpd rfl rfl rfl rfl rfl (by simp only [List.length_cons, List.length_nil, List.length_append, List.length_map, avs_len]; omega) (fun v54 hv54 => ?_) | refine aops_append_nil (e := 3) (sz := 1) (by_ := 8) rfl rfl rfl rfl rfl rfl (by simp only [List.length_cons, List.length_nil, List.length_append, List.length_map, avs_len]; omega) (fun v54 hv54 => ?_)
    iterate 8 refine zW ?_
    refine aops_call_is zRc (take5n_con b) zSplit rfl rfl ?_
    refine zW ?_; refine zW ?_
    refine awp_cond_f rfl zDec ?_
    iterate 5 refine zW ?_
    refine aops_call_is zRc (take5_con b) zSplit rfl rfl ?_
    iterate 3 refine zW ?_
    refine awp_cond_f rfl zDec ?_
    refine zW ?_; refine zW ?_
    refine seqQ_n (awpin_sel [0, 4, 6] zRc zWk (awpin_step ?_))
    iterate 4 refine zW ?_
    refine aops_call_is zRc (num6_con b) zSplit rfl rfl ?_
    iterate 14 refine zW ?_
    refine awp_cond_f rfl zDec ?_
    iterate 12 refine zW ?_
    refine awp_cond_f rfl zDec ?_
    iterate 4 refine zW ?_
    refine aops_lit (e := 3) (sz := 1) (by_ := 8) rfl rfl zRc rfl rfl rfl rfl ?_
    first | refine aops_append (e := 3) (sz := 1) (by_ := 8) rfl zUpd rfl rfl rfl rfl rfl (by simp only [List.length_cons, List.length_nil, List.length_append, List.length_map, avs_len]; omega) (fun v54 hv54 => ?_) | refine aops_append_nil (e := 3) (sz := 1) (by_ := 8) rfl rfl rfl rfl rfl rfl (by simp only [List.length_cons, List.length_nil, List.length_append, List.length_map, avs_len]; omega) (fun v54 hv54 => ?_)
    iterate 8 refine zW ?_
    refine aops_call_is zRc (take7n_con b) zSplit rfl rfl ?_
    refine zW ?_; refine zW ?_
    refine awp_cond_f rfl zDec ?_
    iterate 5 refine zW ?_
    refine aops_call_is zRc (take7_con b) zSplit rfl rfl ?_
    iterate 3 refine zW ?_
    refine awp_cond_f rfl zDec ?_
    refine zW ?_; refine zW ?_
    refine seqQ_n (awpin_sel [0, 4, 6] zRc zWk (awpin_step ?_))
    iterate 4 refine zW ?_
    refine aops_call_is zRc (num8_con b) zSplit rfl rfl ?_
    iterate 14 refine zW ?_
    refine awp_cond_f rfl zDec ?_
    iterate 12 refine zW ?_
    refine awp_cond_f rfl zDec ?_
    iterate 4 refine zW ?_
    refine aops_lit (e := 3) (sz := 1) (by_ := 8) rfl rfl zRc rfl rfl rfl rfl ?_
    first | refine aops_append (e := 3) (sz := 1) (by_ := 8) rfl zUpd rfl rfl rfl rfl rfl (by simp only [List.length_cons, List.length_nil, List.length_append, List.length_map, avs_len]; omega) (fun v54 hv54 => ?_) | refine aops_append_nil (e := 3) (sz := 1) (by_ := 8) rfl rfl rfl rfl rfl rfl (by simp only [List.length_cons, List.length_nil, List.length_append, List.length_map, avs_len]; omega) (fun v54 hv54 => ?_)
    iterate 8 refine zW ?_
    refine aops_call_is zRc (take9_con b) zSplit rfl rfl ?_
    refine zW ?_; refine zW ?_
    refine awp_cond_t rfl zDec ?_
    iterate 7 refine zW ?_
    refine zFz v54 [4,5] ?_
    iterate 5 refine zW ?_
    refine zPi ?_
    rfl
    )
theorem nparse_con : Con Tryz.prog 101 [.v (.string tT)] [] (Is (.tup [av m3.t, .i 0, .i 0]) []) := by
  have hcap : capB = 140737488355328 := rfl
  refine con_intro Tryz.func101 rfl Tryz.call101 rfl ?_
  refine zW ?_; refine zW ?_
  refine zAl fun b2 => ?_
  iterate 12 refine zW ?_
  refine awp_cond_f rfl zDec ?_
  iterate 6 refine zW ?_
  refine zBx fun b16 => ?_
  iterate 6 refine zW ?_
  refine aops_call_is zRc (next0_con b16) zSplit rfl rfl ?_
  iterate 4 refine zW ?_
  refine zAl fun b6 => ?_
  iterate 5 refine zW ?_
  refine aops_call_is zRc (num1_con b16) zSplit rfl rfl ?_
  iterate 13 refine zW ?_
  refine awp_cond_t rfl zDec ?_
  iterate 3 refine zW ?_
  refine aops_call_is zRc (rest_con b16) zSplit rfl rfl ?_
  iterate 13 refine zW ?_
  iterate 8 all_goals first | refine zW ?_ | (refine zG (fun hg => ?_) fun hg => ?_; case' _ => refine zW ?_)
  all_goals (
    refine zW ?_; refine zW ?_
    refine awp_cond_f rfl zDec ?_
    iterate 6 refine zW ?_
    refine aops_call_v zRc (validT_con m3.t (by decide)) rfl rfl ?_
    iterate 9 refine zW ?_
    refine awp_cond_f rfl zDec ?_
    iterate 11 refine zW ?_
    (refine zPi ?_; exact rfl)
    )
theorem line0_con : Con Tryz.prog 64 [.i 0, .v (.string (lnT 0))] [] (Is (.tup [mv m3, .i 0]) []) := by
  have hcap : capB = 140737488355328 := rfl
  refine con_intro Tryz.func64 rfl Tryz.call64 rfl ?_
  refine zW ?_; refine zW ?_
  refine zAl fun b4 => ?_
  iterate 10 refine zW ?_
  refine awp_cond_f rfl zDec ?_
  iterate 6 refine zW ?_
  refine aops_call_v zRc (itoa0_con) rfl rfl ?_
  refine aops_p (ap_sadd rfl rfl (by decide)) rfl rfl rfl ?_
  refine aops_call_v zRc (cut0_con) rfl rfl ?_
  iterate 14 refine zW ?_
  refine awp_cond_f rfl zDec ?_
  iterate 9 refine zW ?_
  refine awp_cond_f rfl zDec ?_
  iterate 5 refine zW ?_
  refine aops_call_v zRc (nparse_con) rfl rfl ?_
  iterate 4 refine zW ?_
  refine zAl fun b8 => ?_
  iterate 12 refine zW ?_
  refine awp_cond_f rfl zDec ?_
  iterate 11 refine zW ?_
  (refine zPi ?_; exact rfl)
theorem line1_con : Con Tryz.prog 64 [.i 1, .v (.string (lnT 1))] [] (Is (.tup [mv m3, .i 0]) []) := by
  have hcap : capB = 140737488355328 := rfl
  refine con_intro Tryz.func64 rfl Tryz.call64 rfl ?_
  refine zW ?_; refine zW ?_
  refine zAl fun b4 => ?_
  iterate 10 refine zW ?_
  refine awp_cond_f rfl zDec ?_
  iterate 6 refine zW ?_
  refine aops_call_v zRc (itoa1_con) rfl rfl ?_
  refine aops_p (ap_sadd rfl rfl (by decide)) rfl rfl rfl ?_
  refine aops_call_v zRc (cut1_con) rfl rfl ?_
  iterate 14 refine zW ?_
  refine awp_cond_f rfl zDec ?_
  iterate 9 refine zW ?_
  refine awp_cond_f rfl zDec ?_
  iterate 5 refine zW ?_
  refine aops_call_v zRc (nparse_con) rfl rfl ?_
  iterate 4 refine zW ?_
  refine zAl fun b8 => ?_
  iterate 12 refine zW ?_
  refine awp_cond_f rfl zDec ?_
  iterate 11 refine zW ?_
  (refine zPi ?_; exact rfl)
theorem line2_con : Con Tryz.prog 64 [.i 2, .v (.string (lnT 2))] [] (Is (.tup [mv m3, .i 0]) []) := by
  have hcap : capB = 140737488355328 := rfl
  refine con_intro Tryz.func64 rfl Tryz.call64 rfl ?_
  refine zW ?_; refine zW ?_
  refine zAl fun b4 => ?_
  iterate 10 refine zW ?_
  refine awp_cond_f rfl zDec ?_
  iterate 6 refine zW ?_
  refine aops_call_v zRc (itoa2_con) rfl rfl ?_
  refine aops_p (ap_sadd rfl rfl (by decide)) rfl rfl rfl ?_
  refine aops_call_v zRc (cut2_con) rfl rfl ?_
  iterate 14 refine zW ?_
  refine awp_cond_f rfl zDec ?_
  iterate 9 refine zW ?_
  refine awp_cond_f rfl zDec ?_
  iterate 5 refine zW ?_
  refine aops_call_v zRc (nparse_con) rfl rfl ?_
  iterate 4 refine zW ?_
  refine zAl fun b8 => ?_
  iterate 12 refine zW ?_
  refine awp_cond_f rfl zDec ?_
  iterate 11 refine zW ?_
  (refine zPi ?_; exact rfl)
theorem gsplit_con : Con Tryz.prog 97 [.v (.string tS0), .v (.string ⟨#[10]⟩), .i 0, .i (-1)] [] (Is (.sl 1 [.v (.string (lnT 0)), .v (.string (lnT 1)), .v (.string (lnT 2))]) []) := by
  have hcap : capB = 140737488355328 := rfl
  refine con_intro Tryz.func97 rfl Tryz.call97 rfl ?_
  iterate 12 refine zW ?_
  refine awp_cond_f rfl zDec ?_
  iterate 9 refine zW ?_
  refine awp_cond_f rfl zDec ?_
  iterate 9 refine zW ?_
  refine awp_cond_t rfl zDec ?_
  iterate 3 refine zW ?_
  refine aops_call_v zRc (count_con) rfl rfl ?_
  refine aops_p (ap_arith rfl rfl rfl (by decide)) rfl rfl rfl ?_
  iterate 8 refine zW ?_
  refine aops_p (ap_arith rfl rfl rfl (by decide)) rfl rfl rfl ?_
  iterate 7 refine zW ?_
  refine aops_make (N := 3) (l := [.v (.string ⟨#[]⟩), .v (.string ⟨#[]⟩), .v (.string ⟨#[]⟩)]) rfl rfl rfl rfl str3_made rfl str3_zero ⟨by decide, by decide⟩ rfl rfl (fun g => ?_)
  iterate 6 refine zW ?_
  refine aops_p (ap_arith rfl rfl rfl (by decide)) rfl rfl rfl ?_
  iterate 10 refine zW ?_
  refine awp_unroll (awpin_sel [0, 1, 2, 3, 9, 10] zRc zWk (awpin_step ?_))
  iterate 8 refine zW ?_
  refine awp_cond_t rfl zDec ?_
  iterate 7 refine zW ?_
  refine aops_call_v zRc (index0_con) rfl rfl ?_
  iterate 10 refine zW ?_
  refine awp_cond_f rfl zDec ?_
  iterate 9 refine zW ?_
  refine aops_p (ap_arith rfl rfl rfl (by decide)) rfl rfl rfl ?_
  refine aops_p (ap_slice_str_to (k := 17) rfl rfl rfl (by decide) (by decide)) rfl rfl rfl ?_
  refine aops_p (ap_index_own (k := 0) rfl rfl rfl rfl (by decide) (by decide)) rfl rfl rfl ?_
  refine aops_store_own1 (l := _) rfl rfl zScal zUpd rfl (by decide) ?_
  iterate 8 refine zW ?_
  refine aops_p (ap_arith rfl rfl rfl (by decide)) rfl rfl rfl ?_
  refine aops_p (ap_slice_str_from (k := 18) rfl rfl rfl (by decide) (by decide)) rfl rfl rfl ?_
  iterate 5 refine zW ?_
  refine aops_p (ap_arith rfl rfl rfl (by decide)) rfl rfl rfl ?_
  iterate 3 refine zW ?_
  refine seqQ_n (awpin_sel [0, 1, 2, 3, 9, 10] zRc zWk (awpin_step ?_))
  iterate 8 refine zW ?_
  refine awp_cond_t rfl zDec ?_
  iterate 7 refine zW ?_
  refine aops_call_v zRc (index1_con) rfl rfl ?_
  iterate 10 refine zW ?_
  refine awp_cond_f rfl zDec ?_
  iterate 9 refine zW ?_
  refine aops_p (ap_arith rfl rfl rfl (by decide)) rfl rfl rfl ?_
  refine aops_p (ap_slice_str_to (k := 17) rfl rfl rfl (by decide) (by decide)) rfl rfl rfl ?_
  refine aops_p (ap_index_own (k := 1) rfl rfl rfl rfl (by decide) (by decide)) rfl rfl rfl ?_
  refine aops_store_own1 (l := _) rfl rfl zScal zUpd rfl (by decide) ?_
  iterate 8 refine zW ?_
  refine aops_p (ap_arith rfl rfl rfl (by decide)) rfl rfl rfl ?_
  refine aops_p (ap_slice_str_from (k := 18) rfl rfl rfl (by decide) (by decide)) rfl rfl rfl ?_
  iterate 5 refine zW ?_
  refine aops_p (ap_arith rfl rfl rfl (by decide)) rfl rfl rfl ?_
  iterate 3 refine zW ?_
  refine seqQ_n (awpin_sel [0, 1, 2, 3, 9, 10] zRc zWk (awpin_step ?_))
  iterate 8 refine zW ?_
  refine awp_cond_f rfl zDec ?_
  iterate 10 refine zW ?_
  refine aops_p (ap_index_own (k := 2) rfl rfl rfl rfl (by decide) (by decide)) rfl rfl rfl ?_
  refine aops_store_own1 (l := _) rfl rfl zScal zUpd rfl (by decide) ?_
  iterate 3 refine zW ?_
  refine awp_freeze (.slice (some ⟨g, 0, none⟩) 3 3) [9,10] zRem zSelC zHeapA ?_
  iterate 3 refine zW ?_
  refine aops_p (ap_arith rfl rfl rfl (by decide)) rfl rfl rfl ?_
  refine aops_p (ap_slice_to (k := 3) rfl rfl rfl rfl (by decide) (by decide)) rfl rfl rfl ?_
  iterate 4 refine zW ?_
  refine zPi ?_
  kernel_rfl
theorem split_con : Con Tryz.prog 62 [.v (.string tS0), .v (.string ⟨#[10]⟩)] [] (Is (.sl 1 [.v (.string (lnT 0)), .v (.string (lnT 1)), .v (.string (lnT 2))]) []) := by
  have hcap : capB = 140737488355328 := rfl
  refine con_intro Tryz.func62 rfl Tryz.call62 rfl ?_
  iterate 9 refine zW ?_
  refine aops_call_v zRc (gsplit_con) rfl rfl ?_
  iterate 4 refine zW ?_
  (refine zPi ?_; exact rfl)
theorem cparse_con : Con Tryz.prog 27 [.v (.string tX)] [] (Is (.tup [cv c3, .i 0, .i 0]) []) := by
  have hcap : capB = 140737488355328 := rfl
  refine con_intro Tryz.func27 rfl Tryz.call27 rfl ?_
  refine zW ?_; refine zW ?_
  refine zAl fun b2 => ?_
  iterate 6 refine zW ?_
  refine zAl fun b5 => ?_
  iterate 10 refine zW ?_
  refine awp_cond_f rfl zDec ?_
  iterate 9 refine zW ?_
  refine awp_cond_f rfl zDec ?_
  iterate 6 refine zW ?_
  refine aops_call_v zRc (trim_con) rfl rfl ?_
  refine aops_call_v zRc (split_con) rfl rfl ?_
  first | refine zLn fun _ => ?_ | refine zW ?_
  iterate 4 refine zW ?_
  refine awp_unroll (awpin_sel [2, 5, 22, 23, 24] zRc zWk (awpin_step ?_))
  iterate 6 refine zW ?_
  refine awp_cond_t rfl zDec ?_
  iterate 7 refine zW ?_
  refine aops_p (ap_index (k := 0) rfl rfl rfl rfl (by decide) (by decide) rfl) rfl rfl rfl ?_
  iterate 9 refine zW ?_
  refine aops_call_v zRc (line0_con) rfl rfl ?_
  iterate 3 refine zW ?_
  refine zAl fun b8 => ?_
  iterate 11 refine zW ?_
  refine awp_cond_f rfl zDec ?_
  iterate 6 refine zW ?_
  refine aops_lit (e := 64) (sz := 4) (by_ := 64) rfl rfl zRc rfl rfl rfl rfl ?_
  first | refine aops_append (e := 64) (sz := 4) (by_ := 64) rfl zUpd rfl rfl rfl rfl rfl (by decide) (fun v45 hv45 => ?_) | refine aops_append_nil (e := 64) (sz := 4) (by_ := 64) rfl rfl rfl rfl rfl rfl (by decide) (fun v45 hv45 => ?_)
  iterate 6 refine zW ?_
  refine aops_p (ap_arith rfl rfl rfl (by decide)) rfl rfl rfl ?_
  refine zW ?_; refine zW ?_
  refine seqQ_n (awpin_sel [2, 5, 22, 23, 24] zRc zWk (awpin_step ?_))
  iterate 6 refine zW ?_
  refine awp_cond_t rfl zDec ?_
  iterate 7 refine zW ?_
  refine aops_p (ap_index (k := 1) rfl rfl rfl rfl (by decide) (by decide) rfl) rfl rfl rfl ?_
  iterate 9 refine zW ?_
  refine aops_call_v zRc (line1_con) rfl rfl ?_
  iterate 3 refine zW ?_
  refine zAl fun b8 => ?_
  iterate 11 refine zW ?_
  refine awp_cond_f rfl zDec ?_
  iterate 6 refine zW ?_
  refine aops_lit (e := 64) (sz := 4) (by_ := 64) rfl rfl zRc rfl rfl rfl rfl ?_
  first | refine aops_append (e := 64) (sz := 4) (by_ := 64) rfl zUpd rfl rfl rfl rfl rfl (by decide) (fun v45 hv45 => ?_) | refine aops_append_nil (e := 64) (sz := 4) (by_ := 64) rfl rfl rfl rfl rfl rfl (by decide) (fun v45 hv45 => ?_)
  iterate 6 refine zW ?_
  refine aops_p (ap_arith rfl rfl rfl (by decide)) rfl rfl rfl ?_
  refine zW ?_; refine zW ?_
  refine seqQ_n (awpin_sel [2, 5, 22, 23, 24] zRc zWk (awpin_step ?_))
  iterate 6 refine zW ?_
  refine awp_cond_t rfl zDec ?_
  iterate 7 refine zW ?_
  refine aops_p (ap_index (k := 2) rfl rfl rfl rfl (by decide) (by decide) rfl) rfl rfl rfl ?_
  iterate 9 refine zW ?_
  refine aops_call_v zRc (line2_con) rfl rfl ?_
  iterate 3 refine zW ?_
  refine zAl fun b8 => ?_
  iterate 11 refine zW ?_
  refine awp_cond_f rfl zDec ?_
  iterate 6 refine zW ?_
  refine aops_lit (e := 64) (sz := 4) (by_ := 64) rfl rfl zRc rfl rfl rfl rfl ?_
  first | refine aops_append (e := 64) (sz := 4) (by_ := 64) rfl zUpd rfl rfl rfl rfl rfl (by decide) (fun v45 hv45 => ?_) | refine aops_append_nil (e := 64) (sz := 4) (by_ := 64) rfl rfl rfl rfl rfl rfl (by decide) (fun v45 hv45 => ?_)
  iterate 6 refine zW ?_
  refine aops_p (ap_arith rfl rfl rfl (by decide)) rfl rfl rfl ?_
  refine zW ?_; refine zW ?_
  refine seqQ_n (awpin_sel [2, 5, 22, 23, 24] zRc zWk (awpin_step ?_))
  iterate 6 refine zW ?_
  refine awp_cond_f rfl zDec ?_
  iterate 7 refine zW ?_
  refine awp_freeze v45 [2,5] zRem zSelC zHeapA ?_
  iterate 3 refine zW ?_
  first | refine zLn fun _ => ?_ | refine zW ?_
  iterate 4 refine zW ?_
  refine awp_unroll (awpin_selH [2, 5, 49, 50, 51] [.box b2 _ _, .box b5 _ _] zRc zWk (awpin_step ?_))
  iterate 6 refine zW ?_
  refine awp_cond_t rfl zDec ?_
  iterate 7 refine zW ?_
  refine aops_p (ap_index (k := 0) rfl rfl rfl rfl (by decide) (by decide) rfl) rfl rfl rfl ?_
  refine zW ?_
  refine zAl fun b11 => ?_
  iterate 9 refine zW ?_
  first | refine zLn fun _ => ?_ | refine zW ?_
  refine aops_call_v zRc (member_con m3 (by decide) 3 (by decide)) rfl rfl ?_
  iterate 9 refine zW ?_
  refine awp_cond_f rfl zDec ?_
  iterate 4 refine zW ?_
  refine aops_p (ap_arith rfl rfl rfl (by decide)) rfl rfl rfl ?_
  refine zW ?_; refine zW ?_
  refine seqQ_n (awpin_selH [2, 5, 49, 50, 51] [.box b2 _ _, .box b5 _ _] zRc zWk (awpin_step ?_))
  iterate 6 refine zW ?_
  refine awp_cond_t rfl zDec ?_
  iterate 7 refine zW ?_
  refine aops_p (ap_index (k := 1) rfl rfl rfl rfl (by decide) (by decide) rfl) rfl rfl rfl ?_
  refine zW ?_
  refine zAl fun b11 => ?_
  iterate 9 refine zW ?_
  first | refine zLn fun _ => ?_ | refine zW ?_
  refine aops_call_v zRc (member_con m3 (by decide) 3 (by decide)) rfl rfl ?_
  iterate 9 refine zW ?_
  refine awp_cond_f rfl zDec ?_
  iterate 4 refine zW ?_
  refine aops_p (ap_arith rfl rfl rfl (by decide)) rfl rfl rfl ?_
  refine zW ?_; refine zW ?_
  refine seqQ_n (awpin_selH [2, 5, 49, 50, 51] [.box b2 _ _, .box b5 _ _] zRc zWk (awpin_step ?_))
  iterate 6 refine zW ?_
  refine awp_cond_t rfl zDec ?_
  iterate 7 refine zW ?_
  refine aops_p (ap_index (k := 2) rfl rfl rfl rfl (by decide) (by decide) rfl) rfl rfl rfl ?_
  refine zW ?_
  refine zAl fun b11 => ?_
  iterate 9 refine zW ?_
  first | refine zLn fun _ => ?_ | refine zW ?_
  refine aops_call_v zRc (member_con m3 (by decide) 3 (by decide)) rfl rfl ?_
  iterate 9 refine zW ?_
  refine awp_cond_f rfl zDec ?_
  iterate 4 refine zW ?_
  refine aops_p (ap_arith rfl rfl rfl (by decide)) rfl rfl rfl ?_
  refine zW ?_; refine zW ?_
  refine seqQ_n (awpin_selH [2, 5, 49, 50, 51] [.box b2 _ _, .box b5 _ _] zRc zWk (awpin_step ?_))
  iterate 6 refine zW ?_
  refine awp_cond_f rfl zDec ?_
  iterate 14 refine zW ?_
  refine zPi ?_
  rfl
theorem min3 : minQ c3 = [3, 5, 6] := by
  unfold minQ
  have h1 : quN c3 = [3, 5, 6, 7] := by kernel_rfl
  rw [h1]
  unfold sortN
  show leastGo [] ((sortI [3, 5, 6, 7]).map Int.toNat) = _
  rw [sortI_c3]
  kernel_rfl
theorem ints3_con : Con Tryz.prog 28 [.sl 1 (((minQ c3).map (fun s : Nat => (s : Int))).map .i), .sl 1 [.i 3, .i 5, .i 6]] [] (Is (.b true) []) := by
  have h := ints_con ((minQ c3).map (fun s : Nat => (s : Int))) [3, 5, 6]
  rw [decide_eq_true (by rw [min3]; rfl)] at h
  exact h
theorem ev2_ok : ∀ e ∈ [Ev.vote 0, .vote 2], e.own = true ∧ e.fr < c3.length := by decide
theorem x11 : validCl (⟨1, 1⟩ : Cl) = true := by decide
theorem awake_con : Con Tryz.prog 13 [] [] (Is (.b true) []) := by
  have hcap : capB = 140737488355328 := rfl
  refine con_intro Tryz.func13 rfl Tryz.call13 rfl ?_
  iterate 7 refine zW ?_
  refine aops_call_v zRc (cparse_con) rfl rfl ?_
  iterate 4 refine zW ?_
  refine zAl fun b1 => ?_
  iterate 8 refine zW ?_
  refine aops_call_v zRc (min_con c3 cfg_c3) rfl rfl ?_
  iterate 10 refine zW ?_
  refine zAl fun b6 => ?_
  iterate 7 refine zW ?_
  refine aops_p (AP.up (ap_build zKr rfl zRc zFill) (d' := plyD 1 0 0 (⟨1, 1⟩ : Cl)) (Up.agg (by repeat (first | exact UpL.nil | apply UpL.cons (by first | exact Up.same | exact Up.int | exact Up.nil))))) rfl rfl rfl ?_
  refine zW ?_
  refine aops_p (AP.up (ap_build zKr rfl zRc zFill) (d' := plyD 1 2 0 (⟨1, 1⟩ : Cl)) (Up.agg (by repeat (first | exact UpL.nil | apply UpL.cons (by first | exact Up.same | exact Up.int | exact Up.nil))))) rfl rfl rfl ?_
  refine aops_lit (e := 46) (sz := 15) (by_ := 216) rfl rfl zRc rfl rfl rfl rfl ?_
  (refine aops_call zRc (run_con c3 cfg_c3 (by decide) (⟨1, 1⟩ : Cl) x11 [Ev.vote 0, .vote 2] (by decide) ev2_ok) zSplit rfl rfl ?_; rintro _ _ ⟨rfl, q9, rfl⟩)
  iterate 4 refine zW ?_
  refine zAl fun b7 => ?_
  iterate 8 refine zW ?_
  (refine aops_call zRc (calm_con c3 cfg_c3 (by decide) (⟨1, 1⟩ : Cl) x11 _ (MI.run cfg_c3 x11 _ (MI.begin cfg_c3)) (SegI.run (ev_own fun e he => (ev2_ok e he).1))) zSplit rfl rfl ?_; rintro _ _ ⟨rfl, m1, rfl, hCal⟩)
  iterate 8 refine zW ?_
  have hlen : m1.vs.length = 3 := hCal.mi.len
  have h3 : decide ((((m1.vs.map vtv).length : Nat) : Int) = 3) = true := by rw [List.length_map, hlen]; rfl
  obtain ⟨v, hv⟩ : ∃ v, m1.vs[1]? = some v := ⟨_, List.getElem?_eq_getElem (by rw [hlen]; decide)⟩
  have hv' := getMap vtv hv
  refine zDr [] ?_
  refine zT 0 ?_
  refine zT 1 ?_
  refine zT 2 ?_
  refine zT 3 ?_
  refine zT 4 ?_
  refine zT 5 ?_
  refine zT 6 ?_
  refine zT 7 ?_
  refine zT 8 ?_
  refine zT 9 ?_
  refine zT 10 ?_
  refine zT 11 ?_
  refine zT 12 ?_
  refine zT 13 ?_
  refine zT 14 ?_
  refine zT 15 ?_
  refine zOn 16 ?_
  refine aops_lit (e := 3) (sz := 1) (by_ := 8) rfl rfl zRc rfl rfl rfl rfl ?_
  refine zW ?_
  refine zOn 17 ?_
  refine aops_call_v zRc (ints3_con) rfl rfl ?_
  refine zW ?_
  refine zT 18 ?_
  refine zT 19 ?_
  refine zT 20 ?_
  refine zT 21 ?_
  refine zT 22 ?_
  refine zT 23 ?_
  refine zT 24 ?_
  refine zT 25 ?_
  refine zT 26 ?_
  refine zT 27 ?_
  refine aany_take 28 rfl zGd zKr zKr zKr (AP.ar (ap_index (k := 1) rfl rfl rfl rfl (by decide) rfl hv')) rfl rfl ?_
  refine zT 29 ?_
  refine zT 30 ?_
  refine zT 31 ?_
  refine zOn 32 ?_
  refine aops_call_v zRc (rcl_con (awake_law x11 hCal.sends (hCal.quiet rfl) hv)) rfl rfl ?_
  refine zW ?_
  refine zT 33 ?_
  refine zT 34 ?_
  refine zW ?_
  all_goals (
    refine zW ?_; refine zW ?_
    (refine zPi ?_; exact rfl)
    )
theorem tsil_con (l : List Int) : Con Tryz.prog 3 [.sl 1 (l.map .i)] [] (Is (.b true) []) := tsil0_con awake_con l
end Go.Proofs.YtmolbagfkdbdnaaGreatDoor
