/- Walks: each says what one function of the program answers, for the arguments that its statement names. No condition beyond what each theorem says. -/
import Derived.Test.YtmolbagfkdbdnaaGreatDoorTopSilentW5
import Derived.Test.YtmolbagfkdbdnaaGreatDoorProg
import Derived.KernelRfl
import Derived.Tactics
import Derived.Tactics2
import Derived.StillTactics
import Derived.Shelf.SlSortCmp.Whole1
import Derived.Shelf.SlSortCmp.NoneTotal
import Derived.Shelf.Strconv.Atoi
set_option linter.unusedVariables false
set_option linter.unusedSimpArgs false
set_option maxRecDepth 4000
set_option maxHeartbeats 2000000
namespace Go.Proofs.YtmolbagfkdbdnaaGreatDoor
open Go Go.Av Go.Tq
theorem vfresh_con (v : Vt) (h : VSz v) : Con Tryz.prog 125 [vtv v] [] (Is (vtv v) []) := by
  have hcap : capB = 140737488355328 := rfl
  have hl3 : (v.hs.map msv).length = v.hs.length := by simp
  have hl4 := h.hl
  refine con_intro Tryz.func125 rfl Tryz.call125 rfl ?_
  refine zW ?_; refine zW ?_
  refine zBx fun b1 => ?_
  refine zAl fun b2 => ?_
  iterate 3 refine zW ?_
  refine awp_draw2 (stB [13, 14, 15, 16, 17, 18, 19]) (by kernel_rfl) ?_
  first | refine aany2_pure 0 rfl (.none rfl) zKr zKr zKr (ap_fieldAddr (off := 2) (sz := 3) (g := true) rfl rfl) rfl rfl ?_ | refine aany2_pure 0 rfl (.none rfl) zKr zKr zKr (ap_fieldAddr_el (off := 2) (sz := 3) (g := true) rfl rfl zRc) rfl rfl ?_
  first | refine aany2_take 1 rfl (.none rfl) zKr zKr zKr zKr (stB_out zKr) (aq_load rfl zUpd List.not_mem_nil rfl rfl zRc) rfl rfl ?_ | refine aany2_take 1 rfl (.none rfl) zKr zKr zKr zKr (stB_out zKr) (aq_load_el rfl rfl rfl rfl (fun _ h => absurd h List.not_mem_nil)) rfl rfl ?_
  first | refine aany2_pure 3 rfl (.none rfl) zKr zKr zKr (ap_fieldAddr (off := 5) (sz := 1) (g := false) rfl rfl) rfl rfl ?_ | refine aany2_pure 3 rfl (.none rfl) zKr zKr zKr (ap_fieldAddr_el (off := 5) (sz := 1) (g := false) rfl rfl zRc) rfl rfl ?_
  first | refine aany2_take 4 rfl (.none rfl) zKr zKr zKr zKr (stB_out zKr) (aq_load1 rfl zUpd List.not_mem_nil rfl zRc) rfl rfl ?_ | refine aany2_take 4 rfl (.none rfl) zKr zKr zKr zKr (stB_out zKr) (aq_load_el1 rfl rfl zScal (fun _ h => absurd h List.not_mem_nil)) rfl rfl ?_ | refine aany2_take 4 rfl (.none rfl) zKr zKr zKr zKr (stB_out zKr) (aq_load_el1' rfl rfl zScal (fun _ h => absurd h List.not_mem_nil)) rfl rfl ?_ | refine aany2_take 4 rfl (.none rfl) zKr zKr zKr zKr (stB_out zKr) (aq_load_own1 rfl zUpd List.not_mem_nil rfl (by first | with_reducible assumption | assumption | rfl) zScal) rfl rfl ?_
  first | refine aany2_pure 6 rfl (.none rfl) zKr zKr zKr (ap_fieldAddr (off := 6) (sz := 1) (g := false) rfl rfl) rfl rfl ?_ | refine aany2_pure 6 rfl (.none rfl) zKr zKr zKr (ap_fieldAddr_el (off := 6) (sz := 1) (g := false) rfl rfl zRc) rfl rfl ?_
  first | refine aany2_take 7 rfl (.none rfl) zKr zKr zKr zKr (stB_out zKr) (aq_load1 rfl zUpd List.not_mem_nil rfl zRc) rfl rfl ?_ | refine aany2_take 7 rfl (.none rfl) zKr zKr zKr zKr (stB_out zKr) (aq_load_el1 rfl rfl zScal (fun _ h => absurd h List.not_mem_nil)) rfl rfl ?_ | refine aany2_take 7 rfl (.none rfl) zKr zKr zKr zKr (stB_out zKr) (aq_load_el1' rfl rfl zScal (fun _ h => absurd h List.not_mem_nil)) rfl rfl ?_ | refine aany2_take 7 rfl (.none rfl) zKr zKr zKr zKr (stB_out zKr) (aq_load_own1 rfl zUpd List.not_mem_nil rfl (by first | with_reducible assumption | assumption | rfl) zScal) rfl rfl ?_
  first | refine aany2_pure 9 rfl (.none rfl) zKr zKr zKr (ap_fieldAddr (off := 7) (sz := 1) (g := false) rfl rfl) rfl rfl ?_ | refine aany2_pure 9 rfl (.none rfl) zKr zKr zKr (ap_fieldAddr_el (off := 7) (sz := 1) (g := false) rfl rfl zRc) rfl rfl ?_
  first | refine aany2_take 10 rfl (.none rfl) zKr zKr zKr zKr (stB_out zKr) (aq_load1 rfl zUpd List.not_mem_nil rfl zRc) rfl rfl ?_ | refine aany2_take 10 rfl (.none rfl) zKr zKr zKr zKr (stB_out zKr) (aq_load_el1 rfl rfl zScal (fun _ h => absurd h List.not_mem_nil)) rfl rfl ?_ | refine aany2_take 10 rfl (.none rfl) zKr zKr zKr zKr (stB_out zKr) (aq_load_el1' rfl rfl zScal (fun _ h => absurd h List.not_mem_nil)) rfl rfl ?_ | refine aany2_take 10 rfl (.none rfl) zKr zKr zKr zKr (stB_out zKr) (aq_load_own1 rfl zUpd List.not_mem_nil rfl (by first | with_reducible assumption | assumption | rfl) zScal) rfl rfl ?_
  refine aany2_call 2 zKr rfl zRc (vtrust_con 200000 (by omega) v.t h.t) rfl rfl ?_
  rintro _ _ ⟨rfl, rfl⟩
  refine ⟨rfl, ?_⟩
  first | refine aany2_pure 12 rfl (.none rfl) zKr zKr zKr (ap_fieldAddr (off := 2) (sz := 3) (g := true) rfl rfl) rfl rfl ?_ | refine aany2_pure 12 rfl (.none rfl) zKr zKr zKr (ap_fieldAddr_el (off := 2) (sz := 3) (g := true) rfl rfl zRc) rfl rfl ?_
  refine aany2_call 5 zKr rfl zRc (clc_con v.votes (by have := h.votes; omega)) rfl rfl ?_
  rintro _ _ ⟨rfl, rfl⟩
  refine ⟨rfl, ?_⟩
  refine aany2_call 8 zKr rfl zRc (clc_con v.acc (by have := h.acc; omega)) rfl rfl ?_
  rintro _ _ ⟨rfl, rfl⟩
  refine ⟨rfl, ?_⟩
  refine aany2_call 11 zKr rfl zRc (clc_con v.cf (by have := h.cf; omega)) rfl rfl ?_
  rintro _ _ ⟨rfl, rfl⟩
  refine ⟨rfl, ?_⟩
  refine aany2_switch (Hm := [.box b1 _ _]) (by kernel_rfl) (by kernel_rfl) (by repeat (first | exact .nil | exact Split.none _ | apply Split.left | apply Split.right)) ?_
  refine zOn 13 ?_
  refine zW ?_; refine zW ?_
  refine zT 14 ?_
  refine zOn 15 ?_
  refine zW ?_; refine zW ?_
  refine zT 16 ?_
  refine zOn 17 ?_
  refine zW ?_; refine zW ?_
  refine zT 18 ?_
  refine zOn 19 ?_
  iterate 3 refine zW ?_
  all_goals (
    iterate 18 refine zW ?_
    first | refine zLn fun _ => ?_ | refine zW ?_
    iterate 4 refine zW ?_
    refine awp_loop3 [1, 2, 25, 26] [.box b2 _ _] (fun (k : Nat) (u : Value) (q : List Msg) r => (27, .i (k : Int)) :: r) (fun k u q r => .box b1 57 [.i v.node, .i v.seq, .i v.t.th, .sl 1 (v.t.nodes.map .i), .sl 3 (avs v.t.inner), .sl 2 (v.votes.map clv), .sl 2 (v.acc.map clv), .sl 2 (v.cf.map clv), .v u] :: .arr u 44 7 (q.map msv) :: r) (fun k u q => k ≤ v.hs.length ∧ q = v.hs.take k) (fun k u q => v.hs.length - k) (0) (.slice none 0 0) ([]) zRc ⟨by omega, by simp⟩ ((wk_own 44 7 rfl).trans (zWk)) ?_
    intro k u q ⟨hk, hI⟩
    have hql : q.length = k := by rw [hI]; simp; omega
    iterate 6 refine zW ?_
    refine zC (fun hc => ?_) fun hc => ?_
    · have hlt : k < v.hs.length := by have := of_decide_eq_true hc; omega
      obtain ⟨x, hx, hd⟩ := drop_cons hlt
      have hx' := getMap msv hx
      have hxm := List.mem_of_getElem? hx
      iterate 8 refine zW ?_
      refine zAl fun b5 => ?_
      iterate 3 refine zW ?_
      refine zDr [.box b1 _ _, .arr u _ _ _] ?_
      refine zT 0 ?_
      refine zT 2 ?_
      refine zE2 1 3 ?_ ?_
      rotate_left
      case' _ =>
        refine aops_call_v zRc (vmsg_con x (h.hs x hxm).1 (h.hs x hxm).2.1 (h.hs x hxm).2.2) rfl rfl ?_
        refine zW ?_
        refine zE2 1 4 ?_ ?_
        rotate_left
        case' _ =>
          refine aops_lit (e := 44) (sz := 7) (by_ := 120) rfl rfl zRc rfl rfl rfl rfl ?_
          refine zW ?_
          refine zOn 1 ?_
          refine zW ?_; refine zW ?_
          refine zOn 5 ?_
          first | refine aops_append (e := 44) (sz := 7) (by_ := 120) rfl zUpd rfl rfl rfl rfl rfl (by simp only [List.length_cons, List.length_nil, List.length_append, List.length_map, avs_len]; omega) (fun v36 hv36 => ?_) | refine aops_append_nil (e := 44) (sz := 7) (by_ := 120) rfl rfl rfl rfl rfl rfl (by simp only [List.length_cons, List.length_nil, List.length_append, List.length_map, avs_len]; omega) (fun v36 hv36 => ?_)
          refine zW ?_
          refine zT 6 ?_
          refine zOn 7 ?_
          iterate 3 refine zW ?_
        rotate_right
        case' _ =>
          refine zW ?_; refine zW ?_
          refine zOn 4 ?_
          refine aops_lit (e := 44) (sz := 7) (by_ := 120) rfl rfl zRc rfl rfl rfl rfl ?_
          refine zW ?_
          refine zOn 5 ?_
          first | refine aops_append (e := 44) (sz := 7) (by_ := 120) rfl zUpd rfl rfl rfl rfl rfl (by simp only [List.length_cons, List.length_nil, List.length_append, List.length_map, avs_len]; omega) (fun v36 hv36 => ?_) | refine aops_append_nil (e := 44) (sz := 7) (by_ := 120) rfl rfl rfl rfl rfl rfl (by simp only [List.length_cons, List.length_nil, List.length_append, List.length_map, avs_len]; omega) (fun v36 hv36 => ?_)
          refine zW ?_
          refine zT 6 ?_
          refine zOn 7 ?_
          iterate 3 refine zW ?_
      rotate_right
      case' _ =>
        refine zW ?_; refine zW ?_
        refine zOn 3 ?_
        refine aops_call_v zRc (vmsg_con x (h.hs x hxm).1 (h.hs x hxm).2.1 (h.hs x hxm).2.2) rfl rfl ?_
        refine zW ?_
        refine zOn 4 ?_
        refine aops_lit (e := 44) (sz := 7) (by_ := 120) rfl rfl zRc rfl rfl rfl rfl ?_
        refine zW ?_
        refine zOn 5 ?_
        first | refine aops_append (e := 44) (sz := 7) (by_ := 120) rfl zUpd rfl rfl rfl rfl rfl (by simp only [List.length_cons, List.length_nil, List.length_append, List.length_map, avs_len]; omega) (fun v36 hv36 => ?_) | refine aops_append_nil (e := 44) (sz := 7) (by_ := 120) rfl rfl rfl rfl rfl rfl (by simp only [List.length_cons, List.length_nil, List.length_append, List.length_map, avs_len]; omega) (fun v36 hv36 => ?_)
        refine zW ?_
        refine zT 6 ?_
        refine zOn 7 ?_
        iterate 3 refine zW ?_
      all_goals (
        iterate 7 refine zW ?_
        rw [show D.agg [.i x.node, .i x.seq, .i x.t.th, .sl 1 (x.t.nodes.map .i), .sl 3 (avs x.t.inner), .sl 2 (x.votes.map clv), .sl 2 (x.acc.map clv)] = msv x from rfl, msv_snoc2]
        refine ⟨k + 1, _, _, ⟨by omega, ?_⟩, by omega, zWk⟩
        rw [hI, List.take_add_one, hx]; simp
        )
    · have hge : v.hs.length ≤ k := by have := of_decide_eq_false hc; omega
      refine zFz u [1,2] ?_
      iterate 12 refine zW ?_
      refine zPi ?_
      rw [hI, List.take_of_length_le (by omega)]; rfl
    )
theorem cl_rng {x : Cl} (h : validCl x = true) : (-9223372036854775808 ≤ x.a ∧ x.a ≤ 9223372036854775807) ∧ (-9223372036854775808 ≤ x.b ∧ x.b ≤ 9223372036854775807) := by
  unfold validCl at h
  simp only [Bool.and_eq_true, decide_eq_true_eq] at h
  omega
theorem cons_con (l : List Cl) (hl : l.length ≤ 1) (hv : ∀ x ∈ l, validCl x = true) : Con Tryz.prog 92 [.sl 2 (l.map clv)] [] (Is (.b true) []) := by
  have hcap : capB = 140737488355328 := rfl
  have hml : (l.map clv).length = l.length := by simp
  refine con_intro Tryz.func92 rfl Tryz.call92 rfl ?_
  iterate 7 refine zW ?_
  refine aops_makeMap rfl rfl (fun b8 => ?_)
  iterate 7 refine zW ?_
  first | refine zLn fun _ => ?_ | refine zW ?_
  iterate 4 refine zW ?_
  refine awp_loop2 [3, 9, 10] [] (fun (k : Nat) (e : Bool) r => (11, .i (k : Int)) :: r) (fun k e r => .mp b8 e :: r) (fun k e => k ≤ l.length ∧ (k = 0 → e = true)) (fun k e => l.length - k) (0) (true) zRc ⟨by omega, fun _ => rfl⟩ (zWk) ?_
  intro k e ⟨hk, he⟩
  iterate 6 refine zW ?_
  refine zC (fun hc => ?_) fun hc => ?_
  · have hlt : k < l.length := by have := of_decide_eq_true hc; omega
    obtain ⟨x, hx, hd⟩ := drop_cons hlt
    have hx' := getMap clv hx
    have hxv := cl_rng (hv x (List.mem_of_getElem? hx))
    obtain rfl := he (by omega)
    iterate 8 refine zW ?_
    refine zAl fun b5 => ?_
    iterate 9 refine zW ?_
    refine aops_lookup0 rfl rfl hxv.1 zUpd rfl rfl rfl (fun _ => rfl) rfl rfl ?_
    iterate 11 refine zW ?_
    iterate 5 all_goals first | refine zW ?_ | (refine zG (fun hg => ?_) fun hg => ?_; case' _ => refine zW ?_)
    all_goals (
      refine zW ?_; refine zW ?_
      refine awp_cond_f rfl zDec ?_
      iterate 8 refine zW ?_
      refine aops_mapUpdate0 rfl rfl rfl hxv.1 hxv.2 zUpd rfl rfl rfl ?_
      iterate 8 refine zW ?_
      refine ⟨k + 1, false, ⟨by omega, fun h => absurd h (by omega)⟩, by omega, zWk⟩
      )
  · iterate 11 refine zW ?_
    (refine zPi ?_; exact rfl)
theorem growC_con (n : Nat) (hn : 0 < n ∧ n ≤ 1000) : Con Tryz.prog 201 [.nil, .i n] [] (fun d H => ∃ v, d = .v v ∧ H = [.arr v 36 2 []]) := by
  have hcap : capB = 140737488355328 := rfl
  refine con_intro Tryz.func201 rfl Tryz.call201 rfl ?_
  iterate 12 refine zW ?_
  refine awp_cond_f rfl zDec ?_
  iterate 7 refine zW ?_
  refine aops_p (ap_cap_nil rfl rfl) rfl rfl rfl ?_
  refine zW ?_
  refine aops_p (ap_len_nil rfl rfl) rfl rfl rfl ?_
  refine zW ?_
  refine aops_p (ap_arith (m := (n : Int)) rfl rfl (by simp only [addI, Option.some.injEq]; omega) (by omega)) rfl rfl rfl ?_
  iterate 9 refine zW ?_
  refine awp_cond_t rfl zDec ?_
  iterate 3 refine zW ?_
  refine aops_p (ap_cap_nil rfl rfl) rfl rfl rfl ?_
  refine aops_p (ap_slice_nil_to rfl rfl rfl rfl rfl) rfl rfl rfl ?_
  refine zW ?_
  refine aops_grow0 (e := 36) (sz := 2) (by_ := 16) rfl rfl rfl rfl rfl rfl rfl (by omega) rfl (by omega) (fun g cap hcap => ?_)
  refine zW ?_
  refine aops_p (ap_len_nil rfl rfl) rfl rfl rfl ?_
  refine aops_p (ap_slice_val_to (k := 0) rfl rfl rfl rfl rfl (by omega)) rfl rfl rfl ?_
  iterate 10 refine zW ?_
  exact post_ret (.tmp rfl .nil) zKeep ⟨_, rfl, rfl⟩
theorem concat_con (A B : List Cl) (hA : A.length ≤ 100) (hB : B.length ≤ 100) (h0 : 0 < A.length + B.length) : Con Tryz.prog 180 [.sl 1 [.sl 2 (A.map clv), .sl 2 (B.map clv)]] [] (fun d H => ∃ v, d = .v v ∧ H = [.arr v 36 2 ((A ++ B).map clv)]) := by
  have hcap : capB = 140737488355328 := rfl
  have hmA : (A.map clv).length = A.length := by simp
  have hmB : (B.map clv).length = B.length := by simp
  have hAB : [D.sl 2 (A.map clv), D.sl 2 (B.map clv)].length = 2 := rfl
  refine con_intro Tryz.func180 rfl Tryz.call180 rfl ?_
  iterate 14 refine zW ?_
  first | refine zLn fun _ => ?_ | refine zW ?_
  iterate 4 refine zW ?_
  refine awp_loop2 [0, 9, 10] [] (fun (k : Nat) (s : Nat) r => (3, .i (s : Int)) :: (11, .i (k : Int)) :: r) (fun k s r => r) (fun k s => k ≤ 2 ∧ (k = 0 → s = 0) ∧ (k = 1 → s = A.length) ∧ (k = 2 → s = A.length + B.length)) (fun k s => 2 - k) (0) (0) zRc ⟨by omega, fun _ => rfl, fun h => absurd h (by omega), fun h => absurd h (by omega)⟩ (zWk) ?_
  intro k s ⟨hk, h0', h1', h2'⟩
  have hs : s ≤ 200 := by omega
  iterate 6 refine zW ?_
  refine zC (fun hc => ?_) fun hc => ?_
  · have hlt : k < 2 := by have := of_decide_eq_true hc; omega
    iterate 5 refine zW ?_
    obtain rfl | rfl : k = 0 ∨ k = 1 := by omega
    all_goals (
      iterate 10 refine zW ?_
      first | refine zLn fun _ => ?_ | refine zW ?_
      iterate 10 refine zW ?_
      refine awp_cond_f rfl zDec ?_
      iterate 8 refine zW ?_
      first
      | (rw [show ((s : Nat) : Int) + ((A.map clv).length : Int) = ((A.length : Nat) : Int) by have := h0' rfl; omega]; refine ⟨1, A.length, ⟨by omega, fun h => absurd h (by omega), fun _ => rfl, fun h => absurd h (by omega)⟩, by omega, zWk⟩)
      | (rw [show ((s : Nat) : Int) + ((B.map clv).length : Int) = ((A.length + B.length : Nat) : Int) by have := h1' rfl; omega]; refine ⟨2, A.length + B.length, ⟨by omega, fun h => absurd h (by omega), fun h => absurd h (by omega), fun _ => rfl⟩, by omega, zWk⟩)
      )
  · have hge : k = 2 := by have := of_decide_eq_false hc; omega
    iterate 6 refine zW ?_
    have hs2 := h2' hge
    refine zW ?_; refine zW ?_
    (refine aops_call zRc (growC_con s (by omega)) zSplit rfl rfl ?_; rintro _ _ ⟨v24, rfl, rfl⟩)
    iterate 7 refine zW ?_
    first | refine zLn fun _ => ?_ | refine zW ?_
    iterate 4 refine zW ?_
    refine awp_loop3 [25, 26] [] (fun (k : Nat) (v : Value) (q : List Cl) r => (6, .v v) :: (27, .i (k : Int)) :: r) (fun k v q r => .arr v 36 2 (q.map clv) :: r) (fun k v q => k ≤ 2 ∧ (k = 0 → q = []) ∧ (k = 1 → q = A) ∧ (k = 2 → q = A ++ B)) (fun k v q => 2 - k) (0) (v24) ([]) zRc ⟨by omega, fun _ => rfl, fun h => absurd h (by omega), fun h => absurd h (by omega)⟩ (zWk) ?_
    intro k v q ⟨hk, h0', h1', h2'⟩
    have hqm : (q.map clv).length = q.length := by simp
    iterate 6 refine zW ?_
    refine zC (fun hc => ?_) fun hc => ?_
    · have hlt : k < 2 := by have := of_decide_eq_true hc; omega
      iterate 5 refine zW ?_
      obtain rfl | rfl : k = 0 ∨ k = 1 := by omega
      all_goals (
        iterate 9 refine zW ?_
        first | refine aops_append (e := 36) (sz := 2) (by_ := 16) rfl zUpd rfl rfl rfl rfl rfl (by first | (have h7 := h0' rfl; subst h7; simp only [List.length_map, List.length_nil, List.length_append]; omega) | (have h7 := h1' rfl; subst h7; simp only [List.length_map, List.length_append]; omega)) (fun v33 hv33 => ?_) | refine aops_append_nil (e := 36) (sz := 2) (by_ := 16) rfl rfl rfl rfl rfl rfl (by first | (have h7 := h0' rfl; subst h7; simp only [List.length_map, List.length_nil, List.length_append]; omega) | (have h7 := h1' rfl; subst h7; simp only [List.length_map, List.length_append]; omega)) (fun v33 hv33 => ?_)
        iterate 9 refine zW ?_
        rw [← List.map_append]
        first
        | (refine ⟨1, _, _, ⟨by omega, fun h => absurd h (by omega), fun _ => ?_, fun h => absurd h (by omega)⟩, by omega, zWk⟩; rw [h0' rfl]; rfl)
        | (refine ⟨2, _, _, ⟨by omega, fun h => absurd h (by omega), fun h => absurd h (by omega), fun _ => ?_⟩, by omega, zWk⟩; rw [h1' rfl])
        )
    · have hge : k = 2 := by have := of_decide_eq_false hc; omega
      iterate 12 refine zW ?_
      have e := h2' hge
      subst e
      exact post_ret (.tmp rfl .nil) zKeep ⟨v, rfl, rfl⟩
theorem cmpSelf (x : Cl) : Con Tryz.prog 136 [.agg [.i x.a, .i x.b], .agg [.i x.a, .i x.b]] [] (Is (.i 0) []) := by
  have h := ccmp_con x x
  rw [cmpC_self] at h
  exact h
theorem rep_agg {x : Cl} {n k : Nat} (h : k < n) : ((List.replicate n x).map clv)[k]? = some (.agg [.i x.a, .i x.b]) := rep_get h
theorem insC_con (n : Nat) (hn : n ≤ 12) (x : Cl) (v : Value) : Con Tryz.prog 228 [.v v, .i 0, .i n, .v (.func (.func 136) #[] #[])] [.arr v 36 2 ((List.replicate n x).map clv)] (Is (.tup []) [.arr v 36 2 ((List.replicate n x).map clv)]) := by
  have hcap : capB = 140737488355328 := rfl
  have hrl : ((List.replicate n x).map clv).length = n := rep_len x n
  refine con_intro Tryz.func228 rfl Tryz.call228 rfl ?_
  iterate 8 refine zW ?_
  refine awp_loop1 [0, 1, 2, 3] [.arr _ _ _ _] (fun (i : Nat) r => (8, .i (i : Int)) :: r) (fun i r => r) (fun i => 1 ≤ i ∧ i ≤ n + 1) (fun i => n + 1 - i) (1) zRc ⟨by omega, by omega⟩ (zWk) ?_
  intro i ⟨hi1, hi2⟩
  iterate 8 refine zW ?_
  refine zC (fun hc => ?_) fun hc => ?_
  · have hlt := of_decide_eq_true hc
    refine awp_arr_openc zUpd (by intro e; have h5 := congrArg List.length e; rw [hrl] at h5; simp only [List.length_nil] at h5; omega) (fun g cap hcp hv => ?_)
    subst hv
    rw [hrl] at hcp
    iterate 11 refine zW ?_
    refine awp_loop1 [0, 1, 2, 3, 8] [.arr _ _ _ _] (fun (j : Nat) r => (9, .i (j : Int)) :: r) (fun j r => r) (fun j => j = i) (fun j => 0) (i) zRc rfl (zWk) ?_
    intro j hj
    subst hj
    refine zW ?_; refine zW ?_
    refine zDr [] ?_
    refine zT 0 ?_
    refine zT 1 ?_
    refine zT 2 ?_
    refine zT 3 ?_
    refine aany_guard 3 rfl (fun hg => ?_) fun hg => ?_
    rotate_left
    case' _ =>
      first
      | (exact absurd hg (by decide))
      | (exfalso; simp at hg; done)
      | (refine zK 4 ?_
         refine zK 5 ?_
         refine zK 6 ?_
         refine zK 7 ?_
         refine zK 8 ?_
         refine zK 9 ?_
         refine zK 10 ?_
         refine zK 11 ?_
         refine zK 12 ?_
         refine zK 13 ?_
         refine zK 14 ?_
         refine zK 15 ?_
         refine zT 16 ?_
         refine zW ?_
        )
    rotate_right
    case' _ =>
      first
      | (exact absurd hg (by decide))
      | (exfalso; simp at hg; done)
      | (refine zT 4 ?_
         refine zT 5 ?_
         refine zT 6 ?_
         refine aany_take 7 rfl zGd zKr zKr zKr (AP.ar (ap_index_own (k := j) rfl rfl rfl rfl (by omega) (by omega))) rfl rfl ?_
         refine aany_take 8 rfl zGd zKr zKr zKr (ar_load_ownF (k := j) (off := 0) (sz := 2) rfl zUpd rfl rfl (rep_agg (x := x) (n := n) (by omega)) zRc) rfl rfl ?_
         refine zT 9 ?_
         refine zT 10 ?_
         refine zT 11 ?_
         refine aany_take 12 rfl zGd zKr zKr zKr (AP.ar (ap_index_own (k := j - 1) rfl rfl rfl rfl (by omega) (by omega))) rfl rfl ?_
         refine aany_take 13 rfl zGd zKr zKr zKr (ar_load_ownF (k := (j - 1)) (off := 0) (sz := 2) rfl zUpd rfl rfl (rep_agg (x := x) (n := n) (by omega)) zRc) rfl rfl ?_
         refine zOn 14 ?_
         refine aops_callv_v (caps := []) rfl zRc (cmpSelf x) rfl rfl ?_
         refine zW ?_
         refine zT 15 ?_
         refine zT 16 ?_
         refine zW ?_
        )
    all_goals (
      refine zW ?_
      refine awp_cond_f rfl zDec ?_
      iterate 12 refine zW ?_
      refine ⟨j + 1, ⟨by omega, by omega⟩, by omega, zWk⟩
      )
  · iterate 4 refine zW ?_
    exact post_is_end .nil zKeep rfl
theorem pdqC_con (n : Nat) (hn : n ≤ 12) (x : Cl) (rr : Int) (v : Value) : Con Tryz.prog 220 [.v v, .i 0, .i n, .i rr, .v (.func (.func 136) #[] #[])] [.arr v 36 2 ((List.replicate n x).map clv)] (Is (.tup []) [.arr v 36 2 ((List.replicate n x).map clv)]) := by
  have hcap : capB = 140737488355328 := rfl
  have hrl : ((List.replicate n x).map clv).length = n := rep_len x n
  refine con_intro Tryz.func220 rfl Tryz.call220 rfl ?_
  iterate 11 refine zW ?_
  refine awp_loop1 [0, 4] [.arr _ _ _ _] (fun (z : Nat) r => (1, .i 0) :: (2, .i n) :: (3, .i rr) :: (10, .b true) :: (11, .b true) :: r) (fun z r => r) (fun z => z = 0) (fun z => z) (0) zRc rfl (zWk) ?_
  intro z hz
  iterate 16 refine zW ?_
  refine awp_cond_t rfl zDec ?_
  iterate 6 refine zW ?_
  (refine aops_call zRc (insC_con n hn x v) zSplit rfl rfl ?_; rintro _ _ ⟨rfl, rfl⟩)
  iterate 7 refine zW ?_
  exact post_is .nil zKeep rfl
theorem sortC_con (n : Nat) (hn : n ≤ 12) (x : Cl) (v : Value) : Con Tryz.prog 199 [.v v, .v (.func (.func 136) #[] #[])] [.arr v 36 2 ((List.replicate n x).map clv)] (Is (.tup []) [.arr v 36 2 ((List.replicate n x).map clv)]) := by
  have hcap : capB = 140737488355328 := rfl
  have hrl : ((List.replicate n x).map clv).length = n := rep_len x n
  refine con_intro Tryz.func199 rfl Tryz.call199 rfl ?_
  iterate 3 refine zW ?_
  first | refine zLn fun _ => ?_ | refine zW ?_
  iterate 4 refine zW ?_
  (rw [hrl]; refine zW ?_)
  iterate 3 refine zW ?_
  (rw [u64n (n := n) (by omega)]; (refine aops_call zRc (blen_con n (by omega)) zSplit rfl rfl ?_; rintro _ _ ⟨r11, rfl, rfl⟩))
  refine zW ?_
  (refine aops_call zRc (pdqC_con n hn x r11 v) zSplit rfl rfl ?_; rintro _ _ ⟨rfl, rfl⟩)
  refine zW ?_
  exact post_is_end .nil zKeep rfl
theorem compC_con (n : Nat) (hn : n ≤ 1000) (x : Cl) (v : Value) : Con Tryz.prog 200 [.v v] [.arr v 36 2 ((List.replicate n x).map clv)] (fun d H => ∃ u, d = .v u ∧ H = [.arr u 36 2 ((List.replicate (min n 1) x).map clv)]) := by
  have hcap : capB = 140737488355328 := rfl
  have hrl : ((List.replicate n x).map clv).length = n := rep_len x n
  refine con_intro Tryz.func200 rfl Tryz.call200 rfl ?_
  iterate 9 refine zW ?_
  first | refine zLn fun _ => ?_ | refine zW ?_
  iterate 3 refine zW ?_
  refine zC (fun hc => ?_) fun hc => ?_
  · have hlt := of_decide_eq_true hc
    iterate 8 refine zW ?_
    have e : min n 1 = n := by omega
    rw [e]
    exact post_ret (.tmp rfl .nil) zKeep ⟨_, rfl, rfl⟩
  · have hge := of_decide_eq_false hc
    refine awp_arr_openc zUpd (by intro e; have h5 := congrArg List.length e; rw [hrl] at h5; simp only [List.length_nil] at h5; omega) (fun g cap hcp hv => ?_)
    subst hv
    rw [hrl] at hcp
    have hcut : ([] : List Nat) = [] := rfl
    iterate 9 refine zW ?_
    refine awp_loop1 [0] [.arr _ _ _ _] (fun (z : Nat) r => (3, .i (1 : Int)) :: r) (fun z r => r) (fun z => z = 0) (fun z => z) (0) zRc rfl (zWk) ?_
    intro z hz
    iterate 5 refine zW ?_
    first | refine zLn fun _ => ?_ | refine zW ?_
    iterate 3 refine zW ?_
    refine awp_cond_t rfl zDec ?_
    iterate 5 refine zW ?_
    refine zDr [] ?_
    refine zT 0 ?_
    refine zT 1 ?_
    refine aany_take 2 rfl zGd zKr zKr zKr (AP.ar (ap_index_own (k := 1) rfl rfl rfl rfl (by omega) (by omega))) rfl rfl ?_
    refine aany_take 3 rfl zGd zKr zKr zKr (ar_load_ownF (k := 1) (off := 0) (sz := 2) rfl zUpd rfl rfl (rep_agg (x := x) (n := n) (by omega)) zRc) rfl rfl ?_
    refine zT 4 ?_
    refine zT 5 ?_
    refine zT 6 ?_
    refine aany_take 7 rfl zGd zKr zKr zKr (AP.ar (ap_index_own (k := 0) rfl rfl rfl rfl (by omega) (by omega))) rfl rfl ?_
    refine aany_take 8 rfl zGd zKr zKr zKr (ar_load_ownF (k := 0) (off := 0) (sz := 2) rfl zUpd rfl rfl (rep_agg (x := x) (n := n) (by omega)) zRc) rfl rfl ?_
    refine aany_take 9 rfl zGd zKr zKr zKr (AP.ar (ap_eq2 rfl rfl eq2_36)) rfl rfl ?_
    refine zW ?_
    all_goals (
      refine zW ?_
      refine awp_cond_t rfl (by simp) ?_
      iterate 4 refine zW ?_
      refine aops_p (ap_slice_own_from (k := 1) rfl zUpd rfl rfl rfl rfl (by omega)) rfl rfl rfl ?_
      iterate 10 refine zW ?_
      refine awp_loop1 [0, 4] [.arr _ _ _ _] (fun (j : Nat) r => (3, .i (1 : Int)) :: (5, .i (j : Int)) :: r) (fun j r => r) (fun j => 1 ≤ j ∧ j ≤ n) (fun j => n - j) (1) zRc ⟨by omega, by omega⟩ (zWk) ?_
      intro j ⟨hj1, hj2⟩
      iterate 5 refine zW ?_
      refine aops_p (ap_len_val rfl ⟨_, rfl⟩) rfl rfl rfl ?_
      iterate 3 refine zW ?_
      refine zC (fun hc => ?_) fun hc => ?_
      · have hlt := of_decide_eq_true hc
        iterate 5 refine zW ?_
        refine zDr [] ?_
        refine zT 0 ?_
        refine zT 1 ?_
        refine aany_take 2 rfl zGd zKr zKr zKr (AP.ar (ap_index_cut (m := 1) (k := j) (cap := cap) rfl rfl rfl rfl (by omega) (by omega) (by omega))) rfl rfl ?_
        refine aany_take 3 rfl zGd zKr zKr zKr (ar_load_ownF (k := (1 + j)) (off := 0) (sz := 2) rfl zUpd rfl rfl (rep_agg (x := x) (n := n) (by omega)) zRc) rfl rfl ?_
        refine zT 4 ?_
        refine zT 5 ?_
        refine zT 6 ?_
        refine aany_take 7 rfl zGd zKr zKr zKr (AP.ar (ap_index_cut (m := 1) (k := j - 1) (cap := cap) rfl rfl rfl rfl (by omega) (by omega) (by omega))) rfl rfl ?_
        refine aany_take 8 rfl zGd zKr zKr zKr (ar_load_ownF (k := (1 + (j - 1))) (off := 0) (sz := 2) rfl zUpd rfl rfl (rep_agg (x := x) (n := n) (by omega)) zRc) rfl rfl ?_
        refine aany_take 9 rfl zGd zKr zKr zKr (AP.ar (ap_ne2 rfl rfl eq2_36)) rfl rfl ?_
        refine zW ?_
        all_goals (
          refine zW ?_
          refine awp_cond_f rfl (by simp) ?_
          iterate 9 refine zW ?_
          refine ⟨j + 1, ⟨by omega, by omega⟩, by omega, zWk⟩
          )
      · iterate 9 refine zW ?_
        refine aops_p (ap_slice_own_from (k := 1) rfl zUpd rfl rfl rfl rfl (by omega)) rfl rfl rfl ?_
        refine aops_clear_cut (k := 1) (us := [.int .i64 0, .int .i64 0]) rfl zUpd rfl (by kernel_rfl) rfl (by intro u hu; simp at hu; subst hu; rfl) (by omega) ?_
        iterate 6 refine zW ?_
        refine aops_p (ap_slice_val_to (k := 1) rfl rfl rfl rfl rfl (by omega)) rfl rfl rfl ?_
        iterate 9 refine zW ?_
        rw [show ((List.replicate n x).map clv).take 1 = (List.replicate (min n 1) x).map clv by rw [← List.map_take, List.take_replicate]; congr 2; omega]
        exact post_ret (.tmp rfl .nil) zKeep ⟨_, rfl, rfl⟩
      )
theorem oneV_rep {x : Cl} {l : List Cl} (h : OneV x l) : ∃ n, n ≤ 1 ∧ l = List.replicate n x := by
  rcases h with rfl | rfl
  · exact ⟨0, by omega, rfl⟩
  · exact ⟨1, by omega, rfl⟩
theorem rep_any {n : Nat} {x : Cl} (hx : validCl x = true) : (List.replicate n x).any (fun y => !validCl y) = false := by
  rw [List.any_eq_false]
  intro y hy
  rw [(List.mem_replicate.1 hy).2, hx]
  decide
theorem srt1_con (x : Cl) : Con Tryz.prog 198 [clv x] [] (Is (.b (!validCl x)) []) := by
  have hcap : capB = 140737488355328 := rfl
  refine con_intro Tryz.func198 rfl Tryz.call198 rfl ?_
  refine zW ?_; refine zW ?_
  refine zBx fun b1 => ?_
  iterate 6 refine zW ?_
  refine aops_call_v zRc (cvalid_con x) rfl rfl ?_
  iterate 5 refine zW ?_
  (refine zPi ?_; exact rfl)
theorem srtd_con (n : Nat) (hn : n ≤ 12) (x : Cl) (hx : validCl x = true) : Con Tryz.prog 179 [.sl 2 ((List.replicate n x).map clv)] [] (Is (.sl 2 ((List.replicate (min n 1) x).map clv)) []) := by
  have hcap : capB = 140737488355328 := rfl
  have hrl : ((List.replicate n x).map clv).length = n := rep_len x n
  refine con_intro Tryz.func179 rfl Tryz.call179 rfl ?_
  iterate 8 refine zW ?_
  (refine aops_call zRc (clcO_con (List.replicate n x) (by rw [List.length_replicate]; omega)) zSplit rfl rfl ?_; rintro _ _ ⟨v5, rfl, rfl⟩)
  (refine aops_call zRc (delC_con 198 (fun y => !validCl y) (List.replicate n x) (fun y _ => srt1_con y) (rep_any hx) v5) zSplit rfl rfl ?_; rintro _ _ ⟨rfl, rfl⟩)
  iterate 6 refine zW ?_
  (refine aops_call zRc (sortC_con n hn x v5) zSplit rfl rfl ?_; rintro _ _ ⟨rfl, rfl⟩)
  iterate 5 refine zW ?_
  (refine aops_call zRc (compC_con n (by omega) x v5) zSplit rfl rfl ?_; rintro _ _ ⟨u, rfl, rfl⟩)
  iterate 3 refine zW ?_
  refine zFz u [2] ?_
  refine zW ?_
  (refine zPi ?_; exact rfl)
theorem union_con (p q : Nat) (hp : p + q ≤ 12) (h0 : 0 < p + q) (x : Cl) (hx : validCl x = true) : Con Tryz.prog 157 [.sl 2 ((List.replicate p x).map clv), .sl 2 ((List.replicate q x).map clv)] [] (Is (.sl 2 ((List.replicate (min (p + q) 1) x).map clv)) []) := by
  have hcap : capB = 140737488355328 := rfl
  refine con_intro Tryz.func157 rfl Tryz.call157 rfl ?_
  iterate 9 refine zW ?_
  refine aops_lit (e := 42) (sz := 1) (by_ := 24) rfl rfl zRc rfl rfl rfl rfl ?_
  (refine aops_call zRc (concat_con (List.replicate p x) (List.replicate q x) (by rw [List.length_replicate]; omega) (by rw [List.length_replicate]; omega) (by rw [List.length_replicate, List.length_replicate]; omega)) zSplit rfl rfl ?_; rintro _ _ ⟨v8, rfl, rfl⟩; rw [List.replicate_append_replicate])
  (refine aops_freeze v8 [8] rfl zRem zSelC zHeapA ?_; refine aops_call_v zRc (srtd_con (p + q) hp x hx) rfl rfl ?_)
  iterate 4 refine zW ?_
  (refine zPi ?_; exact rfl)
theorem union1_con (p : Nat) (hp : p ≤ 11) (x : Cl) (hx : validCl x = true) : Con Tryz.prog 157 [.sl 2 ((List.replicate p x).map clv), .sl 2 [.agg [.i x.a, .i x.b]]] [] (Is (.sl 2 [.agg [.i x.a, .i x.b]]) []) := by
  have h := union_con p 1 (by omega) (by omega) x hx
  rw [show min (p + 1) 1 = 1 by omega] at h
  exact h
theorem put_con (l : List Cl) (x : Cl) (hl : OneV x l) (hx : validCl x = true) : Con Tryz.prog 126 [.sl 2 (l.map clv), clv x] [] (Is (.sl 2 ([x].map clv)) []) := by
  have hcap : capB = 140737488355328 := rfl
  obtain ⟨p, hp, rfl⟩ := oneV_rep hl
  refine con_intro Tryz.func126 rfl Tryz.call126 rfl ?_
  refine zW ?_; refine zW ?_
  refine zBx fun b3 => ?_
  iterate 7 refine zW ?_
  refine aops_lit (e := 36) (sz := 2) (by_ := 16) rfl rfl zRc rfl rfl rfl rfl ?_
  refine aops_call_v zRc (union1_con p (by omega) x hx) rfl rfl ?_
  iterate 4 refine zW ?_
  (refine zPi ?_; exact rfl)
theorem eqd {l m : List Cl} {k : Nat} {x y : Cl} (hx : l[k]? = some x) (hy : m[k]? = some y) (h : (!(decide (x.a = y.a) && decide (x.b = y.b))) = true) : decide (l = m) = false := by
  apply decide_eq_false
  rintro rfl
  rw [hx] at hy
  cases hy
  simp at h
theorem eqt {l m : List Cl} {k : Nat} {x y : Cl} (hx : l[k]? = some x) (hy : m[k]? = some y) (h : (!(decide (x.a = y.a) && decide (x.b = y.b))) = false) (hI : l.take k = m.take k) : l.take (k + 1) = m.take (k + 1) := by
  have e : x = y := by
    cases x; cases y
    simpa using h
  rw [List.take_add_one, List.take_add_one, hx, hy, hI, e]
theorem eqC_con (l m : List Cl) : Con Tryz.prog 159 [.sl 2 (l.map clv), .sl 2 (m.map clv)] [] (Is (.b (decide (l = m))) []) := by
  have hcap : capB = 140737488355328 := rfl
  have hml : (l.map clv).length = l.length := by simp
  have hmm : (m.map clv).length = m.length := by simp
  refine con_intro Tryz.func159 rfl Tryz.call159 rfl ?_
  iterate 9 refine zW ?_
  first | refine zLn fun _ => ?_ | refine zW ?_
  refine zW ?_
  first | refine zLn fun _ => ?_ | refine zW ?_
  iterate 3 refine zW ?_
  refine zC (fun hc => ?_) fun hc => ?_
  · have hne := of_neq_true hc
    iterate 7 refine zW ?_
    (refine zPi ?_; refine (congrArg D.b (decide_eq_false ?_).symm))
    rintro rfl
    exact hne rfl
  · have hle := of_neq_false hc
    iterate 6 refine zW ?_
    first | refine zLn fun _ => ?_ | refine zW ?_
    iterate 4 refine zW ?_
    refine awp_loop1 [0, 1, 12] [] (fun (k : Nat) r => (13, .i (k : Int)) :: r) (fun k r => r) (fun k => k ≤ l.length ∧ l.take k = m.take k) (fun k => l.length - k) (0) zRc ⟨by omega, by simp⟩ (zWk) ?_
    intro k ⟨hk, hI⟩
    iterate 6 refine zW ?_
    refine zC (fun hc => ?_) fun hc => ?_
    · have hlt : k < l.length := by have := of_decide_eq_true hc; omega
      obtain ⟨x, hx, hd⟩ := drop_cons hlt
      have hx' := getMap clv hx
      obtain ⟨y, hy, hdy⟩ := drop_cons (l := m) (k := k) (by omega)
      have hy' := getMap clv hy
      iterate 11 refine zW ?_
      refine zDr [] ?_
      refine zT 0 ?_
      refine zT 1 ?_
      refine zT 2 ?_
      refine zT 3 ?_
      refine zT 4 ?_
      refine zT 5 ?_
      refine zT 6 ?_
      refine zT 7 ?_
      refine aany_take 8 rfl zGd zKr zKr zKr (AP.ar (ap_ne2 rfl rfl eq2_36)) rfl rfl ?_
      refine zW ?_
      all_goals (
        refine zW ?_
        refine zC (fun hc => ?_) fun hc => ?_
        · iterate 11 refine zW ?_
          (refine zPi ?_; exact (congrArg D.b (eqd hx hy hc).symm))
        · iterate 8 refine zW ?_
          refine ⟨k + 1, ⟨by omega, eqt hx hy hc hI⟩, by omega, zWk⟩
        )
    · have hge := of_decide_eq_false hc
      iterate 11 refine zW ?_
      (refine zPi ?_; refine (congrArg D.b (decide_eq_true ?_).symm))
      rwa [List.take_of_length_le (by omega), List.take_of_length_le (by omega)] at hI
theorem some_take {l : List Msg} {k : Nat} {m : Msg} (h : l[k]? = some m) : someM (l.take (k + 1)) = (someM (l.take k) || !(m.votes.isEmpty && m.acc.isEmpty)) := by
  unfold someM
  rw [List.take_add_one, h, List.any_append]
  simp
theorem some_rep {q a b : Nat} {x : Cl} {c : Bool} {m : Msg} (h : decide (0 < q) = c) (ea : m.votes = List.replicate a x) (eb : m.acc = List.replicate b x) : decide (0 < q + a + b) = (c || !(m.votes.isEmpty && m.acc.isEmpty)) := by
  rw [← h, ea, eb]
  cases q <;> cases a <;> cases b <;> simp [List.replicate_succ] <;> omega
theorem known_rep {l : List Msg} {q : Nat} {x : Cl} (h : decide (0 < q) = someM l) : knownM x l = List.replicate (min q 1) x := by
  unfold knownM
  rw [← h]
  cases q with
  | zero => rfl
  | succ q => rw [show min (q + 1) 1 = 1 by omega]; rfl
theorem known_con (x : Cl) (hx : validCl x = true) (l : List Msg) (hl : l.length ≤ 6) (ho : ∀ m ∈ l, OneV x m.votes ∧ OneV x m.acc) : Con Tryz.prog 203 [.sl 7 (l.map msv)] [] (Is (.sl 2 ((knownM x l).map clv)) []) := by
  have hcap : capB = 140737488355328 := rfl
  have hml : (l.map msv).length = l.length := by simp
  refine con_intro Tryz.func203 rfl Tryz.call203 rfl ?_
  iterate 14 refine zW ?_
  first | refine zLn fun _ => ?_ | refine zW ?_
  iterate 4 refine zW ?_
  refine awp_loop3 [6, 7] [] (fun (k : Nat) (v : Value) (q : Nat) r => (3, .v v) :: (8, .i (k : Int)) :: r) (fun k v q r => .arr v 36 2 ((List.replicate q x).map clv) :: r) (fun k v q => k ≤ l.length ∧ q ≤ 2 * k ∧ decide (0 < q) = someM (l.take k)) (fun k v q => l.length - k) (0) (.slice none 0 0) (0) zRc ⟨by omega, by omega, rfl⟩ ((wk_own 36 2 rfl).trans (zWk)) ?_
  intro k v q ⟨hk, hq, hI⟩
  iterate 6 refine zW ?_
  refine zC (fun hc => ?_) fun hc => ?_
  · have hlt : k < l.length := by have := of_decide_eq_true hc; omega
    obtain ⟨m, hx', hd⟩ := drop_cons hlt
    have hx'' := getMap msv hx'
    obtain ⟨pa, hpa, ea⟩ := oneV_rep (ho m (List.mem_of_getElem? hx')).1
    obtain ⟨pb, hpb, eb⟩ := oneV_rep (ho m (List.mem_of_getElem? hx')).2
    iterate 8 refine zW ?_
    refine zAl fun b5 => ?_
    iterate 3 refine zW ?_
    refine zDr [.arr v _ _ _] ?_
    refine zT 0 ?_
    refine zT 1 ?_
    refine zT 2 ?_
    refine zT 4 ?_
    refine zT 5 ?_
    refine zOn 3 ?_
    first | refine aops_append (e := 36) (sz := 2) (by_ := 16) rfl zUpd rfl rfl rfl rfl rfl (by simp only [ea, eb, List.length_cons, List.length_nil, List.length_append, List.length_map, List.length_replicate]; omega) (fun v15 hv15 => ?_) | refine aops_append_nil (e := 36) (sz := 2) (by_ := 16) rfl rfl rfl rfl rfl rfl (by simp only [ea, eb, List.length_cons, List.length_nil, List.length_append, List.length_map, List.length_replicate]; omega) (fun v15 hv15 => ?_)
    refine zW ?_
    refine zOn 6 ?_
    first | refine aops_append (e := 36) (sz := 2) (by_ := 16) rfl zUpd rfl rfl rfl rfl rfl (by simp only [ea, eb, List.length_cons, List.length_nil, List.length_append, List.length_map, List.length_replicate]; omega) (fun v18 hv18 => ?_) | refine aops_append_nil (e := 36) (sz := 2) (by_ := 16) rfl rfl rfl rfl rfl rfl (by simp only [ea, eb, List.length_cons, List.length_nil, List.length_append, List.length_map, List.length_replicate]; omega) (fun v18 hv18 => ?_)
    refine zW ?_
    refine zT 7 ?_
    refine zW ?_
    all_goals (
      iterate 7 refine zW ?_
      rw [ea, eb, rep_snoc, rep_snoc]
      refine ⟨k + 1, _, q + pa + pb, ⟨by omega, by omega, (some_rep hI ea eb).trans (some_take hx').symm⟩, by omega, zWk⟩
      )
  · have hge : l.length ≤ k := by have := of_decide_eq_false hc; omega
    rw [List.take_of_length_le hge] at hI
    refine zFz v [3] ?_
    iterate 8 refine zW ?_
    refine aops_call_v zRc (srtd_con q (by omega) x hx) rfl rfl ?_
    iterate 4 refine zW ?_
    refine zPi ?_
    rw [known_rep hI]; rfl
/-- What a voter that settles has to be like. -/
structure NH (x : Cl) (v : Vt) : Prop where
  sz : VSz v
  vx : validCl x = true
  ov : OneV x v.votes
  oa : OneV x v.acc
  of : OneV x v.cf
  ho : ∀ m ∈ v.hs, OneV x m.votes ∧ OneV x m.acc
  h5 : v.hs.length ≤ 5
theorem nh_lM {x : Cl} {v : Vt} (h : NH x v) : ∀ m ∈ lM v, OneV x m.votes ∧ OneV x m.acc := by
  intro m hm
  unfold lM at hm
  rcases List.mem_append.1 hm with hm | hm
  · exact h.ho m hm
  · obtain rfl := List.mem_singleton.1 hm
    exact ⟨h.ov, h.oa⟩
theorem nh_lM5 {x : Cl} {v : Vt} (h : NH x v) : (lM v).length ≤ 6 := by
  have := h.h5
  unfold lM
  simp
  omega
theorem nh_lMs {x : Cl} {v : Vt} (h : NH x v) : ∀ m ∈ lM v, sizeT m.t ≤ 1000000000 := by
  intro m hm
  unfold lM at hm
  rcases List.mem_append.1 hm with hm | hm
  · have := (h.sz.hs m hm).1; omega
  · obtain rfl := List.mem_singleton.1 hm
    have := h.sz.t
    show sizeT v.t ≤ _
    omega
theorem nh_acc {x : Cl} {v : Vt} (h : NH x v) {a : List Cl} (ha : OneV x a) : NH x { v with acc := a } :=
  ⟨⟨h.sz.t, h.sz.votes, by have := ha.len; show a.length ≤ _; omega, h.sz.cf, h.sz.hl, h.sz.hs⟩, h.vx, h.ov, ha, h.of, h.ho, h.h5⟩
theorem known_mem {x y : Cl} {l : List Msg} (h : y ∈ knownM x l) : y = x := by
  unfold knownM at h
  split at h
  · exact List.mem_singleton.1 h
  · cases h
theorem known_len (x : Cl) (l : List Msg) : (knownM x l).length ≤ 1 := by
  unfold knownM
  split <;> simp
theorem known_none {x : Cl} {l : List Msg} (h : (knownM x l).length ≤ 0) : someM l = false := by
  unfold knownM at h
  split at h
  · simp at h
  · simpa using ‹¬ someM l = true›
theorem nxt_has {x : Cl} {v : Vt} {c : List Mem} {b : Bool} (hb : nxt x v c = b) (ha : OneV x v.acc) (h : hasC v.acc x = true) : b = false := by
  rw [← hb]
  unfold nxt
  rw [ha.has] at h
  have : v.acc.isEmpty = false := by simpa using h
  rw [this, Bool.false_and]
theorem nxt_not {x : Cl} {v : Vt} (ha : OneV x v.acc) (h : hasC v.acc x = false) : v.acc = [] := by
  rw [ha.has] at h
  have : v.acc.isEmpty = true := by simpa using h
  exact List.isEmpty_iff.1 this
theorem nxt_val {x : Cl} {v : Vt} {c : List Mem} (ha : v.acc = []) (h1 : someM (lM v) = true) : nxt x v c = acceptsC c v.node (sayGo Msg.votes x 0 (lM v) : Nat) (sayGo Msg.acc x 0 (lM v) : Nat) := by
  unfold nxt
  rw [ha, h1, List.isEmpty_nil, Bool.true_and, Bool.true_and]
theorem nxt_is {x : Cl} {v : Vt} {c : List Mem} {b d : Bool} (hb : nxt x v c = b) (ha : v.acc = []) (hm : x ∈ knownM x (lM v)) (h : acceptsC c v.node (sayGo Msg.votes x 0 (lM v) : Nat) (sayGo Msg.acc x 0 (lM v) : Nat) = d) : b = d := by
  have h1 : someM (lM v) = true := by
    unfold knownM at hm
    split at hm
    · assumption
    · cases hm
  rw [← hb, ← h]
  exact nxt_val ha h1
theorem nxt_no {x : Cl} {v : Vt} {c : List Mem} {b : Bool} (hb : nxt x v c = b) (h : someM (lM v) = false) : b = false := by
  rw [← hb]
  unfold nxt
  rw [h, Bool.false_and, Bool.and_false]
theorem consB_con {x : Cl} (hx : validCl x = true) (v : Value) : Con Tryz.prog 92 [.v v] [.arr v 36 2 [.agg [.i x.a, .i x.b]]] (fun d H => (Is (.b true) []) d [] ∧ H = [.arr v 36 2 [.agg [.i x.a, .i x.b]]]) :=
  Con.borrow (pre := []) (post := []) (cons_con [x] (by simp) (fun y hy => by rw [List.mem_singleton.1 hy]; exact hx)) (fun d H ⟨h1, h2⟩ => ⟨⟨_, h1⟩, h2⟩)
theorem next_con (x : Cl) (v : Vt) (h : NH x v) (c : List Mem) (b : Bool) (hb : nxt x v c = b) : Con Tryz.prog 182 [vtv v, cv c] [] (Is (.tup [clv (if b = true then x else ⟨0, 0⟩), .b b]) []) := by
  have hcap : capB = 140737488355328 := rfl
  have hml : (v.hs.map msv).length = v.hs.length := by simp
  have h5 := h.h5
  have hk1 := known_len x (lM v)
  refine con_intro Tryz.func182 rfl Tryz.call182 rfl ?_
  refine zW ?_; refine zW ?_
  refine zBx fun b2 => ?_
  refine zBx fun b3 => ?_
  refine zAl fun b4 => ?_
  iterate 4 refine zW ?_
  refine zDr [] ?_
  refine zT 0 ?_
  refine zT 1 ?_
  refine zT 3 ?_
  refine zOn 2 ?_
  (refine aops_call zRc (clmO_con v.hs (by omega)) zSplit rfl rfl ?_; rintro _ _ ⟨v11, rfl, rfl⟩)
  refine zW ?_
  refine zOn 4 ?_
  refine aops_call_v zRc (vsay_con v) rfl rfl ?_
  refine zW ?_
  refine zOn 5 ?_
  refine aops_lit (e := 44) (sz := 7) (by_ := 120) rfl rfl zRc rfl rfl rfl rfl ?_
  refine zW ?_
  refine zOn 6 ?_
  first | refine aops_append (e := 44) (sz := 7) (by_ := 120) rfl zUpd rfl rfl rfl rfl rfl (by simp only [List.length_cons, List.length_nil, List.length_append, List.length_map, avs_len]; omega) (fun v15 hv15 => ?_) | refine aops_append_nil (e := 44) (sz := 7) (by_ := 120) rfl rfl rfl rfl rfl rfl (by simp only [List.length_cons, List.length_nil, List.length_append, List.length_map, avs_len]; omega) (fun v15 hv15 => ?_)
  refine zW ?_
  refine zT 7 ?_
  refine zW ?_
  all_goals (
    iterate 3 refine zW ?_
    rw [msv_snoc2]
    refine awp_freeze v15 [2,3,4,5,6] zRem zSelC zHeapA ?_
    refine zW ?_; refine zW ?_
    refine aops_call_v zRc (known_con x h.vx (lM v) (nh_lM5 h) (nh_lM h)) rfl rfl ?_
    first | refine zLn fun _ => ?_ | refine zW ?_
    iterate 4 refine zW ?_
    refine awp_loop1 [2, 3, 4, 6, 17, 18] [.box b2 _ _, .box b3 _ _, .box b4 _ _] (fun (k : Nat) r => (19, .i (k : Int)) :: r) (fun k r => r) (fun k => k ≤ (knownM x (lM v)).length ∧ (0 < k → b = false)) (fun k => (knownM x (lM v)).length - k) (0) zRc ⟨by omega, fun hk => absurd hk (by omega)⟩ (zWk) ?_
    intro k ⟨hk, hI⟩
    iterate 6 refine zW ?_
    refine zC (fun hc => ?_) fun hc => ?_
    · have hlt : k < (knownM x (lM v)).length := by have := of_decide_eq_true hc; simpa using this
      obtain ⟨y, hx, hd⟩ := drop_cons hlt
      have hyx := (known_mem (List.mem_of_getElem? hx)).symm
      subst hyx
      have hx' := getMap clv hx
      iterate 8 refine zW ?_
      refine zAl fun b8 => ?_
      iterate 5 refine zW ?_
      refine zDr [] ?_
      refine zT 0 ?_
      refine zT 1 ?_
      refine zT 2 ?_
      refine zOn 3 ?_
      refine aops_call_b zRc (chas_con v.acc x) rfl rfl fun c26 hc26 => ?_
      refine zW ?_
      refine zT 4 ?_
      refine aany_guard 4 rfl (fun hg => ?_) fun hg => ?_
      rotate_left
      case' _ =>
        refine zT 5 ?_
        refine zT 6 ?_
        refine zT 8 ?_
        refine zE2 7 9 ?_ ?_
        rotate_left
        case' _ =>
          refine aops_lit (e := 36) (sz := 2) (by_ := 16) rfl rfl zRc rfl rfl rfl rfl ?_
          refine zW ?_
          refine zOn 7 ?_
          (refine aops_call zRc (clcO_con v.acc (by have := h.sz.acc; omega)) zSplit rfl rfl ?_; rintro _ _ ⟨v30, rfl, rfl⟩)
          refine zW ?_
          refine zOn 10 ?_
          (rw [show v.acc = [] from nxt_not h.oa (hc26.trans (by with_reducible assumption))]; first | refine aops_append (e := 36) (sz := 2) (by_ := 16) rfl zUpd rfl rfl rfl rfl rfl (by simp only [List.length_cons, List.length_nil, List.length_append, List.length_map, avs_len]; omega) (fun v33 hv33 => ?_) | refine aops_append_nil (e := 36) (sz := 2) (by_ := 16) rfl rfl rfl rfl rfl rfl (by simp only [List.length_cons, List.length_nil, List.length_append, List.length_map, avs_len]; omega) (fun v33 hv33 => ?_))
          refine zW ?_
          refine zOn 11 ?_
          (refine aops_call zRc (consB_con h.vx v33) zSplit rfl rfl ?_; rintro _ _ ⟨⟨rfl, _⟩, rfl⟩)
          refine zW ?_
          refine zT 12 ?_
          refine zT 13 ?_
          refine zW ?_
        rotate_right
        case' _ =>
          (refine aops_call zRc (clcO_con v.acc (by have := h.sz.acc; omega)) zSplit rfl rfl ?_; rintro _ _ ⟨v30, rfl, rfl⟩)
          refine zW ?_
          refine zOn 9 ?_
          refine aops_lit (e := 36) (sz := 2) (by_ := 16) rfl rfl zRc rfl rfl rfl rfl ?_
          refine zW ?_
          refine zOn 10 ?_
          (rw [show v.acc = [] from nxt_not h.oa (hc26.trans (by with_reducible assumption))]; first | refine aops_append (e := 36) (sz := 2) (by_ := 16) rfl zUpd rfl rfl rfl rfl rfl (by simp only [List.length_cons, List.length_nil, List.length_append, List.length_map, avs_len]; omega) (fun v33 hv33 => ?_) | refine aops_append_nil (e := 36) (sz := 2) (by_ := 16) rfl rfl rfl rfl rfl rfl (by simp only [List.length_cons, List.length_nil, List.length_append, List.length_map, avs_len]; omega) (fun v33 hv33 => ?_))
          refine zW ?_
          refine zOn 11 ?_
          (refine aops_call zRc (consB_con h.vx v33) zSplit rfl rfl ?_; rintro _ _ ⟨⟨rfl, _⟩, rfl⟩)
          refine zW ?_
          refine zT 12 ?_
          refine zT 13 ?_
          refine zW ?_
      rotate_right
      case' _ =>
        refine zK 5 ?_
        refine zK 6 ?_
        refine zK 7 ?_
        refine zK 8 ?_
        refine zK 9 ?_
        refine zK 10 ?_
        refine zK 11 ?_
        refine zK 12 ?_
        refine zT 13 ?_
        refine zW ?_
      all_goals (
        refine zW ?_
        refine zC (fun hc => ?_) fun hc => ?_
        · first
          | (exact absurd hc (by decide))
          | (iterate 9 refine zW ?_
             first
             | (refine ⟨k + 1, ⟨by omega, fun _ => nxt_has hb h.oa (hc26.trans (by with_reducible assumption))⟩, by omega, zWk⟩)
             | (refine ⟨k + 1, ⟨by omega, fun _ => nxt_is hb (nxt_not h.oa (hc26.trans (by with_reducible assumption))) (List.mem_of_getElem? hx) (hc46.trans (by with_reducible assumption))⟩, by omega, zWk⟩)
            )
        · first
          | (exact absurd hc (by decide))
          | (iterate 3 refine zW ?_
             refine zDr [] ?_
             refine zT 0 ?_
             refine zT 1 ?_
             refine zT 2 ?_
             refine zT 3 ?_
             refine zT 4 ?_
             refine zT 6 ?_
             refine zT 7 ?_
             refine zOn 5 ?_
             refine aops_call_v zRc (fvotes_con (lM v) (nh_lMs h) x) rfl rfl ?_
             refine zW ?_
             refine zOn 8 ?_
             refine aops_call_v zRc (facc_con (lM v) (nh_lMs h) x) rfl rfl ?_
             refine zW ?_
             refine zOn 9 ?_
             refine aops_call_b zRc (accepts_con c v.node _ _) rfl rfl fun c46 hc46 => ?_
             refine zW ?_; refine zW ?_
             all_goals (
               refine zW ?_
               refine zC (fun hc => ?_) fun hc => ?_
               · iterate 13 refine zW ?_
                 refine zPi ?_
                 have e := nxt_is hb (nxt_not h.oa (hc26.trans (by with_reducible assumption))) (List.mem_of_getElem? hx) (hc46.trans hc)
                 subst e
                 rfl
               · iterate 8 refine zW ?_
                 first
                 | (refine ⟨k + 1, ⟨by omega, fun _ => nxt_has hb h.oa (hc26.trans (by with_reducible assumption))⟩, by omega, zWk⟩)
                 | (refine ⟨k + 1, ⟨by omega, fun _ => nxt_is hb (nxt_not h.oa (hc26.trans (by with_reducible assumption))) (List.mem_of_getElem? hx) (hc46.trans (by with_reducible assumption))⟩, by omega, zWk⟩)
               )
            )
        )
    · iterate 13 refine zW ?_
      refine zPi ?_
      have e : b = false := by
        rcases Nat.eq_zero_or_pos k with h0 | h0
        · have hge : (knownM x (lM v)).length ≤ 0 := by have := of_decide_eq_false hc; rw [h0] at this; simpa using this
          exact nxt_no hb (known_none hge)
        · exact hI h0
      subst e
      rfl
    )
theorem nxt_done (x : Cl) (v : Vt) (c : List Mem) : nxt x { v with acc := [x] } c = false := rfl
theorem setA_t {x : Cl} {v : Vt} (h : nxt x v (viewM v) = true) : [x] = (setA x v).acc := by
  unfold setA
  rw [if_pos h]
theorem setA_f {x : Cl} {v : Vt} (h : nxt x v (viewM v) = false) : v.acc = (setA x v).acc := by
  unfold setA
  rw [if_neg (by rw [h]; decide)]
theorem nxt_acc {x : Cl} {v : Vt} {c : List Mem} (h : nxt x v c = true) : v.acc = [] := by
  unfold nxt at h
  rw [Bool.and_eq_true] at h
  exact List.isEmpty_iff.1 h.1
theorem setA_one {x : Cl} {v : Vt} (h : OneV x v.acc) : OneV x (setA x v).acc := by
  rcases setA_acc x v with e | ⟨_, e⟩
  · rw [e]; exact h
  · rw [e]; exact .inr rfl
theorem nh_setA {x : Cl} {v : Vt} (h : NH x v) : NH x (setA x v) := nh_acc h (setA_one h.oa)
theorem set_0 {x : Cl} {v : Vt} (h : (setA x v).acc.length ≤ 0) : (Tq.settle x v).cf = v.cf := by
  have e : (setA x v).acc = [] := List.eq_nil_of_length_eq_zero (by omega)
  show (if okF x (setA x v) = true then [x] else (setA x v).cf) = v.cf
  rw [if_neg]
  · rfl
  · unfold okF
    rw [e]
    simp
theorem okF_val {x : Cl} {v : Vt} {k : Nat} {y : Cl} (h : (setA x v).acc[k]? = some y) : okF x (setA x v) = confirmsC (viewM v) v.node (sayGo Msg.acc x 0 (lM (setA x v)) : Nat) := by
  have e : (setA x v).acc.isEmpty = false := by
    cases hq : (setA x v).acc with
    | nil => rw [hq] at h; cases h
    | cons a r => rfl
  unfold okF
  rw [e, Bool.not_false, Bool.true_and]
  rfl
theorem set_t {x : Cl} {v : Vt} {k : Nat} {y : Cl} (h : (setA x v).acc[k]? = some y) (hc : confirmsC (viewM v) v.node (sayGo Msg.acc x 0 (lM (setA x v)) : Nat) = true) : [x] = (Tq.settle x v).cf := by
  show [x] = if okF x (setA x v) = true then [x] else (setA x v).cf
  rw [if_pos ((okF_val h).trans hc)]
theorem set_f {x : Cl} {v : Vt} {k : Nat} {y : Cl} (h : (setA x v).acc[k]? = some y) (hc : confirmsC (viewM v) v.node (sayGo Msg.acc x 0 (lM (setA x v)) : Nat) = false) : v.cf = (Tq.settle x v).cf := by
  show v.cf = if okF x (setA x v) = true then [x] else (setA x v).cf
  rw [if_neg (by rw [(okF_val h).trans hc]; decide)]
  rfl
theorem set_end {x : Cl} {v : Vt} {k : Nat} {f : List Cl} (h0 : k = 0 → f = v.cf) (h1 : 0 < k → f = (Tq.settle x v).cf) (hge : (setA x v).acc.length ≤ k) : f = (Tq.settle x v).cf := by
  rcases Nat.eq_zero_or_pos k with h | h
  · rw [h0 h]; exact (set_0 (by omega)).symm
  · exact h1 h
theorem one_mem {x y : Cl} {l : List Cl} {k : Nat} (h : OneV x l) (hy : l[k]? = some y) : k = 0 ∧ x = y := by
  rcases h with rfl | rfl
  · cases hy
  · cases k with
    | zero => exact ⟨rfl, by simpa using hy⟩
    | succ k => simp at hy
theorem settled_con (x : Cl) (v : Vt) (h : NH x v) : Con Tryz.prog 158 [vtv v] [] (Is (vtv (Tq.settle x v)) []) := by
  have hcap : capB = 140737488355328 := rfl
  have hml : (v.hs.map msv).length = v.hs.length := by simp
  have h5 := h.h5
  have haml : ((setA x v).acc.map clv).length = (setA x v).acc.length := by simp
  refine con_intro Tryz.func158 rfl Tryz.call158 rfl ?_
  refine zW ?_; refine zW ?_
  refine zBx fun b1 => ?_
  refine zAl fun b2 => ?_
  iterate 10 refine zW ?_
  refine aops_call_v zRc (view_con v.node v.t h.sz.t v.hs (fun m hm => (h.sz.hs m hm).1)) rfl rfl ?_
  refine zAl fun b3 => ?_
  iterate 5 refine zW ?_
  obtain ⟨e0, hb⟩ : ∃ e, nxt x v (viewM v) = e := ⟨_, rfl⟩
  iterate 3 refine zW ?_
  refine aops_call_v zRc (next_con x v h (viewM v) e0 hb) rfl rfl ?_
  iterate 3 refine zW ?_
  refine zAl fun b4 => ?_
  iterate 5 refine zW ?_
  refine awp_loop3 [1, 2, 3] [.box b2 _ _, .box b3 _ _] (fun (bb : Nat) (e : Bool) (a : List Cl) r => (4, .p bb 0) :: (5, .b e) :: r) (fun bb e a r => .box bb 36 [.i (if e = true then x else ⟨0, 0⟩ : Cl).a, .i (if e = true then x else ⟨0, 0⟩ : Cl).b] :: .box b1 57 [.i v.node, .i v.seq, .i v.t.th, .sl 1 (v.t.nodes.map .i), .sl 3 (avs v.t.inner), .sl 2 (v.votes.map clv), .sl 2 (a.map clv), .sl 2 (v.cf.map clv), .sl 7 (v.hs.map msv)] :: r) (fun bb e a => (e = true → a = [] ∧ nxt x v (viewM v) = true) ∧ (e = false → a = (setA x v).acc)) (fun bb e a => e.toNat) (b4) (e0) (v.acc) zRc ⟨fun he => ⟨nxt_acc (hb.trans he), hb.trans he⟩, fun he => setA_f (hb.trans he)⟩ (zWk) ?_
  intro bb e a ⟨he1, he2⟩
  iterate 6 refine zW ?_
  refine zC (fun hc => ?_) fun hc => ?_
  · subst hc
    obtain ⟨ha, hnx⟩ := he1 rfl
    subst ha
    iterate 8 refine zW ?_
    refine aops_call_v zRc (put_con [] x (.inl rfl) h.vx) rfl rfl ?_
    iterate 12 refine zW ?_
    refine zAl fun b4 => ?_
    iterate 6 refine zW ?_
    refine aops_call_v zRc (next_con x { v with acc := [x] } (nh_acc h (.inr rfl)) (viewM v) false (nxt_done x v _)) rfl rfl ?_
    iterate 7 refine zW ?_
    refine ⟨_, false, [x], ⟨fun he => absurd he (by decide), fun _ => setA_t hnx⟩, by decide, zWk⟩
  · subst hc
    have ha := he2 rfl
    subst ha
    iterate 6 refine zW ?_
    refine zDr [] ?_
    refine zT 0 ?_
    refine zT 1 ?_
    refine zT 3 ?_
    refine zOn 2 ?_
    (refine aops_call zRc (clmO_con v.hs (by omega)) zSplit rfl rfl ?_; rintro _ _ ⟨v37, rfl, rfl⟩)
    refine zW ?_
    refine zOn 4 ?_
    refine aops_call_v zRc (vsay_con (setA x v)) rfl rfl ?_
    refine zW ?_
    refine zOn 5 ?_
    refine aops_lit (e := 44) (sz := 7) (by_ := 120) rfl rfl zRc rfl rfl rfl rfl ?_
    refine zW ?_
    refine zOn 6 ?_
    first | refine aops_append (e := 44) (sz := 7) (by_ := 120) rfl zUpd rfl rfl rfl rfl rfl (by simp only [List.length_cons, List.length_nil, List.length_append, List.length_map, avs_len]; omega) (fun v41 hv41 => ?_) | refine aops_append_nil (e := 44) (sz := 7) (by_ := 120) rfl rfl rfl rfl rfl rfl (by simp only [List.length_cons, List.length_nil, List.length_append, List.length_map, avs_len]; omega) (fun v41 hv41 => ?_)
    refine zW ?_
    refine zT 7 ?_
    refine zW ?_
    all_goals (
      iterate 3 refine zW ?_
      rw [msv_snoc2]
      refine awp_freeze v41 [1,2,3,6] zRem zSelC zHeapA ?_
      iterate 3 refine zW ?_
      first | refine zLn fun _ => ?_ | refine zW ?_
      iterate 4 refine zW ?_
      refine awp_loop2 [1, 2, 3, 6, 43, 44] [.box b2 _ _, .box b3 _ _] (fun (k : Nat) (f : List Cl) r => (45, .i (k : Int)) :: r) (fun k f r => .box b1 57 [.i v.node, .i v.seq, .i v.t.th, .sl 1 (v.t.nodes.map .i), .sl 3 (avs v.t.inner), .sl 2 (v.votes.map clv), .sl 2 ((setA x v).acc.map clv), .sl 2 (f.map clv), .sl 7 (v.hs.map msv)] :: r) (fun k f => k ≤ (setA x v).acc.length ∧ (k = 0 → f = v.cf) ∧ (0 < k → f = (Tq.settle x v).cf)) (fun k f => (setA x v).acc.length - k) (0) (v.cf) zRc ⟨by omega, fun _ => rfl, fun hk => absurd hk (by omega)⟩ (zWk) ?_
      intro k f ⟨hk, hf0, hf1⟩
      iterate 6 refine zW ?_
      refine zC (fun hc => ?_) fun hc => ?_
      · have hlt : k < (setA x v).acc.length := by have := of_decide_eq_true hc; simpa using this
        obtain ⟨y, hx, hd⟩ := drop_cons hlt
        obtain ⟨hk0, hyx⟩ := one_mem (setA_one h.oa) hx
        subst hk0
        subst hyx
        have hx' := getMap clv hx
        have hf := hf0 rfl
        subst hf
        iterate 8 refine zW ?_
        refine zAl fun b8 => ?_
        iterate 4 refine zW ?_
        refine zDr [] ?_
        refine zT 0 ?_
        refine zT 1 ?_
        refine zT 2 ?_
        refine zT 3 ?_
        refine zT 4 ?_
        refine zOn 5 ?_
        refine aops_call_v zRc (facc_con (lM (setA x v)) (nh_lMs (nh_setA h)) x) rfl rfl ?_
        refine zW ?_
        refine zOn 6 ?_
        refine aops_call_b zRc (confirms_con (viewM v) v.node _) rfl rfl fun c55 hc55 => ?_
        refine zW ?_; refine zW ?_
        all_goals (
          refine zW ?_
          refine zC (fun hc => ?_) fun hc => ?_
          · iterate 4 refine zW ?_
            refine aops_call_v zRc (put_con v.cf x h.of h.vx) rfl rfl ?_
            iterate 10 refine zW ?_
            first
            | (refine ⟨0 + 1, [x], ⟨by omega, fun hk => absurd hk (by omega), fun _ => set_t hx (hc55.trans (by with_reducible assumption))⟩, by omega, zWk⟩)
            | (refine ⟨0 + 1, v.cf, ⟨by omega, fun hk => absurd hk (by omega), fun _ => set_f hx (hc55.trans (by with_reducible assumption))⟩, by omega, zWk⟩)
          · iterate 8 refine zW ?_
            first
            | (refine ⟨0 + 1, [x], ⟨by omega, fun hk => absurd hk (by omega), fun _ => set_t hx (hc55.trans (by with_reducible assumption))⟩, by omega, zWk⟩)
            | (refine ⟨0 + 1, v.cf, ⟨by omega, fun hk => absurd hk (by omega), fun _ => set_f hx (hc55.trans (by with_reducible assumption))⟩, by omega, zWk⟩)
          )
      · have hge : (setA x v).acc.length ≤ k := by have := of_decide_eq_false hc; simpa using this
        have hf := set_end hf0 hf1 hge
        subst hf
        iterate 12 refine zW ?_
        (refine zPi ?_; exact rfl)
      )
theorem same_is2 {t u : Trust} (h : t = u) : Con Tryz.prog 134 [av t, av u] [] (Is (.b true) []) := by
  subst h
  exact same_is t
theorem turn_eq {x : Cl} {b v : Vt} (h1 : decide (b.votes = (Tq.settle x v).votes) = true) (h2 : decide (b.acc = (Tq.settle x v).acc) = true) : turn x b v = Tq.settle x v := by
  unfold turn
  rw [if_pos ⟨of_decide_eq_true h1, of_decide_eq_true h2⟩]
theorem turn_ne {x : Cl} {b v : Vt} (h : decide (b.votes = (Tq.settle x v).votes) = false ∨ decide (b.acc = (Tq.settle x v).acc) = false) : turn x b v = { Tq.settle x v with seq := (Tq.settle x v).seq + 1 } := by
  unfold turn
  rw [if_neg]
  rintro ⟨h1, h2⟩
  rcases h with h | h
  · exact of_decide_eq_false h h1
  · exact of_decide_eq_false h h2
theorem nh_settle {x : Cl} {v : Vt} (h : NH x v) : VSz (Tq.settle x v) := by
  have h1 := (nh_setA h).sz
  refine ⟨h1.t, h1.votes, h1.acc, ?_, h1.hl, h1.hs⟩
  show (if okF x (setA x v) = true then [x] else (setA x v).cf).length ≤ 1000
  split
  · simp
  · exact h1.cf
end Go.Proofs.YtmolbagfkdbdnaaGreatDoor
