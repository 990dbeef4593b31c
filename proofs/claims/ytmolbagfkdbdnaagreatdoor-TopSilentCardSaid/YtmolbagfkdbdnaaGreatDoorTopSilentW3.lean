/- Walks: each says what one function of the program answers, for the arguments that its statement names. No condition beyond what each theorem says. -/
import Derived.Test.YtmolbagfkdbdnaaGreatDoorTopSilentW2
import Derived.Test.YtmolbagfkdbdnaaGreatDoorProg
import Derived.KernelRfl
import Derived.Tactics
import Derived.Tactics2
import Derived.StillTactics
import Derived.Shelf.SlSortCmp.Whole1
import Derived.Shelf.SlSortCmp.NoneTotal
import Derived.Shelf.Strconv.Atoi
set_option linter.unusedVariables false
set_option linter.unusedSimpArgs false
set_option maxRecDepth 4000
set_option maxHeartbeats 2000000
namespace Go.Proofs.YtmolbagfkdbdnaaGreatDoor
open Go Go.Av Go.Tq
theorem nodesTo_succ (s : Int) (k : Nat) : (upTo (k + 1)).filter (fun x => has s x) = (upTo k).filter (fun x => has s x) ++ (if has s k = true then [(k : Int)] else []) := by
  rw [upTo_succ, List.filter_append]
  cases h : has s k <;> simp [h]
theorem Nodes_con (s : Int) : Con Tryz.prog 61 [.i s] [] (Is (.sl 1 ((nodesOf s).map .i)) []) := by
  have hcap : capB = 140737488355328 := rfl
  refine con_intro Tryz.func61 rfl Tryz.call61 rfl ?_
  iterate 17 refine zW ?_
  refine awp_loop3 [0] [] (fun (k : Nat) (v : Value) (q : List Int) r => (3, .v v) :: (5, .i (k : Int)) :: r) (fun k v q r => .arr v 3 1 (q.map .i) :: r) (fun k v q => k ≤ 10 ∧ q.length ≤ k ∧ q = (upTo k).filter fun x => has s x) (fun k v q => 10 - k) (0) (.slice none 0 0) ([]) zRc ⟨by omega, by simp, rfl⟩ ((wk_own 3 1 rfl).trans (zWk)) ?_
  intro k v q ⟨hk, hql, hI⟩
  iterate 6 refine zW ?_
  refine zC (fun hc => ?_) fun hc => ?_
  · have hlt := of_decide_eq_true hc
    iterate 14 refine zW ?_
    refine aops_call_b zRc (has_con _ _) rfl rfl fun c10 hc10 => ?_
    refine zW ?_; refine zW ?_
    refine zC (fun hc => ?_) fun hc => ?_
    · iterate 3 refine zW ?_
      refine aops_lit (e := 3) (sz := 1) (by_ := 8) rfl rfl zRc rfl rfl rfl rfl ?_
      first | refine aops_append (e := 3) (sz := 1) (by_ := 8) rfl zUpd rfl rfl rfl rfl rfl (by simp only [List.length_cons, List.length_nil, List.length_append, List.length_map, avs_len]; omega) (fun v14 hv14 => ?_) | refine aops_append_nil (e := 3) (sz := 1) (by_ := 8) rfl rfl rfl rfl rfl rfl (by simp only [List.length_cons, List.length_nil, List.length_append, List.length_map, avs_len]; omega) (fun v14 hv14 => ?_)
      iterate 9 refine zW ?_
      first | (rw [mapi_snoc]; refine ⟨k + 1, _, q ++ [(k : Int)], ⟨by omega, by simp only [List.length_append, List.length_cons, List.length_nil]; omega, by rw [nodesTo_succ, if_pos (hc10.trans (by with_reducible assumption)), ← hI]⟩, by omega, zWk⟩) | refine ⟨k + 1, _, q, ⟨by omega, by omega, by rw [nodesTo_succ, if_neg (by rw [hc10.trans (by with_reducible assumption)]; decide), ← hI, List.append_nil]⟩, by omega, zWk⟩
    · iterate 8 refine zW ?_
      first | (rw [mapi_snoc]; refine ⟨k + 1, _, q ++ [(k : Int)], ⟨by omega, by simp only [List.length_append, List.length_cons, List.length_nil]; omega, by rw [nodesTo_succ, if_pos (hc10.trans (by with_reducible assumption)), ← hI]⟩, by omega, zWk⟩) | refine ⟨k + 1, _, q, ⟨by omega, by omega, by rw [nodesTo_succ, if_neg (by rw [hc10.trans (by with_reducible assumption)]; decide), ← hI, List.append_nil]⟩, by omega, zWk⟩
  · have hge := of_decide_eq_false hc
    obtain rfl : k = 10 := by omega
    iterate 6 refine zW ?_
    refine zFz v [3] ?_
    iterate 6 refine zW ?_
    refine zPi ?_
    rw [hI]; rfl
theorem content_con (c : List Mem) (k : Nat) (m : Mem) (hm : c[k]? = some m) (s : Int) : Con Tryz.prog 121 [cv c, .i k, .i s] [] (Is (.b (sat s m.t)) []) := by
  have hcap : capB = 140737488355328 := rfl
  have hx' := getMap mv hm
  refine con_intro Tryz.func121 rfl Tryz.call121 rfl ?_
  refine zW ?_; refine zW ?_
  refine zBx fun b3 => ?_
  iterate 12 refine zW ?_
  refine aops_call_v zRc (sat_con _ m.t) rfl rfl ?_
  iterate 4 refine zW ?_
  (refine zPi ?_; exact rfl)
theorem decl_con (c : List Mem) : Con Tryz.prog 104 [cv c] [] (Is (.i (declC c : Int)) []) := by
  have hcap : capB = 140737488355328 := rfl
  have hl1 : (c.map mv).length = c.length := by simp
  refine con_intro Tryz.func104 rfl Tryz.call104 rfl ?_
  refine zW ?_; refine zW ?_
  refine zBx fun b1 => ?_
  iterate 13 refine zW ?_
  first | refine zLn fun _ => ?_ | refine zW ?_
  iterate 4 refine zW ?_
  refine awp_loop2 [7, 8] [] (fun (k : Nat) (s : Nat) r => (3, .i (s : Int)) :: (9, .i (k : Int)) :: r) (fun k s r => r) (fun k s => k ≤ c.length ∧ s < 1024 ∧ declGo s k (c.drop k) = declC c) (fun k s => c.length - k) (0) (0) zRc ⟨by omega, by omega, by simp [declC]⟩ (zWk) ?_
  intro k s ⟨hk, hs, hI⟩
  iterate 6 refine zW ?_
  refine zC (fun hc => ?_) fun hc => ?_
  · have hlt := of_decide_eq_true hc
    obtain ⟨x, hx, hd⟩ := drop_cons (l := c) (k := k) (by omega)
    have hx' := getMap mv hx
    iterate 9 refine zW ?_
    refine zAl fun b5 => ?_
    iterate 9 refine zW ?_
    iterate 3 all_goals first | refine zW ?_ | (refine zG (fun hg => ?_) fun hg => ?_; case' _ => refine zW ?_)
    all_goals (
      refine zW ?_; refine zW ?_
      refine zC (fun hc => ?_) fun hc => ?_
      · first
        | (exact absurd hc (by decide))
        | (have h19 := of_decide_eq_true hc
           have hp := pow_lt10 (k := k) (by omega)
           iterate 3 refine zW ?_
           refine aops_p (ap_shl (p := 1) rfl rfl rfl (by omega) (by omega)) rfl rfl rfl ?_
           iterate 10 refine zW ?_
           rw [hd] at hI; simp only [declGo] at hI
           first | (rw [if_pos (by rw [show x.decl = true by with_reducible assumption, show decide ((k : Int) < 10) = true by with_reducible assumption]; rfl)] at hI; refine ⟨k + 1, s ||| 2 ^ k, ⟨by omega, Nat.or_lt_two_pow (n := 10) hs (pow_lt10 (by omega)), hI⟩, by omega, ?_⟩; rw [Nat.one_mul]; exact (zWk)) | (rw [if_neg (by first | (rw [show x.decl = false by with_reducible assumption]; simp; done) | (rw [show decide ((k : Int) < 10) = false by with_reducible assumption]; simp; done))] at hI; refine ⟨k + 1, s, ⟨by omega, hs, hI⟩, by omega, zWk⟩)
          )
      · first
        | (exact absurd hc (by decide))
        | (iterate 8 refine zW ?_
           rw [hd] at hI; simp only [declGo] at hI
           first | (rw [if_pos (by rw [show x.decl = true by with_reducible assumption, show decide ((k : Int) < 10) = true by with_reducible assumption]; rfl)] at hI; refine ⟨k + 1, s ||| 2 ^ k, ⟨by omega, Nat.or_lt_two_pow (n := 10) hs (pow_lt10 (by omega)), hI⟩, by omega, ?_⟩; rw [Nat.one_mul]; exact (zWk)) | (rw [if_neg (by first | (rw [show x.decl = false by with_reducible assumption]; simp; done) | (rw [show decide ((k : Int) < 10) = false by with_reducible assumption]; simp; done))] at hI; refine ⟨k + 1, s, ⟨by omega, hs, hI⟩, by omega, zWk⟩)
          )
      )
  · have hge := of_decide_eq_false hc
    rw [drop_nil (by omega)] at hI; simp only [declGo] at hI
    iterate 12 refine zW ?_
    refine zPi ?_
    rw [← hI]; rfl
theorem unh_con (c : List Mem) (s : Nat) (hs : s < 1024) (hin : In c s) : Con Tryz.prog 83 [cv c, .i s] [] (fun d H => ∃ (k : Int) (b : Bool), d = .tup [.i k, .b b] ∧ (b = true → unh c s = some k) ∧ (b = false → unh c s = none) ∧ H = []) := by
  have hcap : capB = 140737488355328 := rfl
  have hl1 : ((nodesOf s).map D.i).length = (nodesOf s).length := by simp
  refine con_intro Tryz.func83 rfl Tryz.call83 rfl ?_
  refine zW ?_; refine zW ?_
  refine zBx fun b2 => ?_
  iterate 8 refine zW ?_
  refine aops_call_v zRc (Nodes_con _) rfl rfl ?_
  first | refine zLn fun _ => ?_ | refine zW ?_
  iterate 4 refine zW ?_
  refine awp_loop1 [1, 2, 9, 10] [.box b2 _ _] (fun (k : Nat) r => (11, .i (k : Int)) :: r) (fun k r => r) (fun k => k ≤ (nodesOf s).length ∧ unh c s = ((nodesOf s).drop k).find? (bad c s)) (fun k => (nodesOf s).length - k) (0) zRc ⟨by omega, by unfold unh; simp⟩ (zWk) ?_
  intro k ⟨hk, hI⟩
  iterate 6 refine zW ?_
  refine zC (fun hc => ?_) fun hc => ?_
  · have hlt := of_decide_eq_true hc
    obtain ⟨x, hx, hd⟩ := drop_cons (l := nodesOf s) (k := k) (by omega)
    obtain ⟨j, m, rfl, hj, hm, hmd⟩ := hin.get hs (mem_nodesOf.1 (List.mem_of_getElem? hx))
    have hx' := getMap D.i hx
    iterate 16 refine zW ?_
    refine aops_call_b zRc (content_con c j m hm _) rfl rfl fun c18 hc18 => ?_
    iterate 3 refine zW ?_
    refine zC (fun hc => ?_) fun hc => ?_
    · iterate 13 refine zW ?_
      refine post_ret (.tmp rfl (.tmp rfl .nil)) zKeep ⟨_, _, rfl, fun _ => ?_, fun h => (by cases h), rfl⟩
      rw [hI, hd, List.find?_cons_of_pos (by unfold bad; rw [tOf_get hm, hc18]; exact hc)]
    · iterate 8 refine zW ?_
      rw [hd, List.find?_cons_of_neg (by unfold bad; rw [tOf_get hm, hc18, not_f hc]; decide)] at hI
      refine ⟨k + 1, ⟨by omega, hI⟩, by omega, zWk⟩
  · have hge := of_decide_eq_false hc
    rw [drop_nil (by omega)] at hI; simp only [List.find?_nil] at hI
    iterate 12 refine zW ?_
    refine post_ret (.tmp rfl (.tmp rfl .nil)) zKeep ⟨_, _, rfl, fun h => (by cases h), fun _ => hI, rfl⟩
theorem elimin_con (c : List Mem) (s0 : Int) : Con Tryz.prog 71 [cv c, .i s0] [] (Is (.tup [.i (great c s0 : Int), .sl 1 ((gOrder c s0).map .i)]) []) := by
  have hcap : capB = 140737488355328 := rfl
  have hdl := declC_lt c
  refine con_intro Tryz.func71 rfl Tryz.call71 rfl ?_
  refine zW ?_; refine zW ?_
  refine zBx fun b2 => ?_
  iterate 8 refine zW ?_
  refine aops_call_b zRc (valid_con s0) rfl rfl fun c10 hc10 => ?_
  iterate 3 refine zW ?_
  refine zC (fun hc => ?_) fun hc => ?_
  · have hv0 := hc10.trans (not_t hc)
    iterate 6 refine zW ?_
    refine awp_unnil [4,5] 1 rfl zSelC zHeapA ?_
    refine zW ?_; refine zW ?_
    refine zPi ?_
    unfold great gOrder; rw [hv0]; rfl
  · have hv0 := hc10.trans (not_f hc)
    obtain ⟨m, rfl, hm⟩ := valid_nat hv0
    iterate 11 refine zW ?_
    refine aops_call_v zRc (decl_con c) rfl rfl ?_
    iterate 5 refine zW ?_
    refine awp_loop3 [2] [.box b2 _ _] (fun (s : Nat) (v : Value) (q : List Int) r => (1, .i (s : Int)) :: (6, .v v) :: r) (fun s v q r => .arr v 3 1 (q.map .i) :: r) (fun s v q => q.length + s ≤ 1023 ∧ In c s ∧ elim c s q = elim c (m &&& declC c) []) (fun s v q => s) (m &&& declC c) (.slice none 0 0) ([]) zRc ⟨by have := and_lt (a := m) (declC_lt c); simp; omega, In.and c m, rfl⟩ ((wk_own 3 1 rfl).trans (zWk)) ?_
    intro s v q ⟨hql, hin, hI⟩
    have hs : s < 1024 := by omega
    iterate 5 refine zW ?_
    (refine aops_call zRc (unh_con c s hs hin) zSplit rfl rfl ?_; rintro _ _ ⟨k, b, rfl, hb1, hb0, rfl⟩)
    iterate 14 refine zW ?_
    refine zC (fun hc => ?_) fun hc => ?_
    · have hu := hb0 (not_t hc)
      rw [elim_none hu] at hI
      iterate 8 refine zW ?_
      refine zFz v [4,5] ?_
      iterate 5 refine zW ?_
      refine zPi ?_
      rw [great_eq c hm, gOrder_eq c hm, ← hI]; rfl
    · have hu := hb1 (not_f hc)
      obtain ⟨j, x, rfl, hj, _, _⟩ := hin.get hs (unh_has hu).1
      have hcl : clr s j < s := by have := unh_drop hu; rwa [Int.toNat_natCast] at this
      have hp := pow_lt10 hj
      iterate 6 refine zW ?_
      refine aops_lit (e := 3) (sz := 1) (by_ := 8) rfl rfl zRc rfl rfl rfl rfl ?_
      first | refine aops_append (e := 3) (sz := 1) (by_ := 8) rfl zUpd rfl rfl rfl rfl rfl (by simp only [List.length_cons, List.length_nil, List.length_append, List.length_map, avs_len]; omega) (fun v29 hv29 => ?_) | refine aops_append_nil (e := 3) (sz := 1) (by_ := 8) rfl rfl rfl rfl rfl rfl (by simp only [List.length_cons, List.length_nil, List.length_append, List.length_map, avs_len]; omega) (fun v29 hv29 => ?_)
      iterate 6 refine zW ?_
      refine aops_p (ap_shl (p := 1) rfl rfl rfl (by omega) (by omega)) rfl rfl rfl ?_
      iterate 5 refine zW ?_
      rw [mapi_snoc]
      refine ⟨clr s j, v29, q ++ [(j : Int)], ⟨by simp only [List.length_append, List.length_cons, List.length_nil]; omega, hin.clr, by rw [← hI, elim_some hu, Int.toNat_natCast]⟩, hcl, ?_⟩
      unfold clr; rw [Nat.one_mul]
      exact (zWk)
theorem great_con (c : List Mem) (s : Int) : Con Tryz.prog 37 [cv c, .i s] [] (Is (.i (great c s : Int)) []) := by
  have hcap : capB = 140737488355328 := rfl
  refine con_intro Tryz.func37 rfl Tryz.call37 rfl ?_
  refine zW ?_; refine zW ?_
  refine zBx fun b2 => ?_
  iterate 7 refine zW ?_
  refine aops_call_v zRc (elimin_con c _) rfl rfl ?_
  iterate 14 refine zW ?_
  (refine zPi ?_; exact rfl)
theorem blocks_con (c : List Mem) (v s : Int) : Con Tryz.prog 221 [cv c, .i v, .i s] [] (Is (.b (blocksC c v s)) []) := by
  have hcap : capB = 140737488355328 := rfl
  refine con_intro Tryz.func221 rfl Tryz.call221 rfl ?_
  refine zW ?_; refine zW ?_
  refine zBx fun b3 => ?_
  iterate 7 refine zW ?_
  refine aops_call_b zRc (valid_con _) rfl rfl fun c8 hc8 => ?_
  refine zW ?_; refine zW ?_
  all_goals first | refine zW ?_ | (refine zG (fun hg => ?_) fun hg => ?_; case' _ => refine zW ?_)
  all_goals first | (refine zY ?_; refine aops_call_v zRc (decl_con c) rfl rfl ?_) | refine zSk ?_ | (refine zG (fun hg => ?_) fun hg => ?_; case' _ => refine aops_call_v zRc (decl_con c) rfl rfl ?_)
  all_goals first | refine zW ?_ | (refine zG (fun hg => ?_) fun hg => ?_; case' _ => refine zW ?_)
  all_goals first | (refine zY ?_; refine aops_call_b zRc (has_con _ _) rfl rfl fun c14 hc14 => ?_) | refine zSk ?_ | (refine zG (fun hg => ?_) fun hg => ?_; case' _ => refine aops_call_b zRc (has_con _ _) rfl rfl fun c14 hc14 => ?_)
  iterate 2 all_goals first | refine zW ?_ | (refine zG (fun hg => ?_) fun hg => ?_; case' _ => refine zW ?_)
  all_goals (
    refine zW ?_; refine zW ?_
    refine zC (fun hc => ?_) fun hc => ?_
    · first
      | (exact absurd hc (by decide))
      | (iterate 7 refine zW ?_
         refine zPi ?_
         first | (rw [blocks_f2 (hc14.trans (not_t (by with_reducible assumption)))]; rfl) | (rw [blocks_f1 (hc8.trans (not_t (by with_reducible assumption)))]; rfl)
        )
    · first
      | (exact absurd hc (by decide))
      | (have hv0 := hc8.trans (not_f (by with_reducible assumption))
         have hh0 := hc14.trans (not_f hc)
         obtain ⟨m, rfl, hm⟩ := valid_nat hv0
         obtain ⟨j, x, rfl, hj, hx, _⟩ := has_decl hh0
         have hx' := getMap mv hx
         have hp := pow_lt10 hj
         have hxt := tOf_get hx
         have hand : 1023 &&& (2 ^ 63 - 1 - m) < 1024 := Nat.lt_of_le_of_lt Nat.and_le_left (by omega)
         iterate 3 refine zW ?_
         refine zDr [] ?_
         refine zT 0 ?_
         refine zT 1 ?_
         refine zT 2 ?_
         refine zT 3 ?_
         refine zT 4 ?_
         refine zT 5 ?_
         refine zT 6 ?_
         refine aany_take 7 rfl zGd zKr zKr zKr (AP.ar (ap_bits (p := 1023) rfl rfl rfl (by omega) (by omega))) rfl rfl ?_
         refine zT 8 ?_
         refine aany_take 9 rfl zGd zKr zKr zKr (AP.ar (ap_shl (p := 1) rfl rfl rfl (by omega) (by omega))) rfl rfl ?_
         refine zT 10 ?_
         refine zOn 11 ?_
         refine aops_call_b zRc (sat_con _ x.t) rfl rfl fun c28 hc28 => ?_
         refine zW ?_
         refine zT 12 ?_
         refine zT 13 ?_
         refine zW ?_
         all_goals (
           refine zW ?_; refine zW ?_
           refine zPi ?_
           rw [blocks_t hv0 hh0 hxt, hc28]; rfl
           )
        )
    )
theorem accepts_con (c : List Mem) (v a b : Int) : Con Tryz.prog 204 [cv c, .i v, .i a, .i b] [] (Is (.b (acceptsC c v a b)) []) := by
  have hcap : capB = 140737488355328 := rfl
  refine con_intro Tryz.func204 rfl Tryz.call204 rfl ?_
  refine zW ?_; refine zW ?_
  refine zBx fun b4 => ?_
  iterate 7 refine zW ?_
  refine aops_call_b zRc (valid_con _) rfl rfl fun c10 hc10 => ?_
  refine zW ?_; refine zW ?_
  all_goals first | refine zW ?_ | (refine zG (fun hg => ?_) fun hg => ?_; case' _ => refine zW ?_)
  all_goals first | (refine zY ?_; refine aops_call_b zRc (valid_con _) rfl rfl fun c14 hc14 => ?_) | refine zSk ?_ | (refine zG (fun hg => ?_) fun hg => ?_; case' _ => refine aops_call_b zRc (valid_con _) rfl rfl fun c14 hc14 => ?_)
  iterate 2 all_goals first | refine zW ?_ | (refine zG (fun hg => ?_) fun hg => ?_; case' _ => refine zW ?_)
  all_goals (
    refine zW ?_; refine zW ?_
    refine zC (fun hc => ?_) fun hc => ?_
    · first
      | (exact absurd hc (by decide))
      | (iterate 7 refine zW ?_
         refine zPi ?_
         first | (rw [accepts_f2 (hc14.trans (not_t (by with_reducible assumption)))]; rfl) | (rw [accepts_f1 (hc10.trans (not_t (by with_reducible assumption)))]; rfl)
        )
    · first
      | (exact absurd hc (by decide))
      | (have hv0 := hc10.trans (not_f (by with_reducible assumption))
         have hw0 := hc14.trans (not_f hc)
         obtain ⟨m, rfl, hm⟩ := valid_nat hv0
         obtain ⟨j, rfl, hj⟩ := valid_nat hw0
         iterate 7 refine zW ?_
         refine aops_call_b zRc (blocks_con c _ _) rfl rfl fun c20 hc20 => ?_
         refine zW ?_
         iterate 4 all_goals first | refine zW ?_ | (refine zG (fun hg => ?_) fun hg => ?_; case' _ => refine zW ?_)
         all_goals first | (refine zY ?_; refine aops_call_v zRc (great_con c _) rfl rfl ?_) | refine zSk ?_ | (refine zG (fun hg => ?_) fun hg => ?_; case' _ => refine aops_call_v zRc (great_con c _) rfl rfl ?_)
         all_goals first | refine zW ?_ | (refine zG (fun hg => ?_) fun hg => ?_; case' _ => refine zW ?_)
         all_goals first | (refine zY ?_; refine aops_call_b zRc (has_con _ _) rfl rfl fun c28 hc28 => ?_) | refine zSk ?_ | (refine zG (fun hg => ?_) fun hg => ?_; case' _ => refine aops_call_b zRc (has_con _ _) rfl rfl fun c28 hc28 => ?_)
         iterate 2 all_goals refine zW ?_
         all_goals (
           iterate 3 refine zW ?_
           refine zPi ?_
           rw [accepts_t hv0 hw0, hc20]
           first | (rw [hc28, show c20 = false by with_reducible assumption]; rfl) | (rw [show c20 = true by with_reducible assumption]; rfl)
           )
        )
    )
theorem confirms_con (c : List Mem) (v a : Int) : Con Tryz.prog 183 [cv c, .i v, .i a] [] (Is (.b (confirmsC c v a)) []) := by
  have hcap : capB = 140737488355328 := rfl
  refine con_intro Tryz.func183 rfl Tryz.call183 rfl ?_
  refine zW ?_; refine zW ?_
  refine zBx fun b3 => ?_
  iterate 7 refine zW ?_
  refine aops_call_v zRc (great_con c _) rfl rfl ?_
  refine zW ?_
  refine aops_call_v zRc (has_con _ _) rfl rfl ?_
  iterate 4 refine zW ?_
  (refine zPi ?_; exact rfl)
theorem of_neq_true {a b : Int} (h : (!decide (a = b)) = true) : ¬ a = b := by simpa using h
theorem of_neq_false {a b : Int} (h : (!decide (a = b)) = false) : a = b := by simpa using h
theorem validn {s : Nat} (h : s < 1024) : Con Tryz.prog 42 [.i s] [] (Is (.b true) []) := by rw [← valid_n h]; exact valid_con s
theorem inside_con (c : List Mem) (s : Nat) (hs : s < 1024) : Con Tryz.prog 82 [cv c, .i s] [] (Is (.b (insideC c s)) []) := by
  have hcap : capB = 140737488355328 := rfl
  have hdl := declC_lt c
  refine con_intro Tryz.func82 rfl Tryz.call82 rfl ?_
  refine zW ?_; refine zW ?_
  refine zBx fun b2 => ?_
  iterate 7 refine zW ?_
  refine aops_call_v zRc (decl_con c) rfl rfl ?_
  iterate 6 refine zW ?_
  (refine zPi ?_; exact rfl)
theorem quorum_con (c : List Mem) (s : Nat) (hs : s < 1024) : Con Tryz.prog 47 [cv c, .i s] [] (Is (.b (quorumC c s)) []) := by
  have hcap : capB = 140737488355328 := rfl
  refine con_intro Tryz.func47 rfl Tryz.call47 rfl ?_
  refine zW ?_; refine zW ?_
  refine zBx fun b2 => ?_
  iterate 7 refine zW ?_
  refine aops_call_v zRc (validn hs) rfl rfl ?_
  refine zW ?_; refine zW ?_
  iterate 6 all_goals first | refine zW ?_ | (refine zG (fun hg => ?_) fun hg => ?_; case' _ => refine zW ?_)
  all_goals first | (refine zY ?_; refine aops_call_b zRc (inside_con c s hs) rfl rfl fun c17 hc17 => ?_) | refine zSk ?_ | (refine zG (fun hg => ?_) fun hg => ?_; case' _ => refine aops_call_b zRc (inside_con c s hs) rfl rfl fun c17 hc17 => ?_)
  iterate 2 all_goals first | refine zW ?_ | (refine zG (fun hg => ?_) fun hg => ?_; case' _ => refine zW ?_)
  all_goals (
    refine zW ?_; refine zW ?_
    refine zC (fun hc => ?_) fun hc => ?_
    · first
      | (exact absurd hc (by decide))
      | (iterate 7 refine zW ?_
         refine zPi ?_
         first | (rw [quorum_f1 (hc17.trans (not_t (by with_reducible assumption)))]; rfl) | (rw [quorum_f2 (by with_reducible assumption)]; rfl)
        )
    · first
      | (exact absurd hc (by decide))
      | (have hi0 := hc17.trans (not_f hc)
         have hin := (insideC_iff hs).1 hi0
         iterate 6 refine zW ?_
         (refine aops_call zRc (unh_con c s hs hin) zSplit rfl rfl ?_; rintro _ _ ⟨k, b, rfl, hb1, hb0, rfl⟩)
         iterate 15 refine zW ?_
         refine zPi ?_
         rw [quorum_t (by with_reducible assumption) hi0 hb1 hb0]; rfl
        )
    )
theorem ints_con (x y : List Int) : Con Tryz.prog 28 [.sl 1 (x.map .i), .sl 1 (y.map .i)] [] (Is (.b (decide (x = y))) []) := by
  have hcap : capB = 140737488355328 := rfl
  have hx1 : (x.map D.i).length = x.length := by simp
  have hy1 : (y.map D.i).length = y.length := by simp
  refine con_intro Tryz.func28 rfl Tryz.call28 rfl ?_
  iterate 9 refine zW ?_
  first | refine zLn fun _ => ?_ | refine zW ?_
  refine zW ?_
  first | refine zLn fun _ => ?_ | refine zW ?_
  iterate 3 refine zW ?_
  refine zC (fun hc => ?_) fun hc => ?_
  · have hne := of_neq_true hc
    iterate 7 refine zW ?_
    refine zPi ?_
    rw [decide_eq_false (fun e => hne (by rw [e]))]; rfl
  · have hlen := of_neq_false hc
    have hll : x.length = y.length := by omega
    iterate 6 refine zW ?_
    first | refine zLn fun _ => ?_ | refine zW ?_
    iterate 4 refine zW ?_
    refine awp_loop1 [0, 1, 12] [] (fun (k : Nat) r => (13, .i (k : Int)) :: r) (fun k r => r) (fun k => k ≤ x.length ∧ x.take k = y.take k) (fun k => x.length - k) (0) zRc ⟨by omega, by simp⟩ (zWk) ?_
    intro k ⟨hk, hI⟩
    iterate 6 refine zW ?_
    refine zC (fun hc => ?_) fun hc => ?_
    · have hlt := of_decide_eq_true hc
      obtain ⟨u, hu, _⟩ := drop_cons (l := x) (k := k) (by omega)
      obtain ⟨v, hv, _⟩ := drop_cons (l := y) (k := k) (by omega)
      have hu' := getMap D.i hu
      have hv' := getMap D.i hv
      iterate 11 refine zW ?_
      refine zDr [] ?_
      refine zT 0 ?_
      refine zT 1 ?_
      refine zT 2 ?_
      refine zT 3 ?_
      refine zT 4 ?_
      refine zT 5 ?_
      refine zT 6 ?_
      refine zT 7 ?_
      refine zT 8 ?_
      refine zW ?_
      all_goals (
        refine zW ?_
        refine zC (fun hc => ?_) fun hc => ?_
        · have hne := of_neq_true hc
          iterate 11 refine zW ?_
          refine zPi ?_
          rw [decide_eq_false (fun e => hne (by rw [e, hv] at hu; injection hu with hu; exact hu.symm))]; rfl
        · iterate 8 refine zW ?_
          have e := of_neq_false hc
          refine ⟨k + 1, ⟨by omega, by rw [List.take_add_one, List.take_add_one, hI, hu, hv, e]⟩, by omega, zWk⟩
        )
    · have hge := of_decide_eq_false hc
      iterate 11 refine zW ?_
      refine zPi ?_
      rw [List.take_of_length_le (by omega), List.take_of_length_le (by omega)] at hI; rw [decide_eq_true hI]; rfl
theorem badN_nd (k : Int) : (!nd k) = badN k := by
  unfold nd badN
  by_cases h1 : 0 ≤ k <;> by_cases h2 : k < 10 <;> simp [h1, h2] <;> omega
theorem any_cons_f {p : Int → Bool} {x : Int} {r : List Int} (h : p x = false) : (x :: r).any p = r.any p := by simp [h]
theorem any_cons_t {p : Int → Bool} {x : Int} {r : List Int} (h : p x = true) : (x :: r).any p = true := by simp [h]
theorem of_con (l : List Int) : Con Tryz.prog 149 [.sl 1 (l.map .i)] [] (Is (.tup [.i (ofGo 0 l).1, .i (ofGo 0 l).2]) []) := by
  have hcap : capB = 140737488355328 := rfl
  have hl1 : (l.map D.i).length = l.length := by simp
  refine con_intro Tryz.func149 rfl Tryz.call149 rfl ?_
  iterate 15 refine zW ?_
  first | refine zLn fun _ => ?_ | refine zW ?_
  iterate 4 refine zW ?_
  refine awp_loop2 [7, 8] [] (fun (k : Nat) (s : Nat) r => (4, .i (s : Int)) :: (9, .i (k : Int)) :: r) (fun k s r => r) (fun k s => k ≤ l.length ∧ s < 1024 ∧ ofGo s (l.drop k) = ofGo 0 l) (fun k s => l.length - k) (0) (0) zRc ⟨by omega, by omega, by simp⟩ (zWk) ?_
  intro k s ⟨hk, hs, hI⟩
  iterate 6 refine zW ?_
  refine zC (fun hc => ?_) fun hc => ?_
  · have hlt : k < l.length := by have := of_decide_eq_true hc; omega
    obtain ⟨x, hx, hd⟩ := drop_cons hlt
    have hx' := getMap D.i hx
    iterate 17 refine zW ?_
    iterate 3 all_goals first | refine zW ?_ | (refine zG (fun hg => ?_) fun hg => ?_; case' _ => refine zW ?_)
    all_goals (
      refine zW ?_; refine zW ?_
      refine zC (fun hc => ?_) fun hc => ?_
      · first
        | (exact absurd hc (by decide))
        | (iterate 13 refine zW ?_
           refine post_is (.tmp rfl (.tmp rfl .nil)) .nil ?_
           rw [hd, ofGo, if_pos (by first | (have := of_decide_eq_true hg; omega) | (have := of_decide_eq_true hc; omega))] at hI
           rw [← hI]; rfl
          )
      · first
        | (exact absurd hc (by decide))
        | (have hc2 := hc
           iterate 7 refine zW ?_
           refine aops_call_v zRc (has_con _ _) rfl rfl ?_
           refine zW ?_; refine zW ?_
           refine zC (fun hc => ?_) fun hc => ?_
           · iterate 13 refine zW ?_
             refine post_is (.tmp rfl (.tmp rfl .nil)) .nil ?_
             have h3 := of_decide_eq_false hg
             have h4 := of_decide_eq_false hc2
             rw [hd, ofGo, if_neg (by omega), if_pos hc] at hI
             rw [← hI]; rfl
           · refine zW ?_; refine zW ?_
             obtain ⟨q, rfl, hq⟩ := badN_f hg hc2
             have hp2 := pow_lt10 hq
             iterate 3 refine zW ?_
             refine aops_p (ap_shl (p := 1) rfl rfl rfl (by omega) (by omega)) rfl rfl rfl ?_
             iterate 10 refine zW ?_
             rw [hd, ofGo, if_neg (by omega), if_neg (by simp [hc])] at hI
             refine ⟨k + 1, s ||| 1 * 2 ^ q, ⟨by omega, or_lt10 hs hq, ?_⟩, by omega, zWk⟩
             simpa using hI
          )
      )
  · have hge : l.length ≤ k := by have := of_decide_eq_false hc; omega
    rw [drop_nil hge] at hI; simp only [ofGo] at hI
    iterate 13 refine zW ?_
    refine post_is (.tmp rfl (.tmp rfl .nil)) .nil ?_
    rw [← hI]; rfl
theorem indexF_con (f : FuncId) (p : Int → Bool) (hf : ∀ k : Int, Con Tryz.prog f [.i k] [] (Is (.b (p k)) [])) (l : List Int) : Con Tryz.prog 75 [.sl 1 (l.map .i), .v (.func (.func f) #[] #[])] [] (fun d H => ∃ r : Int, d = .i r ∧ decide (0 ≤ r) = l.any p ∧ H = []) := by
  have hcap : capB = 140737488355328 := rfl
  have hl1 : (l.map D.i).length = l.length := by simp
  refine con_intro Tryz.func75 rfl Tryz.call75 rfl ?_
  iterate 9 refine zW ?_
  first | refine zLn fun _ => ?_ | refine zW ?_
  iterate 4 refine zW ?_
  refine awp_loop1 [0, 1, 7] [] (fun (k : Nat) r => (8, .i (k : Int)) :: r) (fun k r => r) (fun k => k ≤ l.length ∧ (l.drop k).any p = l.any p) (fun k => l.length - k) (0) zRc ⟨by omega, by simp⟩ (zWk) ?_
  intro k ⟨hk, hI⟩
  iterate 6 refine zW ?_
  refine zC (fun hc => ?_) fun hc => ?_
  · have hlt : k < l.length := by have := of_decide_eq_true hc; omega
    obtain ⟨x, hx, hd⟩ := drop_cons hlt
    have hx' := getMap D.i hx
    rw [hd] at hI
    iterate 17 refine zW ?_
    refine aops_callv_b (caps := []) rfl zRc (hf x) rfl rfl (fun c16 hc16 => ?_)
    refine zW ?_; refine zW ?_
    refine zC (fun hc => ?_) fun hc => ?_
    · iterate 12 refine zW ?_
      refine post_ret (.tmp rfl .nil) zKeep ⟨_, rfl, ?_, rfl⟩
      rw [any_cons_t (hc16.trans hc)] at hI
      rw [← hI]; exact decide_eq_true (by omega)
    · iterate 8 refine zW ?_
      rw [any_cons_f (hc16.trans hc)] at hI
      refine ⟨k + 1, ⟨by omega, hI⟩, by omega, zWk⟩
  · have hge : l.length ≤ k := by have := of_decide_eq_false hc; omega
    rw [drop_nil hge] at hI
    iterate 11 refine zW ?_
    refine post_ret (.tmp rfl .nil) zKeep ⟨_, rfl, ?_, rfl⟩
    rw [← hI]; rfl
theorem containsF_con (f : FuncId) (p : Int → Bool) (hf : ∀ k : Int, Con Tryz.prog f [.i k] [] (Is (.b (p k)) [])) (l : List Int) : Con Tryz.prog 45 [.sl 1 (l.map .i), .v (.func (.func f) #[] #[])] [] (Is (.b (l.any p)) []) := by
  have hcap : capB = 140737488355328 := rfl
  refine con_intro Tryz.func45 rfl Tryz.call45 rfl ?_
  iterate 9 refine zW ?_
  (refine aops_call zRc (indexF_con f p hf l) zSplit rfl rfl ?_; rintro _ _ ⟨r, rfl, hr, rfl⟩)
  iterate 5 refine zW ?_
  refine zPi ?_
  rw [← hr]; rfl
theorem lev1_con (k : Int) : Con Tryz.prog 148 [.i k] [] (Is (.b (badN k)) []) := by
  have hcap : capB = 140737488355328 := rfl
  refine con_intro Tryz.func148 rfl Tryz.call148 rfl ?_
  iterate 8 refine zW ?_
  refine aops_call_v zRc (node_con _) rfl rfl ?_
  iterate 5 refine zW ?_
  refine zPi ?_
  rw [← badN_nd]; rfl
theorem level_con : ∀ (t : Trust), Con Tryz.prog 107 [av t] [] (Is (.i (checkT t)) []) := by
  have hcap : capB = 140737488355328 := rfl
  intro t
  induction t using Trust.ind with
  | _ t ih =>
    have hl1 : (t.nodes.map D.i).length = t.nodes.length := by simp
    have hl2 := avs_len t.inner
    refine con_intro Tryz.func107 rfl Tryz.call107 rfl ?_
    refine zW ?_; refine zW ?_
    refine zBx fun b1 => ?_
    iterate 10 refine zW ?_
    iterate 4 all_goals first | refine zW ?_ | (refine zG (fun hg => ?_) fun hg => ?_; case' _ => refine zW ?_)
    all_goals first | (refine zY ?_; (first | refine zLn fun _ => ?_ | refine zW ?_)) | refine zSk ?_ | (refine zG (fun hg => ?_) fun hg => ?_; case' _ => (first | refine zLn fun _ => ?_ | refine zW ?_))
    iterate 2 all_goals first | refine zW ?_ | (refine zG (fun hg => ?_) fun hg => ?_; case' _ => refine zW ?_)
    all_goals first | (refine zY ?_; (first | refine zLn fun _ => ?_ | refine zW ?_)) | refine zSk ?_ | (refine zG (fun hg => ?_) fun hg => ?_; case' _ => (first | refine zLn fun _ => ?_ | refine zW ?_))
    iterate 3 all_goals first | refine zW ?_ | (refine zG (fun hg => ?_) fun hg => ?_; case' _ => refine zW ?_)
    all_goals (
      refine zW ?_; refine zW ?_
      refine zC (fun hc => ?_) fun hc => ?_
      · first
        | (exact absurd hc (by decide))
        | (iterate 7 refine zW ?_
           refine post_is (.tmp rfl .nil) .nil ?_
           simp only [resD, checkT]; rw [if_pos (by first | (have := of_decide_eq_true hg; omega) | (have := of_decide_eq_true hc; omega))]
          )
      · first
        | (exact absurd hc (by decide))
        | (have hth : ¬ (t.th < 1 ∨ (t.nodes.length + t.inner.length : Int) < t.th) := by have h1 := of_decide_eq_false hg; have h2 := of_decide_eq_false hc; omega
           iterate 7 refine zW ?_
           refine aops_call_v zRc (containsF_con _ badN lev1_con t.nodes) rfl rfl ?_
           refine zW ?_; refine zW ?_
           refine zC (fun hc => ?_) fun hc => ?_
           · have hany := hc
             iterate 7 refine zW ?_
             refine post_is (.tmp rfl .nil) .nil ?_
             simp only [resD, checkT]; rw [if_neg hth, if_pos hany]
           · have hany := hc
             iterate 7 refine zW ?_
             refine aops_call_v zRc (of_con t.nodes) rfl rfl ?_
             iterate 13 refine zW ?_
             refine zC (fun hc => ?_) fun hc => ?_
             · have he := hc
               iterate 8 refine zW ?_
               refine post_is (.tmp rfl .nil) .nil ?_
               simp only [resD, checkT]; rw [if_neg hth, if_neg (by rw [hany]; simp), if_pos (by simpa using he)]
             · have he := hc
               iterate 7 refine zW ?_
               first | refine zLn fun _ => ?_ | refine zW ?_
               iterate 4 refine zW ?_
               refine awp_loop1 [36, 37] [] (fun (k : Nat) r => (38, .i (k : Int)) :: r) (fun k r => r) (fun k => k ≤ t.inner.length ∧ checkL (t.inner.drop k) = checkL t.inner) (fun k => t.inner.length - k) (0) zRc ⟨by omega, by simp⟩ (zWk) ?_
               intro k ⟨hk, hI⟩
               iterate 6 refine zW ?_
               refine zC (fun hc => ?_) fun hc => ?_
               · have hlt : k < t.inner.length := by have := of_decide_eq_true hc; omega
                 obtain ⟨x, hx, hd⟩ := drop_cons hlt
                 have hx' := avs_get hx
                 have hxm := List.mem_of_getElem? hx
                 iterate 8 refine zW ?_
                 refine zAl fun b6 => ?_
                 iterate 6 refine zW ?_
                 refine aops_call_v zRc (ih _ hxm) rfl rfl ?_
                 iterate 9 refine zW ?_
                 refine zC (fun hc => ?_) fun hc => ?_
                 · iterate 12 refine zW ?_
                   refine post_is (.tmp rfl .nil) .nil ?_
                   rw [hd, checkL_cons, if_pos (by simpa using hc)] at hI
                   have e : checkT t = checkL t.inner := by unfold checkT; rw [if_neg hth, if_neg (by rw [hany]; simp), if_neg (by simpa using he)]
                   simp only [resD]; rw [e, ← hI]
                 · iterate 8 refine zW ?_
                   have hz := of_decide_eq_true (Bool.not_eq_false' .. ▸ hc)
                   rw [hd, checkL_cons, if_neg (by simpa using hz)] at hI
                   refine ⟨k + 1, ⟨by omega, hI⟩, by omega, zWk⟩
               · have hge : t.inner.length ≤ k := by have := of_decide_eq_false hc; omega
                 rw [drop_nil hge] at hI; simp only [checkL] at hI
                 iterate 11 refine zW ?_
                 refine post_is (.tmp rfl .nil) .nil ?_
                 have e : checkT t = checkL t.inner := by unfold checkT; rw [if_neg hth, if_neg (by rw [hany]; simp), if_neg (by simpa using he)]
                 simp only [resD]; rw [e, ← hI]
          )
      )
theorem validT_con (t : Trust) (ht : sizeT t ≤ 1000000000) : Con Tryz.prog 73 [av t] [] (Is (.i (validT t)) []) := by
  have hcap : capB = 140737488355328 := rfl
  refine con_intro Tryz.func73 rfl Tryz.call73 rfl ?_
  refine zW ?_; refine zW ?_
  refine zBx fun b1 => ?_
  iterate 7 refine zW ?_
  refine aops_call_v zRc (depth_con 1000000000 (by omega) t ht) rfl rfl ?_
  refine zW ?_; refine zW ?_
  all_goals first | refine zW ?_ | (refine zG (fun hg => ?_) fun hg => ?_; case' _ => refine zW ?_)
  all_goals first | (refine zY ?_; refine aops_call_v zRc (size_con 1000000000 (by omega) t ht) rfl rfl ?_) | refine zSk ?_ | (refine zG (fun hg => ?_) fun hg => ?_; case' _ => refine aops_call_v zRc (size_con 1000000000 (by omega) t ht) rfl rfl ?_)
  iterate 2 all_goals first | refine zW ?_ | (refine zG (fun hg => ?_) fun hg => ?_; case' _ => refine zW ?_)
  all_goals (
    refine zW ?_; refine zW ?_
    refine zC (fun hc => ?_) fun hc => ?_
    · first
      | (exact absurd hc (by decide))
      | (iterate 7 refine zW ?_
         refine post_is (.tmp rfl .nil) .nil ?_
         simp only [resD, validT]; rw [if_pos (by first | (have := of_decide_eq_true hg; omega) | (have := of_decide_eq_true hc; omega))]
        )
    · first
      | (exact absurd hc (by decide))
      | (iterate 5 refine zW ?_
         refine aops_call_v zRc (level_con t) rfl rfl ?_
         iterate 4 refine zW ?_
         refine post_is (.tmp rfl .nil) .nil ?_
         simp only [resD, validT]; rw [if_neg (by have h1 := of_decide_eq_false hg; have h2 := of_decide_eq_false hc; omega)]
        )
    )
theorem equal_con (x y : List Int) : Con Tryz.prog 162 [.sl 1 (x.map .i), .sl 1 (y.map .i)] [] (Is (.b (decide (x = y))) []) := by
  have hcap : capB = 140737488355328 := rfl
  have hx1 : (x.map D.i).length = x.length := by simp
  have hy1 : (y.map D.i).length = y.length := by simp
  refine con_intro Tryz.func162 rfl Tryz.call162 rfl ?_
  iterate 9 refine zW ?_
  first | refine zLn fun _ => ?_ | refine zW ?_
  refine zW ?_
  first | refine zLn fun _ => ?_ | refine zW ?_
  iterate 3 refine zW ?_
  refine zC (fun hc => ?_) fun hc => ?_
  · have hne := of_neq_true hc
    iterate 7 refine zW ?_
    refine zPi ?_
    rw [decide_eq_false (fun e => hne (by rw [e]))]; rfl
  · have hlen := of_neq_false hc
    have hll : x.length = y.length := by omega
    iterate 6 refine zW ?_
    first | refine zLn fun _ => ?_ | refine zW ?_
    iterate 4 refine zW ?_
    refine awp_loop1 [0, 1, 12] [] (fun (k : Nat) r => (13, .i (k : Int)) :: r) (fun k r => r) (fun k => k ≤ x.length ∧ x.take k = y.take k) (fun k => x.length - k) (0) zRc ⟨by omega, by simp⟩ (zWk) ?_
    intro k ⟨hk, hI⟩
    iterate 6 refine zW ?_
    refine zC (fun hc => ?_) fun hc => ?_
    · have hlt := of_decide_eq_true hc
      obtain ⟨u, hu, _⟩ := drop_cons (l := x) (k := k) (by omega)
      obtain ⟨v, hv, _⟩ := drop_cons (l := y) (k := k) (by omega)
      have hu' := getMap D.i hu
      have hv' := getMap D.i hv
      iterate 11 refine zW ?_
      refine zDr [] ?_
      refine zT 0 ?_
      refine zT 1 ?_
      refine zT 2 ?_
      refine zT 3 ?_
      refine zT 4 ?_
      refine zT 5 ?_
      refine zT 6 ?_
      refine zT 7 ?_
      refine zT 8 ?_
      refine zW ?_
      all_goals (
        refine zW ?_
        refine zC (fun hc => ?_) fun hc => ?_
        · have hne := of_neq_true hc
          iterate 11 refine zW ?_
          refine zPi ?_
          rw [decide_eq_false (fun e => hne (by rw [e, hv] at hu; injection hu with hu; exact hu.symm))]; rfl
        · iterate 8 refine zW ?_
          have e := of_neq_false hc
          refine ⟨k + 1, ⟨by omega, by rw [List.take_add_one, List.take_add_one, hI, hu, hv, e]⟩, by omega, zWk⟩
        )
    · have hge := of_decide_eq_false hc
      iterate 11 refine zW ?_
      refine zPi ?_
      rw [List.take_of_length_le (by omega), List.take_of_length_le (by omega)] at hI; rw [decide_eq_true hI]; rfl
theorem eqf_con (f : FuncId) (a b : List Trust) (h : ∀ x ∈ a, ∀ y, Con Tryz.prog f [av x, av y] [] (Is (.b (same x y)) [])) : Con Tryz.prog 163 [.sl 3 (avs a), .sl 3 (avs b), .v (.func (.func f) #[] #[])] [] (Is (.b (sameL a b)) []) := by
  have hcap : capB = 140737488355328 := rfl
  have hx1 := avs_len a
  have hy1 := avs_len b
  refine con_intro Tryz.func163 rfl Tryz.call163 rfl ?_
  iterate 9 refine zW ?_
  first | refine zLn fun _ => ?_ | refine zW ?_
  refine zW ?_
  first | refine zLn fun _ => ?_ | refine zW ?_
  iterate 3 refine zW ?_
  refine zC (fun hc => ?_) fun hc => ?_
  · have hne := of_neq_true hc
    iterate 7 refine zW ?_
    refine zPi ?_
    rw [sameL_of_len (fun e => hne (by omega))]; rfl
  · have hlen := of_neq_false hc
    have hll : a.length = b.length := by omega
    iterate 6 refine zW ?_
    first | refine zLn fun _ => ?_ | refine zW ?_
    iterate 4 refine zW ?_
    refine awp_loop1 [1, 2, 15, 16] [] (fun (k : Nat) r => (17, .i (k : Int)) :: r) (fun k r => r) (fun k => k ≤ a.length ∧ sameL (a.drop k) (b.drop k) = sameL a b) (fun k => a.length - k) (0) zRc ⟨by omega, by simp⟩ (zWk) ?_
    intro k ⟨hk, hI⟩
    iterate 6 refine zW ?_
    refine zC (fun hc => ?_) fun hc => ?_
    · have hlt := of_decide_eq_true hc
      obtain ⟨u, hu, hud⟩ := drop_cons (l := a) (k := k) (by omega)
      obtain ⟨v, hv, hvd⟩ := drop_cons (l := b) (k := k) (by omega)
      have hu' := avs_get hu
      have hv' := avs_get hv
      have hum := List.mem_of_getElem? hu
      iterate 9 refine zW ?_
      refine zAl fun b8 => ?_
      iterate 10 refine zW ?_
      refine zAl fun b9 => ?_
      iterate 8 refine zW ?_
      refine aops_callv_b (caps := []) rfl zRc (h u hum v) rfl rfl (fun c29 hc29 => ?_)
      iterate 3 refine zW ?_
      refine zC (fun hc => ?_) fun hc => ?_
      · iterate 11 refine zW ?_
        refine zPi ?_
        rw [hud, hvd, sameL_cons, hc29.trans (not_t hc), Bool.false_and] at hI
        rw [← hI]; rfl
      · iterate 8 refine zW ?_
        rw [hud, hvd, sameL_cons, hc29.trans (not_f hc), Bool.true_and] at hI
        refine ⟨k + 1, ⟨by omega, hI⟩, by omega, zWk⟩
    · have hge := of_decide_eq_false hc
      rw [drop_nil (by omega), drop_nil (by omega)] at hI
      iterate 11 refine zW ?_
      refine zPi ?_
      rw [← hI]; rfl
theorem same_con : ∀ (t u : Trust), Con Tryz.prog 134 [av t, av u] [] (Is (.b (same t u)) []) := by
  have hcap : capB = 140737488355328 := rfl
  intro t
  induction t using Trust.ind with
  | _ t ih =>
    intro u
    refine con_intro Tryz.func134 rfl Tryz.call134 rfl ?_
    refine zW ?_; refine zW ?_
    refine zBx fun b2 => ?_
    refine zBx fun b3 => ?_
    iterate 11 refine zW ?_
    iterate 4 all_goals first | refine zW ?_ | (refine zG (fun hg => ?_) fun hg => ?_; case' _ => refine zW ?_)
    all_goals first | (refine zY ?_; refine aops_call_b zRc (equal_con t.nodes u.nodes) rfl rfl fun c15 hc15 => ?_) | refine zSk ?_ | (refine zG (fun hg => ?_) fun hg => ?_; case' _ => refine aops_call_b zRc (equal_con t.nodes u.nodes) rfl rfl fun c15 hc15 => ?_)
    iterate 6 all_goals first | refine zW ?_ | (refine zG (fun hg => ?_) fun hg => ?_; case' _ => refine zW ?_)
    all_goals first | (refine zY ?_; refine aops_call_b zRc (eqf_con _ t.inner u.inner ih) rfl rfl fun c22 hc22 => ?_) | refine zSk ?_ | (refine zG (fun hg => ?_) fun hg => ?_; case' _ => refine aops_call_b zRc (eqf_con _ t.inner u.inner ih) rfl rfl fun c22 hc22 => ?_)
    iterate 2 all_goals refine zW ?_
    all_goals (
      iterate 3 refine zW ?_
      refine zPi ?_
      first | (simp_all [resD, same]; done)
      )
theorem same_is (t : Trust) : Con Tryz.prog 134 [av t, av t] [] (Is (.b true) []) := by
  have h1 := same_con t t
  rwa [same_refl] at h1
theorem rsameI_con (x y : List Int) : Con Tryz.prog 67 [.sl 1 (x.map .i), .sl 1 (y.map .i)] [] (Is (.b (decide (x = y))) []) := by
  have hcap : capB = 140737488355328 := rfl
  have hx1 : (x.map D.i).length = x.length := by simp
  have hy1 : (y.map D.i).length = y.length := by simp
  refine con_intro Tryz.func67 rfl Tryz.call67 rfl ?_
  iterate 9 refine zW ?_
  first | refine zLn fun _ => ?_ | refine zW ?_
  refine zW ?_
  first | refine zLn fun _ => ?_ | refine zW ?_
  iterate 3 refine zW ?_
  refine zC (fun hc => ?_) fun hc => ?_
  · have hne := of_neq_true hc
    iterate 7 refine zW ?_
    refine zPi ?_
    rw [decide_eq_false (fun e => hne (by rw [e]))]; rfl
  · have hlen := of_neq_false hc
    have hll : x.length = y.length := by omega
    iterate 6 refine zW ?_
    first | refine zLn fun _ => ?_ | refine zW ?_
    iterate 4 refine zW ?_
    refine awp_loop1 [0, 1, 12] [] (fun (k : Nat) r => (13, .i (k : Int)) :: r) (fun k r => r) (fun k => k ≤ x.length ∧ x.take k = y.take k) (fun k => x.length - k) (0) zRc ⟨by omega, by simp⟩ (zWk) ?_
    intro k ⟨hk, hI⟩
    iterate 6 refine zW ?_
    refine zC (fun hc => ?_) fun hc => ?_
    · have hlt := of_decide_eq_true hc
      obtain ⟨u, hu, _⟩ := drop_cons (l := x) (k := k) (by omega)
      obtain ⟨v, hv, _⟩ := drop_cons (l := y) (k := k) (by omega)
      have hu' := getMap D.i hu
      have hv' := getMap D.i hv
      iterate 11 refine zW ?_
      refine zDr [] ?_
      refine zT 0 ?_
      refine zT 1 ?_
      refine zT 2 ?_
      refine zT 3 ?_
      refine zT 4 ?_
      refine zT 5 ?_
      refine zT 6 ?_
      refine zT 7 ?_
      refine zT 8 ?_
      refine zW ?_
      all_goals (
        refine zW ?_
        refine zC (fun hc => ?_) fun hc => ?_
        · have hne := of_neq_true hc
          iterate 11 refine zW ?_
          refine zPi ?_
          rw [decide_eq_false (fun e => hne (by rw [e, hv] at hu; injection hu with hu; exact hu.symm))]; rfl
        · iterate 8 refine zW ?_
          have e := of_neq_false hc
          refine ⟨k + 1, ⟨by omega, by rw [List.take_add_one, List.take_add_one, hI, hu, hv, e]⟩, by omega, zWk⟩
        )
    · have hge := of_decide_eq_false hc
      iterate 11 refine zW ?_
      refine zPi ?_
      rw [List.take_of_length_le (by omega), List.take_of_length_le (by omega)] at hI; rw [decide_eq_true hI]; rfl
theorem same_false1 {t u : Trust} (h : ¬ t.th = u.th) : same t u = false := by unfold same; rw [decide_eq_false h, Bool.false_and]
theorem same_false2 {t u : Trust} (h : decide (t.nodes = u.nodes) = false) : same t u = false := by unfold same; rw [h, Bool.false_and, Bool.and_false]
theorem same_false3 {t u : Trust} (h : ¬ t.inner.length = u.inner.length) : same t u = false := by unfold same; rw [sameL_of_len h, Bool.and_false, Bool.and_false]
theorem same_eq {t u : Trust} (h1 : t.th = u.th) (h2 : decide (t.nodes = u.nodes) = true) : same t u = sameL t.inner u.inner := by unfold same; rw [decide_eq_true h1, h2, Bool.true_and, Bool.true_and]
theorem rsame_con : ∀ (t u : Trust), Con Tryz.prog 33 [av t, av u] [] (Is (.b (same t u)) []) := by
  have hcap : capB = 140737488355328 := rfl
  intro t
  induction t using Trust.ind with
  | _ t ih =>
    intro u
    have hx1 := avs_len t.inner
    have hy1 := avs_len u.inner
    refine con_intro Tryz.func33 rfl Tryz.call33 rfl ?_
    refine zW ?_; refine zW ?_
    refine zBx fun b2 => ?_
    refine zBx fun b3 => ?_
    iterate 12 refine zW ?_
    iterate 4 all_goals first | refine zW ?_ | (refine zG (fun hg => ?_) fun hg => ?_; case' _ => refine zW ?_)
    all_goals first | (refine zY ?_; refine aops_call_b zRc (rsameI_con t.nodes u.nodes) rfl rfl fun c16 hc16 => ?_) | refine zSk ?_ | (refine zG (fun hg => ?_) fun hg => ?_; case' _ => refine aops_call_b zRc (rsameI_con t.nodes u.nodes) rfl rfl fun c16 hc16 => ?_)
    iterate 5 all_goals first | refine zW ?_ | (refine zG (fun hg => ?_) fun hg => ?_; case' _ => refine zW ?_)
    all_goals first | (refine zY ?_; (first | refine zLn fun _ => ?_ | refine zW ?_)) | refine zSk ?_ | (refine zG (fun hg => ?_) fun hg => ?_; case' _ => (first | refine zLn fun _ => ?_ | refine zW ?_))
    iterate 2 all_goals first | refine zW ?_ | (refine zG (fun hg => ?_) fun hg => ?_; case' _ => refine zW ?_)
    all_goals first | (refine zY ?_; (first | refine zLn fun _ => ?_ | refine zW ?_)) | refine zSk ?_ | (refine zG (fun hg => ?_) fun hg => ?_; case' _ => (first | refine zLn fun _ => ?_ | refine zW ?_))
    iterate 2 all_goals first | refine zW ?_ | (refine zG (fun hg => ?_) fun hg => ?_; case' _ => refine zW ?_)
    all_goals (
      refine zW ?_; refine zW ?_
      refine zC (fun hc => ?_) fun hc => ?_
      · first
        | (exact absurd hc (by decide))
        | (iterate 7 refine zW ?_
           refine zPi ?_
           first
           | (rw [same_false1 (of_neq_true (show (!decide (t.th = u.th)) = true by with_reducible assumption))]; rfl)
           | (rw [same_false2 (hc16.trans (not_t (by with_reducible assumption)))]; rfl)
           | (rw [same_false3 (fun e => of_neq_true (show (!decide ((((avs t.inner).length : Nat) : Int) = ((avs u.inner).length : Nat))) = true by with_reducible assumption) (by omega))]; rfl)
          )
      · first
        | (exact absurd hc (by decide))
        | (have hth := of_neq_false (show (!decide (t.th = u.th)) = false by with_reducible assumption)
           have hns := hc16.trans (not_f (by with_reducible assumption))
           have hlen := of_neq_false (show (!decide ((((avs t.inner).length : Nat) : Int) = ((avs u.inner).length : Nat))) = false by with_reducible assumption)
           have hll : t.inner.length = u.inner.length := by omega
           iterate 7 refine zW ?_
           first | refine zLn fun _ => ?_ | refine zW ?_
           iterate 4 refine zW ?_
           refine awp_loop1 [2, 3, 30] [.box b2 _ _, .box b3 _ _] (fun (k : Nat) r => (31, .i (k : Int)) :: r) (fun k r => r) (fun k => k ≤ t.inner.length ∧ sameL (t.inner.drop k) (u.inner.drop k) = sameL t.inner u.inner) (fun k => t.inner.length - k) (0) zRc ⟨by omega, by simp⟩ (zWk) ?_
           intro k ⟨hk, hI⟩
           iterate 6 refine zW ?_
           refine zC (fun hc => ?_) fun hc => ?_
           · have hlt := of_decide_eq_true hc
             obtain ⟨y, hy, hyd⟩ := drop_cons (l := t.inner) (k := k) (by omega)
             obtain ⟨z, hz, hzd⟩ := drop_cons (l := u.inner) (k := k) (by omega)
             have hy' := avs_get hy
             have hz' := avs_get hz
             have hym := List.mem_of_getElem? hy
             iterate 11 refine zW ?_
             refine zDr [] ?_
             refine zT 0 ?_
             refine zT 1 ?_
             refine zT 2 ?_
             refine zT 3 ?_
             refine zT 4 ?_
             refine zT 5 ?_
             refine zT 6 ?_
             refine zT 7 ?_
             refine zT 8 ?_
             refine zT 9 ?_
             refine zOn 10 ?_
             refine aops_call_b zRc (ih y hym z) rfl rfl fun c44 hc44 => ?_
             refine zW ?_
             refine zT 11 ?_
             refine zW ?_
             all_goals (
               refine zW ?_
               refine zC (fun hc => ?_) fun hc => ?_
               · iterate 11 refine zW ?_
                 refine zPi ?_
                 rw [hyd, hzd, sameL_cons, hc44.trans (not_t hc), Bool.false_and] at hI
                 rw [same_eq hth hns, ← hI]; rfl
               · iterate 8 refine zW ?_
                 rw [hyd, hzd, sameL_cons, hc44.trans (not_f hc), Bool.true_and] at hI
                 refine ⟨k + 1, ⟨by omega, hI⟩, by omega, zWk⟩
               )
           · have hge := of_decide_eq_false hc
             rw [drop_nil (by omega), drop_nil (by omega)] at hI
             iterate 11 refine zW ?_
             refine zPi ?_
             rw [same_eq hth hns, ← hI]; rfl
          )
      )
theorem set_all {p : Mem → Prop} {c : List Mem} {k : Nat} {m : Mem} (h : ∀ x ∈ c, p x) (hm : p m) : ∀ x ∈ c.set k m, p x := fun x hx => by
  rcases List.mem_or_eq_of_mem_set hx with h1 | rfl
  · exact h x h1
  · exact hm
def blankT (t : Trust) : Bool := decide (t.th = 0) && (decide (t.nodes.length = 0) && decide (t.inner.length = 0))
theorem memV_0 {m : Mem} {n : Nat} {b : Bool} (h : m.decl = false) (hb : blankT m.t = b) : memV m n = if b = true then 0 else 1 := by
  unfold memV
  rw [h, ← hb]
  unfold blankT
  simp [and_assoc]
theorem blank_con (t : Trust) : Con Tryz.prog 72 [av t] [] (Is (.b (blankT t)) []) := by
  have hcap : capB = 140737488355328 := rfl
  have hl1 : (t.nodes.map D.i).length = t.nodes.length := by simp
  have hl2 := avs_len t.inner
  refine con_intro Tryz.func72 rfl Tryz.call72 rfl ?_
  refine zW ?_; refine zW ?_
  refine zBx fun b1 => ?_
  iterate 9 refine zW ?_
  iterate 2 all_goals first | refine zW ?_ | (refine zG (fun hg => ?_) fun hg => ?_; case' _ => refine zW ?_)
  all_goals first | (refine zY ?_; (first | refine zLn fun _ => ?_ | refine zW ?_)) | refine zSk ?_ | (refine zG (fun hg => ?_) fun hg => ?_; case' _ => (first | refine zLn fun _ => ?_ | refine zW ?_))
  all_goals first | (refine zY ?_; (rw [hl1]; refine zW ?_)) | refine zSk ?_ | (refine zG (fun hg => ?_) fun hg => ?_; case' _ => (rw [hl1]; refine zW ?_))
  iterate 4 all_goals first | refine zW ?_ | (refine zG (fun hg => ?_) fun hg => ?_; case' _ => refine zW ?_)
  all_goals first | (refine zY ?_; (first | refine zLn fun _ => ?_ | refine zW ?_)) | refine zSk ?_ | (refine zG (fun hg => ?_) fun hg => ?_; case' _ => (first | refine zLn fun _ => ?_ | refine zW ?_))
  all_goals first | (refine zY ?_; (rw [hl2]; refine zW ?_)) | refine zSk ?_ | (refine zG (fun hg => ?_) fun hg => ?_; case' _ => (rw [hl2]; refine zW ?_))
  iterate 2 all_goals refine zW ?_
  all_goals (
    iterate 3 refine zW ?_
    refine zPi ?_
    unfold blankT
    first
    | (simp_all [resD]; done)
    | (have e1 : t.nodes = [] := by simpa using of_decide_eq_true (show decide (((t.nodes.length : Nat) : Int) = 0) = true by with_reducible assumption); simp_all [resD]; done)
    )
theorem member_con (m : Mem) (hm : sizeT m.t ≤ 1000000000) (n : Nat) (hn : n ≤ 10) : Con Tryz.prog 38 [mv m, .i n] [] (Is (.i (memV m n)) []) := by
  have hcap : capB = 140737488355328 := rfl
  have hp10 := pow_le10 hn
  have hul := uses_lt m.t
  refine con_intro Tryz.func38 rfl Tryz.call38 rfl ?_
  refine zW ?_; refine zW ?_
  refine zBx fun b2 => ?_
  iterate 11 refine zW ?_
  refine zC (fun hc => ?_) fun hc => ?_
  · have hdl : m.decl = false := not_t hc
    iterate 5 refine zW ?_
    refine aops_call_b zRc (blank_con m.t) rfl rfl fun c11 hc11 => ?_
    iterate 3 refine zW ?_
    refine zC (fun hc => ?_) fun hc => ?_
    · iterate 8 refine zW ?_
      refine post_is (.tmp rfl .nil) .nil ?_
      rw [memV_0 hdl (hc11.trans (not_t hc))]; rfl
    · iterate 9 refine zW ?_
      refine post_is (.tmp rfl .nil) .nil ?_
      rw [memV_0 hdl (hc11.trans (not_f hc))]; rfl
  · have hdl : m.decl = true := not_f hc
    iterate 7 refine zW ?_
    refine aops_call_v zRc (validT_con m.t hm) rfl rfl ?_
    iterate 9 refine zW ?_
    refine zC (fun hc => ?_) fun hc => ?_
    · have hv := of_neq_true hc
      iterate 8 refine zW ?_
      refine post_is (.tmp rfl .nil) .nil ?_
      unfold memV; rw [if_pos hdl, if_neg hv]; rfl
    · have hv := of_neq_false hc
      iterate 4 refine zW ?_
      refine zDr [] ?_
      refine zT 0 ?_
      refine zT 1 ?_
      refine zT 3 ?_
      refine aany_take 4 rfl zGd zKr zKr zKr (AP.ar (ap_shl (p := 1) rfl rfl rfl (by omega) (by omega))) rfl rfl ?_
      refine zOn 2 ?_
      refine aops_call_v zRc (uses_con m.t) rfl rfl ?_
      refine zW ?_
      refine zT 5 ?_
      refine zW ?_
      all_goals (
        refine zW ?_
        refine zC (fun hc => ?_) fun hc => ?_
        · have hge := of_decide_eq_true hc
          iterate 7 refine zW ?_
          refine post_is (.tmp rfl .nil) .nil ?_
          unfold memV; rw [if_pos hdl, if_pos hv, if_pos (by omega)]; rfl
        · have hge := of_decide_eq_false hc
          iterate 8 refine zW ?_
          refine post_is (.tmp rfl .nil) .nil ?_
          unfold memV; rw [if_pos hdl, if_pos hv, if_neg (by omega)]; rfl
        )
theorem validC_con (c : List Mem) (hs : ∀ m ∈ c, sizeT m.t ≤ 1000000000) : Con Tryz.prog 18 [cv c] [] (Is (.i (validC c)) []) := by
  have hcap : capB = 140737488355328 := rfl
  have hml : (c.map mv).length = c.length := by simp
  refine con_intro Tryz.func18 rfl Tryz.call18 rfl ?_
  refine zW ?_; refine zW ?_
  refine zBx fun b1 => ?_
  iterate 8 refine zW ?_
  first | refine zLn fun _ => ?_ | refine zW ?_
  iterate 3 refine zW ?_
  refine zC (fun hc => ?_) fun hc => ?_
  · have hlen := of_decide_eq_true hc
    iterate 7 refine zW ?_
    refine post_is (.tmp rfl .nil) .nil ?_
    unfold validC; rw [if_pos (by omega)]; rfl
  · have hlen := of_decide_eq_false hc
    iterate 7 refine zW ?_
    first | refine zLn fun _ => ?_ | refine zW ?_
    iterate 4 refine zW ?_
    refine awp_loop1 [1, 11, 12] [.box b1 _ _] (fun (k : Nat) r => (13, .i (k : Int)) :: r) (fun k r => r) (fun k => k ≤ c.length ∧ memsV c.length (c.drop k) = memsV c.length c) (fun k => c.length - k) (0) zRc ⟨by omega, by simp⟩ (zWk) ?_
    intro k ⟨hk, hI⟩
    iterate 6 refine zW ?_
    refine zC (fun hc => ?_) fun hc => ?_
    · have hlt := of_decide_eq_true hc
      obtain ⟨x, hx, hd⟩ := drop_cons (l := c) (k := k) (by omega)
      have hx' := getMap mv hx
      iterate 8 refine zW ?_
      refine zAl fun b4 => ?_
      iterate 8 refine zW ?_
      first | refine zLn fun _ => ?_ | refine zW ?_
      (rw [hml]; refine aops_call_v zRc (member_con x (hs x (List.mem_of_getElem? hx)) c.length (by omega)) rfl rfl ?_)
      iterate 9 refine zW ?_
      refine zC (fun hc => ?_) fun hc => ?_
      · iterate 12 refine zW ?_
        refine post_is (.tmp rfl .nil) .nil ?_
        rw [hd] at hI; simp only [memsV] at hI
        rw [if_neg (of_neq_true hc)] at hI
        unfold validC; rw [if_neg (by omega), ← hI]; rfl
      · iterate 8 refine zW ?_
        rw [hd] at hI; simp only [memsV] at hI
        rw [if_pos (of_neq_false hc)] at hI
        refine ⟨k + 1, ⟨by omega, hI⟩, by omega, zWk⟩
    · have hge := of_decide_eq_false hc
      rw [drop_nil (by omega)] at hI; simp only [memsV] at hI
      iterate 11 refine zW ?_
      refine post_is (.tmp rfl .nil) .nil ?_
      unfold validC; rw [if_neg (by omega), ← hI]; rfl
theorem same_none (t : Trust) : same t Trust.none = blankT t := by
  unfold same blankT
  have h1 : decide (t.nodes = Trust.none.nodes) = decide (t.nodes.length = 0) := by rw [Bool.eq_iff_iff, decide_eq_true_iff, decide_eq_true_iff]; simp [Trust.none, Trust.nodes]
  have h2 : sameL t.inner Trust.none.inner = decide (t.inner.length = 0) := by
    cases h : t.inner with
    | nil => rfl
    | cons x r => rfl
  rw [h1, h2]
  rfl
theorem memV_s {m : Mem} {n : Nat} {b : Bool} (h : m.decl = false) (hb : same m.t Trust.none = b) : memV m n = if b = true then 0 else 1 := memV_0 h (by rw [← same_none]; exact hb)
theorem memV_v {m : Mem} {n : Nat} (h : m.decl = true) (hv : ¬ validT m.t = 0) : memV m n = validT m.t := by unfold memV; rw [if_pos h, if_neg hv]
theorem memV_u {m : Mem} {n : Nat} (h : m.decl = true) (hv : validT m.t = 0) (hu : 2 ^ n ≤ uses m.t) : memV m n = 5 := by unfold memV; rw [if_pos h, if_pos hv, if_pos hu]
theorem memV_k {m : Mem} {n : Nat} (h : m.decl = true) (hv : validT m.t = 0) (hu : ¬ 2 ^ n ≤ uses m.t) : memV m n = 0 := by unfold memV; rw [if_pos h, if_pos hv, if_neg hu]
end Go.Proofs.YtmolbagfkdbdnaaGreatDoor
