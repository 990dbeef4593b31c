/- The walks of: shown_con, Config6b_con, fsafe_con. Each says what one function of the program answers, for the arguments that its statement names. No condition beyond what each theorem says. -/
import Derived.Test.YteogidjgmeemlaaFederatedSafeW5
import Derived.Test.YteogidjgmeemlaaProg
import Derived.KernelRfl
import Derived.Tactics
import Derived.Tactics2
import Derived.StillTactics
set_option linter.unusedVariables false
set_option linter.unusedSimpArgs false
set_option linter.unnecessarySimpa false
set_option maxRecDepth 4000
namespace Go.Proofs.Yteogidjgmeemlaa
open Go Go.Av Go.Tq
theorem shown_con (b : Nat) (l : List Int) (c : List Mem) (hcl : 1 ≤ c.length ∧ c.length ≤ 10) (s : Nat) (hs : s < 1024) (a : Nat) : Con Try.prog 20 [.p b 0, cv c, .i s] [.box b 81 [.sl 1 (l.map .i), .i ((a : Nat) : Int)]] (fun d H => ∃ (q : List Mem) (a' : Nat), d = cv q ∧ ShownR c q s ∧ H = [.box b 81 [.sl 1 (l.map .i), .i ((a' : Nat) : Int)]]) := by
  have hcap : capB = 140737488355328 := rfl
  have hml : (c.map mv).length = c.length := by simp
  refine con_intro Try.func20 rfl Try.call20 rfl ?_
  refine awp_seq ?_
  refine awp_region ?_
  refine aops_box rfl zFlat rfl rfl (fun b4 => ?_)
  refine aops_alloc rfl zRc rfl rfl (fun b6 => ?_)
  refine aops_nil ?_
  refine seqQ_n ?_
  refine awp_seq ?_
  refine awp_region ?_
  refine aops_alloc rfl zRc rfl rfl (fun b7 => ?_)
  refine aops_nil ?_
  refine seqQ_n ?_
  refine awp_seq ?_
  refine awp_seq ?_
  refine awp_region ?_
  first | refine aops_p (ap_fieldAddr (off := 0) (sz := 1) (g := false) rfl rfl) rfl rfl rfl ?_ | refine aops_p (ap_fieldAddr_el (off := 0) (sz := 1) (g := false) rfl rfl zRc) rfl rfl rfl ?_
  first | refine aops_q (aq_load1 rfl zUpd List.not_mem_nil rfl zRc) rfl rfl rfl ?_ | refine aops_q (aq_load_el1 rfl rfl zScal (fun _ h => absurd h List.not_mem_nil)) rfl rfl rfl ?_ | refine aops_q (aq_load_el1' rfl rfl zScal (fun _ h => absurd h List.not_mem_nil)) rfl rfl rfl ?_ | refine aops_q (aq_load_own1 rfl zUpd List.not_mem_nil rfl zAss zScal) rfl rfl rfl ?_
  first | refine aops_len rfl rfl rfl rfl (fun _ => ?_) | refine aops_p (ap_len_arr rfl zUpd rfl) rfl rfl rfl ?_ | refine aops_p (ap_len_nil rfl rfl) rfl rfl rfl ?_
  refine aops_p (ap_move rfl) rfl rfl rfl ?_
  refine aops_nil ?_
  refine seqQ_n ?_
  refine awp_block ?_
  refine awp_loop4 [0, 2, 4, 6, 7, 11, 12] [.box b6 _ _, .box b4 _ _] (fun (k : Nat) (v : Value) (q : List Mem) (a : Nat) r => (13, .i (k : Int)) :: r) (fun (k : Nat) (v : Value) (q : List Mem) (a : Nat) r => .box b7 27 [.v v] :: .arr v 69 4 (q.map mv) :: .box b 81 [.sl 1 (l.map .i), .i ((a : Nat) : Int)] :: r) (fun (k : Nat) (v : Value) (q : List Mem) (a : Nat) => k ≤ c.length ∧ q.length = k ∧ ShownR c q s) (fun (k : Nat) (v : Value) (q : List Mem) (a : Nat) => c.length - k) (0) (.slice none 0 0) ([]) (a) zRc ⟨by omega, rfl, fun i m _ h => by simp at h⟩ ((wk_own 69 4 rfl).trans (wk zSub (by repeat (first | exact .nil | refine .cons (by first | exact .here | exact .there .here | exact .there (.there .here) | exact .there (.there (.there .here)) | exact .there (.there (.there (.there .here)))) ?_)))) ?_
  intro k v q a ⟨hk, hql, hI⟩
  have hqm : (q.map mv).length = q.length := by simp
  refine awp_seq ?_
  refine awp_region ?_
  refine aops_p (ap_cmp rfl rfl rfl) rfl rfl rfl ?_
  refine aops_nil ?_
  refine seqQ_n ?_
  refine awp_seq ?_
  refine awp_cond rfl (fun hc => ?_) (fun hc => ?_)
  · have hlt := of_decide_eq_true hc
    obtain ⟨x, hx, hd⟩ := drop_cons (l := c) (k := k) (by omega)
    have hx' := getMap mv hx
    refine awp_skip ?_
    refine seqQ_n ?_
    refine awp_seq ?_
    refine awp_block ?_
    refine awp_seq ?_
    refine awp_region ?_
    refine aops_p (ap_move rfl) rfl rfl rfl ?_
    first | refine aops_p (ap_index rfl rfl rfl rfl (by decide) rfl zAss) rfl rfl rfl ?_ | refine aops_p (ap_index rfl rfl rfl rfl (by decide) (by omega) zAss) rfl rfl rfl ?_ | refine aops_p (ap_index_own rfl rfl rfl rfl rfl (by first | omega | (simp only [List.length_map, List.length_set, avs_len]; omega))) rfl rfl rfl ?_
    first | refine aops_q (aq_load rfl zUpd List.not_mem_nil rfl rfl zRc) rfl rfl rfl ?_ | refine aops_q (aq_load_el rfl rfl rfl rfl (fun _ h => absurd h List.not_mem_nil)) rfl rfl rfl ?_
    refine aops_alloc rfl zRc rfl rfl (fun b9 => ?_)
    refine aops_p (ap_assign rfl) rfl rfl rfl ?_
    first | refine aops_store rfl rfl zFlat zUpd rfl zRc ?_ | refine aops_store_own1 rfl rfl zScal zUpd rfl (by simp only [List.length_set, List.length_map]; omega) ?_
    refine aops_nil ?_
    refine seqQ_n ?_
    refine awp_seq ?_
    refine awp_seq ?_
    refine awp_region ?_
    refine aops_p (ap_move rfl) rfl rfl rfl ?_
    refine aops_p (ap_move rfl) rfl rfl rfl ?_
    refine aops_call_b zRc (rhas_con s k) rfl rfl (fun c20 hc20 => ?_)
    refine aops_nil ?_
    refine seqQ_n ?_
    refine awp_cond rfl (fun hc => ?_) (fun hc => ?_)
    · refine awp_seq ?_
      refine awp_region ?_
      refine aops_p (ap_move rfl) rfl rfl rfl ?_
      first | refine aops_p (ap_fieldAddr (off := 0) (sz := 1) (g := false) rfl rfl) rfl rfl rfl ?_ | refine aops_p (ap_fieldAddr_el (off := 0) (sz := 1) (g := false) rfl rfl zRc) rfl rfl rfl ?_
      first | refine aops_q (aq_load1 rfl zUpd List.not_mem_nil rfl zRc) rfl rfl rfl ?_ | refine aops_q (aq_load_el1 rfl rfl zScal (fun _ h => absurd h List.not_mem_nil)) rfl rfl rfl ?_ | refine aops_q (aq_load_el1' rfl rfl zScal (fun _ h => absurd h List.not_mem_nil)) rfl rfl rfl ?_ | refine aops_q (aq_load_own1 rfl zUpd List.not_mem_nil rfl zAss zScal) rfl rfl rfl ?_
      first | refine aops_len rfl rfl rfl rfl (fun _ => ?_) | refine aops_p (ap_len_arr rfl zUpd rfl) rfl rfl rfl ?_ | refine aops_p (ap_len_nil rfl rfl) rfl rfl rfl ?_
      (rw [hml]; (refine aops_call zRc (Trust1d_con _ _ _ (by omega) _) zSplit rfl rfl ?_; rintro _ _ ⟨t, a25, rfl, ht, rfl⟩))
      refine aops_p (ap_build zKr rfl zRc (by repeat (first | exact .nil | apply FillL.cons rfl zFlat rfl zRc))) rfl rfl rfl ?_
      first | refine aops_store rfl rfl zFlat zUpd rfl zRc ?_ | refine aops_store_own1 rfl rfl zScal zUpd rfl (by simp only [List.length_set, List.length_map]; omega) ?_
      refine aops_nil ?_
      refine seqQ_n ?_
      refine awp_seq ?_
      refine awp_region ?_
      refine aops_p (ap_move rfl) rfl rfl rfl ?_
      (refine aops_call zRc (N_con _ _ _ _ (by omega)) zSplit rfl rfl ?_; rintro _ _ ⟨r28, a28, rfl, hr28, rfl⟩)
      refine aops_p (ap_cmp rfl rfl rfl) rfl rfl rfl ?_
      refine aops_nil ?_
      refine seqQ_n ?_
      refine awp_cond rfl (fun hc => ?_) (fun hc => ?_)
      · refine awp_region ?_
        refine aops_p (ap_move rfl) rfl rfl rfl ?_
        refine aops_lit (e := 3) (sz := 1) (by_ := 8) rfl rfl zRc rfl rfl rfl rfl ?_
        refine aops_p (ap_build zKr rfl zRc (by repeat (first | exact .nil | apply FillL.cons rfl zFlat rfl zRc))) rfl rfl rfl ?_
        first | refine aops_p (ap_fieldAddr (off := 1) (sz := 3) (g := true) rfl rfl) rfl rfl rfl ?_ | refine aops_p (ap_fieldAddr_el (off := 1) (sz := 3) (g := true) rfl rfl zRc) rfl rfl rfl ?_
        first | refine aops_store rfl rfl zFlat zUpd rfl zRc ?_ | refine aops_store_own1 rfl rfl zScal zUpd rfl (by simp only [List.length_set, List.length_map]; omega) ?_
        refine aops_nil ?_
        refine seqQ_n ?_
        refine awp_region ?_
        first | refine aops_p (ap_fieldAddr (off := 0) (sz := 1) (g := false) rfl rfl) rfl rfl rfl ?_ | refine aops_p (ap_fieldAddr_el (off := 0) (sz := 1) (g := false) rfl rfl zRc) rfl rfl rfl ?_
        first | refine aops_q (aq_load1 rfl zUpd List.not_mem_nil rfl zRc) rfl rfl rfl ?_ | refine aops_q (aq_load_el1 rfl rfl zScal (fun _ h => absurd h List.not_mem_nil)) rfl rfl rfl ?_ | refine aops_q (aq_load_el1' rfl rfl zScal (fun _ h => absurd h List.not_mem_nil)) rfl rfl rfl ?_ | refine aops_q (aq_load_own1 rfl zUpd List.not_mem_nil rfl zAss zScal) rfl rfl rfl ?_
        first | refine aops_q (aq_load rfl zUpd List.not_mem_nil rfl rfl zRc) rfl rfl rfl ?_ | refine aops_q (aq_load_el rfl rfl rfl rfl (fun _ h => absurd h List.not_mem_nil)) rfl rfl rfl ?_
        refine aops_unnil [0,2,4,6,7,11,12,13,35,36] 1 rfl rfl (by repeat (first | exact SelC.nil | apply SelC.cons rfl (Cv.agg (CvL.cons Cv.same (CvL.cons Cv.same (CvL.cons Cv.fz (CvL.cons Cv.same CvL.nil))))) | apply SelC.cons rfl Cv.same)) (by repeat (first | exact .nil | apply HeapA.box (by repeat (first | exact CvL.nil | apply CvL.cons Cv.same)) | apply HeapA.arr)) ?_; refine aops_unnil [0,2,4,6,7,11,12,13,35,36] 3 rfl rfl (by repeat (first | exact .nil | apply SelC.cons rfl (by first | exact Cv.fz | (apply Cv.agg; repeat (first | exact CvL.nil | apply CvL.cons (by first | exact Cv.fz | exact Cv.same))) | exact Cv.same))) (by repeat (first | exact .nil | apply HeapA.box (by repeat (first | exact CvL.nil | apply CvL.cons Cv.same)) | apply HeapA.arr)) ?_; refine aops_lit (e := 69) (sz := 4) (by_ := 64) rfl rfl zRc rfl rfl rfl rfl ?_
        first | refine aops_append (e := 69) (sz := 4) (by_ := 64) rfl zUpd rfl rfl rfl rfl rfl (by simp only [List.length_cons, List.length_nil, List.length_append, List.length_map]; omega) (fun v38 hv38 => ?_) | refine aops_append_nil (e := 69) (sz := 4) (by_ := 64) rfl rfl rfl rfl rfl rfl (by simp only [List.length_cons, List.length_nil, List.length_append, List.length_map]; omega) (fun v38 hv38 => ?_)
        first | refine aops_p (ap_fieldAddr (off := 0) (sz := 1) (g := false) rfl rfl) rfl rfl rfl ?_ | refine aops_p (ap_fieldAddr_el (off := 0) (sz := 1) (g := false) rfl rfl zRc) rfl rfl rfl ?_
        first | refine aops_store rfl rfl zFlat zUpd rfl zRc ?_ | refine aops_store_own1 rfl rfl zScal zUpd rfl (by simp only [List.length_set, List.length_map]; omega) ?_
        refine aops_nil ?_
        refine blockQ_n ?_
        refine seqQ_n ?_
        refine awp_region ?_
        refine aops_p (ap_arith rfl rfl rfl (by omega)) rfl rfl rfl ?_
        refine aops_p (ap_move rfl) rfl rfl rfl ?_
        refine aops_nil ?_
        refine seqQ_n ?_
        first
        | (have h0 : c20 = false := (by with_reducible assumption); refine ⟨k + 1, v38, q ++ [x], a, ⟨by omega, by simp only [List.length_append, List.length_cons, List.length_nil]; omega, shown_snoc hI hql (fun _ => hx)⟩, by omega, ?_⟩; rw [← mv_snoc]; exact (wk zSub (by repeat (first | exact .nil | refine .cons (by first | exact .here | exact .there .here | exact .there (.there .here) | exact .there (.there (.there .here)) | exact .there (.there (.there (.there .here)))) ?_))))
        | (have h0 : c20 = true := (by with_reducible assumption); have h1 : decide (r28 = 0) = false := (by with_reducible assumption); refine ⟨k + 1, v38, q ++ [⟨true, t⟩], a28, ⟨by omega, by simp only [List.length_append, List.length_cons, List.length_nil]; omega, shown_snoc hI hql (fun e => absurd e (has_bitN hs (hc20.trans (by with_reducible assumption))))⟩, by omega, ?_⟩; rw [← mv_snoc]; exact (wk zSub (by repeat (first | exact .nil | refine .cons (by first | exact .here | exact .there .here | exact .there (.there .here) | exact .there (.there (.there .here)) | exact .there (.there (.there (.there .here)))) ?_))))
        | (have h0 : c20 = true := (by with_reducible assumption); have h1 : decide (r28 = 0) = true := (by with_reducible assumption); refine ⟨k + 1, v38, q ++ [⟨true, .mk 1 [(k : Int)] []⟩], a28, ⟨by omega, by simp only [List.length_append, List.length_cons, List.length_nil]; omega, shown_snoc hI hql (fun e => absurd e (has_bitN hs (hc20.trans (by with_reducible assumption))))⟩, by omega, ?_⟩; rw [← mv_snoc]; exact (wk zSub (by repeat (first | exact .nil | refine .cons (by first | exact .here | exact .there .here | exact .there (.there .here) | exact .there (.there (.there .here)) | exact .there (.there (.there (.there .here)))) ?_))))
      · refine awp_skip ?_
        refine seqQ_n ?_
        refine awp_region ?_
        first | refine aops_p (ap_fieldAddr (off := 0) (sz := 1) (g := false) rfl rfl) rfl rfl rfl ?_ | refine aops_p (ap_fieldAddr_el (off := 0) (sz := 1) (g := false) rfl rfl zRc) rfl rfl rfl ?_
        first | refine aops_q (aq_load1 rfl zUpd List.not_mem_nil rfl zRc) rfl rfl rfl ?_ | refine aops_q (aq_load_el1 rfl rfl zScal (fun _ h => absurd h List.not_mem_nil)) rfl rfl rfl ?_ | refine aops_q (aq_load_el1' rfl rfl zScal (fun _ h => absurd h List.not_mem_nil)) rfl rfl rfl ?_ | refine aops_q (aq_load_own1 rfl zUpd List.not_mem_nil rfl zAss zScal) rfl rfl rfl ?_
        first | refine aops_q (aq_load rfl zUpd List.not_mem_nil rfl rfl zRc) rfl rfl rfl ?_ | refine aops_q (aq_load_el rfl rfl rfl rfl (fun _ h => absurd h List.not_mem_nil)) rfl rfl rfl ?_
        refine aops_unnil [0,2,4,6,7,11,12,13,35,36] 1 rfl rfl (by repeat (first | exact SelC.nil | apply SelC.cons rfl (Cv.agg (CvL.cons Cv.same (CvL.cons Cv.same (CvL.cons Cv.fz (CvL.cons Cv.same CvL.nil))))) | apply SelC.cons rfl Cv.same)) (by repeat (first | exact .nil | apply HeapA.box (by repeat (first | exact CvL.nil | apply CvL.cons Cv.same)) | apply HeapA.arr)) ?_; refine aops_unnil [0,2,4,6,7,11,12,13,35,36] 3 rfl rfl (by repeat (first | exact .nil | apply SelC.cons rfl (by first | exact Cv.fz | (apply Cv.agg; repeat (first | exact CvL.nil | apply CvL.cons (by first | exact Cv.fz | exact Cv.same))) | exact Cv.same))) (by repeat (first | exact .nil | apply HeapA.box (by repeat (first | exact CvL.nil | apply CvL.cons Cv.same)) | apply HeapA.arr)) ?_; refine aops_lit (e := 69) (sz := 4) (by_ := 64) rfl rfl zRc rfl rfl rfl rfl ?_
        first | refine aops_append (e := 69) (sz := 4) (by_ := 64) rfl zUpd rfl rfl rfl rfl rfl (by simp only [List.length_cons, List.length_nil, List.length_append, List.length_map]; omega) (fun v38 hv38 => ?_) | refine aops_append_nil (e := 69) (sz := 4) (by_ := 64) rfl rfl rfl rfl rfl rfl (by simp only [List.length_cons, List.length_nil, List.length_append, List.length_map]; omega) (fun v38 hv38 => ?_)
        first | refine aops_p (ap_fieldAddr (off := 0) (sz := 1) (g := false) rfl rfl) rfl rfl rfl ?_ | refine aops_p (ap_fieldAddr_el (off := 0) (sz := 1) (g := false) rfl rfl zRc) rfl rfl rfl ?_
        first | refine aops_store rfl rfl zFlat zUpd rfl zRc ?_ | refine aops_store_own1 rfl rfl zScal zUpd rfl (by simp only [List.length_set, List.length_map]; omega) ?_
        refine aops_nil ?_
        refine blockQ_n ?_
        refine seqQ_n ?_
        refine awp_region ?_
        refine aops_p (ap_arith rfl rfl rfl (by omega)) rfl rfl rfl ?_
        refine aops_p (ap_move rfl) rfl rfl rfl ?_
        refine aops_nil ?_
        refine seqQ_n ?_
        first
        | (have h0 : c20 = false := (by with_reducible assumption); refine ⟨k + 1, v38, q ++ [x], a, ⟨by omega, by simp only [List.length_append, List.length_cons, List.length_nil]; omega, shown_snoc hI hql (fun _ => hx)⟩, by omega, ?_⟩; rw [← mv_snoc]; exact (wk zSub (by repeat (first | exact .nil | refine .cons (by first | exact .here | exact .there .here | exact .there (.there .here) | exact .there (.there (.there .here)) | exact .there (.there (.there (.there .here)))) ?_))))
        | (have h0 : c20 = true := (by with_reducible assumption); have h1 : decide (r28 = 0) = false := (by with_reducible assumption); refine ⟨k + 1, v38, q ++ [⟨true, t⟩], a28, ⟨by omega, by simp only [List.length_append, List.length_cons, List.length_nil]; omega, shown_snoc hI hql (fun e => absurd e (has_bitN hs (hc20.trans (by with_reducible assumption))))⟩, by omega, ?_⟩; rw [← mv_snoc]; exact (wk zSub (by repeat (first | exact .nil | refine .cons (by first | exact .here | exact .there .here | exact .there (.there .here) | exact .there (.there (.there .here)) | exact .there (.there (.there (.there .here)))) ?_))))
        | (have h0 : c20 = true := (by with_reducible assumption); have h1 : decide (r28 = 0) = true := (by with_reducible assumption); refine ⟨k + 1, v38, q ++ [⟨true, .mk 1 [(k : Int)] []⟩], a28, ⟨by omega, by simp only [List.length_append, List.length_cons, List.length_nil]; omega, shown_snoc hI hql (fun e => absurd e (has_bitN hs (hc20.trans (by with_reducible assumption))))⟩, by omega, ?_⟩; rw [← mv_snoc]; exact (wk zSub (by repeat (first | exact .nil | refine .cons (by first | exact .here | exact .there .here | exact .there (.there .here) | exact .there (.there (.there .here)) | exact .there (.there (.there (.there .here)))) ?_))))
    · refine awp_skip ?_
      refine seqQ_n ?_
      refine awp_region ?_
      first | refine aops_p (ap_fieldAddr (off := 0) (sz := 1) (g := false) rfl rfl) rfl rfl rfl ?_ | refine aops_p (ap_fieldAddr_el (off := 0) (sz := 1) (g := false) rfl rfl zRc) rfl rfl rfl ?_
      first | refine aops_q (aq_load1 rfl zUpd List.not_mem_nil rfl zRc) rfl rfl rfl ?_ | refine aops_q (aq_load_el1 rfl rfl zScal (fun _ h => absurd h List.not_mem_nil)) rfl rfl rfl ?_ | refine aops_q (aq_load_el1' rfl rfl zScal (fun _ h => absurd h List.not_mem_nil)) rfl rfl rfl ?_ | refine aops_q (aq_load_own1 rfl zUpd List.not_mem_nil rfl zAss zScal) rfl rfl rfl ?_
      first | refine aops_q (aq_load rfl zUpd List.not_mem_nil rfl rfl zRc) rfl rfl rfl ?_ | refine aops_q (aq_load_el rfl rfl rfl rfl (fun _ h => absurd h List.not_mem_nil)) rfl rfl rfl ?_
      refine aops_unnil [0,2,4,6,7,11,12,13,35,36] 1 rfl rfl (by repeat (first | exact SelC.nil | apply SelC.cons rfl (Cv.agg (CvL.cons Cv.same (CvL.cons Cv.same (CvL.cons Cv.fz (CvL.cons Cv.same CvL.nil))))) | apply SelC.cons rfl Cv.same)) (by repeat (first | exact .nil | apply HeapA.box (by repeat (first | exact CvL.nil | apply CvL.cons Cv.same)) | apply HeapA.arr)) ?_; refine aops_unnil [0,2,4,6,7,11,12,13,35,36] 3 rfl rfl (by repeat (first | exact .nil | apply SelC.cons rfl (by first | exact Cv.fz | (apply Cv.agg; repeat (first | exact CvL.nil | apply CvL.cons (by first | exact Cv.fz | exact Cv.same))) | exact Cv.same))) (by repeat (first | exact .nil | apply HeapA.box (by repeat (first | exact CvL.nil | apply CvL.cons Cv.same)) | apply HeapA.arr)) ?_; refine aops_lit (e := 69) (sz := 4) (by_ := 64) rfl rfl zRc rfl rfl rfl rfl ?_
      first | refine aops_append (e := 69) (sz := 4) (by_ := 64) rfl zUpd rfl rfl rfl rfl rfl (by simp only [List.length_cons, List.length_nil, List.length_append, List.length_map]; omega) (fun v38 hv38 => ?_) | refine aops_append_nil (e := 69) (sz := 4) (by_ := 64) rfl rfl rfl rfl rfl rfl (by simp only [List.length_cons, List.length_nil, List.length_append, List.length_map]; omega) (fun v38 hv38 => ?_)
      first | refine aops_p (ap_fieldAddr (off := 0) (sz := 1) (g := false) rfl rfl) rfl rfl rfl ?_ | refine aops_p (ap_fieldAddr_el (off := 0) (sz := 1) (g := false) rfl rfl zRc) rfl rfl rfl ?_
      first | refine aops_store rfl rfl zFlat zUpd rfl zRc ?_ | refine aops_store_own1 rfl rfl zScal zUpd rfl (by simp only [List.length_set, List.length_map]; omega) ?_
      refine aops_nil ?_
      refine blockQ_n ?_
      refine seqQ_n ?_
      refine awp_region ?_
      refine aops_p (ap_arith rfl rfl rfl (by omega)) rfl rfl rfl ?_
      refine aops_p (ap_move rfl) rfl rfl rfl ?_
      refine aops_nil ?_
      refine seqQ_n ?_
      first
      | (have h0 : c20 = false := (by with_reducible assumption); refine ⟨k + 1, v38, q ++ [x], a, ⟨by omega, by simp only [List.length_append, List.length_cons, List.length_nil]; omega, shown_snoc hI hql (fun _ => hx)⟩, by omega, ?_⟩; rw [← mv_snoc]; exact (wk zSub (by repeat (first | exact .nil | refine .cons (by first | exact .here | exact .there .here | exact .there (.there .here) | exact .there (.there (.there .here)) | exact .there (.there (.there (.there .here)))) ?_))))
      | (have h0 : c20 = true := (by with_reducible assumption); have h1 : decide (r28 = 0) = false := (by with_reducible assumption); refine ⟨k + 1, v38, q ++ [⟨true, t⟩], a28, ⟨by omega, by simp only [List.length_append, List.length_cons, List.length_nil]; omega, shown_snoc hI hql (fun e => absurd e (has_bitN hs (hc20.trans (by with_reducible assumption))))⟩, by omega, ?_⟩; rw [← mv_snoc]; exact (wk zSub (by repeat (first | exact .nil | refine .cons (by first | exact .here | exact .there .here | exact .there (.there .here) | exact .there (.there (.there .here)) | exact .there (.there (.there (.there .here)))) ?_))))
      | (have h0 : c20 = true := (by with_reducible assumption); have h1 : decide (r28 = 0) = true := (by with_reducible assumption); refine ⟨k + 1, v38, q ++ [⟨true, .mk 1 [(k : Int)] []⟩], a28, ⟨by omega, by simp only [List.length_append, List.length_cons, List.length_nil]; omega, shown_snoc hI hql (fun e => absurd e (has_bitN hs (hc20.trans (by with_reducible assumption))))⟩, by omega, ?_⟩; rw [← mv_snoc]; exact (wk zSub (by repeat (first | exact .nil | refine .cons (by first | exact .here | exact .there .here | exact .there (.there .here) | exact .there (.there (.there .here)) | exact .there (.there (.there (.there .here)))) ?_))))
  · have hge := of_decide_eq_false hc
    refine awp_exit ?_
    refine seqQ_x ?_
    refine seqQ_x ?_
    refine blockQ_x rfl ?_
    refine seqQ_n ?_
    refine awp_seq ?_
    refine awp_region ?_
    first | refine aops_q (aq_load rfl zUpd List.not_mem_nil rfl rfl zRc) rfl rfl rfl ?_ | refine aops_q (aq_load_el rfl rfl rfl rfl (fun _ h => absurd h List.not_mem_nil)) rfl rfl rfl ?_
    first | refine aops_store rfl rfl zFlat zUpd rfl zRc ?_ | refine aops_store_own1 rfl rfl zScal zUpd rfl (by simp only [List.length_set, List.length_map]; omega) ?_
    refine aops_nil ?_
    refine seqQ_n ?_
    refine awp_freeze v [6] (by repeat (first | exact .here | apply Rem.there)) (by repeat (first | exact .nil | apply SelC.cons rfl (by first | exact Cv.fz | (apply Cv.agg; repeat (first | exact CvL.nil | apply CvL.cons (by first | exact Cv.fz | exact Cv.same))) | exact Cv.same))) (by repeat (first | exact .nil | apply HeapA.box (by repeat (first | exact CvL.nil | apply CvL.cons (by first | exact Cv.fz | exact Cv.same))) | apply HeapA.arr)) ?_
    refine awp_ret ?_
    exact post_ret (.cell rfl zUpd rfl rfl .nil) (by repeat (first | exact .nil | refine .cons (by first | exact .here | exact .there .here | exact .there (.there .here) | exact .there (.there (.there .here)) | exact .there (.there (.there (.there .here)))) ?_)) ⟨q, _, rfl, hI, rfl⟩
theorem Config6b_con (b : Nat) (l : List Int) (a : Nat) : Con Try.prog 16 [.p b 0, .i 6] [.box b 81 [.sl 1 (l.map .i), .i ((a : Nat) : Int)]] (fun d H => ∃ (c : List Mem) (a' : Nat), d = cv c ∧ (OKC c ∧ c.length ≤ 6) ∧ H = [.box b 81 [.sl 1 (l.map .i), .i ((a' : Nat) : Int)]]) := Config_con b 6 l (by omega) a
theorem holds_1 {c : List Mem} (h : (holdsV c).1 = true) : interB c = true := by
  unfold holdsV at h
  split at h
  · exact h
  · cases h
set_option maxHeartbeats 3000000 in
theorem fsafe_con (l : List Int) : Con Try.prog 3 [.sl 1 (l.map .i)] [] (Is (.b true) []) := by
  have hcap : capB = 140737488355328 := rfl
  refine con_intro Try.func3 rfl Try.call3 rfl ?_
  refine awp_seq ?_
  refine awp_region ?_
  refine aops_p (ap_assign rfl) rfl rfl rfl ?_
  refine aops_nil ?_
  refine seqQ_n ?_
  refine awp_seq ?_
  refine awp_region ?_
  refine aops_p (ap_move rfl) rfl rfl rfl ?_
  (refine aops_call zRc (New_con l) zSplit rfl rfl ?_; rintro _ _ ⟨b16, rfl, rfl⟩)
  refine aops_p (ap_assign rfl) rfl rfl rfl ?_
  refine aops_nil ?_
  refine seqQ_n ?_
  refine awp_seq ?_
  refine awp_region ?_
  refine aops_p (ap_move rfl) rfl rfl rfl ?_
  (refine aops_call zRc (Config6b_con _ _ _) zSplit rfl rfl ?_; rintro _ _ ⟨c, a18, rfl, ⟨hc0, hcl⟩, rfl⟩; have hc1 := hc0.len; have hsz : ∀ m ∈ c, sizeT m.t ≤ 100000 := okc_size hc0)
  refine aops_alloc rfl zRc rfl rfl (fun b4 => ?_)
  first | refine aops_store rfl rfl zFlat zUpd rfl zRc ?_ | refine aops_store_own1 rfl rfl zScal zUpd rfl (by simp only [List.length_set, List.length_map]; omega) ?_
  refine aops_nil ?_
  refine seqQ_n ?_
  refine awp_seq ?_
  refine awp_region ?_
  refine aops_p (ap_move rfl) rfl rfl rfl ?_
  first | refine aops_q (aq_load rfl zUpd List.not_mem_nil rfl rfl zRc) rfl rfl rfl ?_ | refine aops_q (aq_load_el rfl rfl rfl rfl (fun _ h => absurd h List.not_mem_nil)) rfl rfl rfl ?_
  (refine aops_call zRc (set_con _ _ c (by omega) _) zSplit rfl rfl ?_; rintro _ _ ⟨s, a21, rfl, hs, rfl⟩; have hds := delC_size (s := (s : Int)) hsz)
  refine aops_p (ap_assign rfl) rfl rfl rfl ?_
  refine aops_nil ?_
  refine seqQ_n ?_
  refine awp_seq ?_
  refine awp_region ?_
  first | refine aops_q (aq_load rfl zUpd List.not_mem_nil rfl rfl zRc) rfl rfl rfl ?_ | refine aops_q (aq_load_el rfl rfl rfl rfl (fun _ h => absurd h List.not_mem_nil)) rfl rfl rfl ?_
  refine aops_p (ap_move rfl) rfl rfl rfl ?_
  refine aops_call_v zRc (del_con c (by omega) s hs (fun m hm => by have := hsz m hm; omega)) rfl rfl ?_
  refine aops_call_v zRc (rholds_con (delC c s) (fun m hm => by have := hds m hm; omega)) rfl rfl ?_
  refine aops_p (ap_move rfl) rfl rfl rfl ?_
  refine aops_p (ap_extract rfl rfl) rfl rfl rfl ?_
  refine aops_p (ap_extract rfl rfl) rfl rfl rfl ?_
  refine aops_p (ap_assign rfl) rfl rfl rfl ?_
  refine aops_p (ap_assign rfl) rfl rfl rfl ?_
  refine aops_nil ?_
  refine seqQ_n ?_
  refine awp_seq ?_
  refine awp_draw (Hm := [.box b16 _ _]) zKr zSplit ?_
  refine aany_take 0 rfl (.none rfl) zKr zKr zKr (AP.ar (ap_move rfl)) rfl rfl ?_
  first | refine aany_take 1 rfl (.none rfl) zKr zKr zKr (ar_load rfl zUpd rfl rfl zRc) rfl rfl ?_ | refine aany_take 1 rfl (.none rfl) zKr zKr zKr (AQ.ar (aq_load_el rfl rfl rfl rfl (fun _ h => h))) rfl rfl ?_
  refine aany_take 2 rfl (.none rfl) zKr zKr zKr (AP.ar (ap_move rfl)) rfl rfl ?_
  refine aany_take 4 rfl (.none rfl) zKr zKr zKr (AP.ar (ap_move rfl)) rfl rfl ?_
  first | refine aany_take 5 rfl (.none rfl) zKr zKr zKr (ar_load rfl zUpd rfl rfl zRc) rfl rfl ?_ | refine aany_take 5 rfl (.none rfl) zKr zKr zKr (AQ.ar (aq_load_el rfl rfl rfl rfl (fun _ h => h))) rfl rfl ?_
  refine aany_take 6 rfl (.none rfl) zKr zKr zKr (AP.ar (ap_move rfl)) rfl rfl ?_
  refine aany_each3 3 8 9 zKr (cho rfl (.none rfl) ?_) (cho rfl (.none rfl) ?_) (cho rfl (.none rfl) ?_)
  rotate_left 2
  case' _ =>
    refine aops_alloc rfl zRc rfl rfl (fun b9 => ?_)
    refine aops_nil ?_
    refine aany_each2 3 8 zKr rfl (.none rfl) ?_ rfl (.none rfl) ?_
    rotate_left
    case' _ =>
      refine aops_alloc rfl zRc rfl rfl (fun b8 => ?_)
      refine aops_nil ?_
      refine aany_one 3 zKr rfl (.none rfl) ?_
      (refine aops_call zRc (shown_con _ _ c (by omega) s hs _) zSplit rfl rfl ?_; rintro _ _ ⟨x, a32, rfl, hx, rfl⟩)
      refine aops_nil ?_
      refine aany_one 7 zKr rfl (.none rfl) ?_
      (refine aops_call zRc (shown_con _ _ c (by omega) s hs _) zSplit rfl rfl ?_; rintro _ _ ⟨y, a36, rfl, hy, rfl⟩)
      refine aops_nil ?_
      refine aany_one 10 zKr rfl (.none rfl) ?_
      first | refine aops_store rfl rfl zFlat zUpd rfl zRc ?_ | refine aops_store_own1 rfl rfl zScal zUpd rfl (by simp only [List.length_set, List.length_map]; omega) ?_
      refine aops_nil ?_
      refine aany_one 11 zKr rfl (.none rfl) ?_
      first | refine aops_store rfl rfl zFlat zUpd rfl zRc ?_ | refine aops_store_own1 rfl rfl zScal zUpd rfl (by simp only [List.length_set, List.length_map]; omega) ?_
      refine aops_nil ?_
      refine aany_nil zKr ?_
    rotate_right
    case' _ =>
      (refine aops_call zRc (shown_con _ _ c (by omega) s hs _) zSplit rfl rfl ?_; rintro _ _ ⟨x, a32, rfl, hx, rfl⟩)
      refine aops_nil ?_
      refine aany_each2 7 8 zKr rfl (.none rfl) ?_ rfl (.none rfl) ?_
      rotate_left
      case' _ =>
        refine aops_alloc rfl zRc rfl rfl (fun b8 => ?_)
        refine aops_nil ?_
        refine aany_one 7 zKr rfl (.none rfl) ?_
        (refine aops_call zRc (shown_con _ _ c (by omega) s hs _) zSplit rfl rfl ?_; rintro _ _ ⟨y, a36, rfl, hy, rfl⟩)
        refine aops_nil ?_
        refine aany_one 10 zKr rfl (.none rfl) ?_
        first | refine aops_store rfl rfl zFlat zUpd rfl zRc ?_ | refine aops_store_own1 rfl rfl zScal zUpd rfl (by simp only [List.length_set, List.length_map]; omega) ?_
        refine aops_nil ?_
        refine aany_one 11 zKr rfl (.none rfl) ?_
        first | refine aops_store rfl rfl zFlat zUpd rfl zRc ?_ | refine aops_store_own1 rfl rfl zScal zUpd rfl (by simp only [List.length_set, List.length_map]; omega) ?_
        refine aops_nil ?_
        refine aany_nil zKr ?_
      rotate_right
      case' _ =>
        (refine aops_call zRc (shown_con _ _ c (by omega) s hs _) zSplit rfl rfl ?_; rintro _ _ ⟨y, a36, rfl, hy, rfl⟩)
        refine aops_nil ?_
        refine aany_one 8 zKr rfl (.none rfl) ?_
        refine aops_alloc rfl zRc rfl rfl (fun b8 => ?_)
        refine aops_nil ?_
        refine aany_one 10 zKr rfl (.none rfl) ?_
        first | refine aops_store rfl rfl zFlat zUpd rfl zRc ?_ | refine aops_store_own1 rfl rfl zScal zUpd rfl (by simp only [List.length_set, List.length_map]; omega) ?_
        refine aops_nil ?_
        refine aany_one 11 zKr rfl (.none rfl) ?_
        first | refine aops_store rfl rfl zFlat zUpd rfl zRc ?_ | refine aops_store_own1 rfl rfl zScal zUpd rfl (by simp only [List.length_set, List.length_map]; omega) ?_
        refine aops_nil ?_
        refine aany_nil zKr ?_
  rotate_right
  case' _ =>
    refine aops_alloc rfl zRc rfl rfl (fun b8 => ?_)
    refine aops_nil ?_
    refine aany_each2 3 9 zKr rfl (.none rfl) ?_ rfl (.none rfl) ?_
    rotate_left
    case' _ =>
      refine aops_alloc rfl zRc rfl rfl (fun b9 => ?_)
      refine aops_nil ?_
      refine aany_one 3 zKr rfl (.none rfl) ?_
      (refine aops_call zRc (shown_con _ _ c (by omega) s hs _) zSplit rfl rfl ?_; rintro _ _ ⟨x, a32, rfl, hx, rfl⟩)
      refine aops_nil ?_
      refine aany_one 7 zKr rfl (.none rfl) ?_
      (refine aops_call zRc (shown_con _ _ c (by omega) s hs _) zSplit rfl rfl ?_; rintro _ _ ⟨y, a36, rfl, hy, rfl⟩)
      refine aops_nil ?_
      refine aany_one 10 zKr rfl (.none rfl) ?_
      first | refine aops_store rfl rfl zFlat zUpd rfl zRc ?_ | refine aops_store_own1 rfl rfl zScal zUpd rfl (by simp only [List.length_set, List.length_map]; omega) ?_
      refine aops_nil ?_
      refine aany_one 11 zKr rfl (.none rfl) ?_
      first | refine aops_store rfl rfl zFlat zUpd rfl zRc ?_ | refine aops_store_own1 rfl rfl zScal zUpd rfl (by simp only [List.length_set, List.length_map]; omega) ?_
      refine aops_nil ?_
      refine aany_nil zKr ?_
    rotate_right
    case' _ =>
      (refine aops_call zRc (shown_con _ _ c (by omega) s hs _) zSplit rfl rfl ?_; rintro _ _ ⟨x, a32, rfl, hx, rfl⟩)
      refine aops_nil ?_
      refine aany_each2 7 9 zKr rfl (.none rfl) ?_ rfl (.none rfl) ?_
      rotate_left
      case' _ =>
        refine aops_alloc rfl zRc rfl rfl (fun b9 => ?_)
        refine aops_nil ?_
        refine aany_one 7 zKr rfl (.none rfl) ?_
        (refine aops_call zRc (shown_con _ _ c (by omega) s hs _) zSplit rfl rfl ?_; rintro _ _ ⟨y, a36, rfl, hy, rfl⟩)
        refine aops_nil ?_
        refine aany_one 10 zKr rfl (.none rfl) ?_
        first | refine aops_store rfl rfl zFlat zUpd rfl zRc ?_ | refine aops_store_own1 rfl rfl zScal zUpd rfl (by simp only [List.length_set, List.length_map]; omega) ?_
        refine aops_nil ?_
        refine aany_one 11 zKr rfl (.none rfl) ?_
        first | refine aops_store rfl rfl zFlat zUpd rfl zRc ?_ | refine aops_store_own1 rfl rfl zScal zUpd rfl (by simp only [List.length_set, List.length_map]; omega) ?_
        refine aops_nil ?_
        refine aany_nil zKr ?_
      rotate_right
      case' _ =>
        (refine aops_call zRc (shown_con _ _ c (by omega) s hs _) zSplit rfl rfl ?_; rintro _ _ ⟨y, a36, rfl, hy, rfl⟩)
        refine aops_nil ?_
        refine aany_one 9 zKr rfl (.none rfl) ?_
        refine aops_alloc rfl zRc rfl rfl (fun b9 => ?_)
        refine aops_nil ?_
        refine aany_one 10 zKr rfl (.none rfl) ?_
        first | refine aops_store rfl rfl zFlat zUpd rfl zRc ?_ | refine aops_store_own1 rfl rfl zScal zUpd rfl (by simp only [List.length_set, List.length_map]; omega) ?_
        refine aops_nil ?_
        refine aany_one 11 zKr rfl (.none rfl) ?_
        first | refine aops_store rfl rfl zFlat zUpd rfl zRc ?_ | refine aops_store_own1 rfl rfl zScal zUpd rfl (by simp only [List.length_set, List.length_map]; omega) ?_
        refine aops_nil ?_
        refine aany_nil zKr ?_
  rotate_right
  case' _ =>
    (refine aops_call zRc (shown_con _ _ c (by omega) s hs _) zSplit rfl rfl ?_; rintro _ _ ⟨x, a32, rfl, hx, rfl⟩)
    refine aops_nil ?_
    refine aany_each3 7 8 9 zKr (cho rfl (.none rfl) ?_) (cho rfl (.none rfl) ?_) (cho rfl (.none rfl) ?_)
    rotate_left 2
    case' _ =>
      refine aops_alloc rfl zRc rfl rfl (fun b9 => ?_)
      refine aops_nil ?_
      refine aany_each2 7 8 zKr rfl (.none rfl) ?_ rfl (.none rfl) ?_
      rotate_left
      case' _ =>
        refine aops_alloc rfl zRc rfl rfl (fun b8 => ?_)
        refine aops_nil ?_
        refine aany_one 7 zKr rfl (.none rfl) ?_
        (refine aops_call zRc (shown_con _ _ c (by omega) s hs _) zSplit rfl rfl ?_; rintro _ _ ⟨y, a36, rfl, hy, rfl⟩)
        refine aops_nil ?_
        refine aany_one 10 zKr rfl (.none rfl) ?_
        first | refine aops_store rfl rfl zFlat zUpd rfl zRc ?_ | refine aops_store_own1 rfl rfl zScal zUpd rfl (by simp only [List.length_set, List.length_map]; omega) ?_
        refine aops_nil ?_
        refine aany_one 11 zKr rfl (.none rfl) ?_
        first | refine aops_store rfl rfl zFlat zUpd rfl zRc ?_ | refine aops_store_own1 rfl rfl zScal zUpd rfl (by simp only [List.length_set, List.length_map]; omega) ?_
        refine aops_nil ?_
        refine aany_nil zKr ?_
      rotate_right
      case' _ =>
        (refine aops_call zRc (shown_con _ _ c (by omega) s hs _) zSplit rfl rfl ?_; rintro _ _ ⟨y, a36, rfl, hy, rfl⟩)
        refine aops_nil ?_
        refine aany_one 8 zKr rfl (.none rfl) ?_
        refine aops_alloc rfl zRc rfl rfl (fun b8 => ?_)
        refine aops_nil ?_
        refine aany_one 10 zKr rfl (.none rfl) ?_
        first | refine aops_store rfl rfl zFlat zUpd rfl zRc ?_ | refine aops_store_own1 rfl rfl zScal zUpd rfl (by simp only [List.length_set, List.length_map]; omega) ?_
        refine aops_nil ?_
        refine aany_one 11 zKr rfl (.none rfl) ?_
        first | refine aops_store rfl rfl zFlat zUpd rfl zRc ?_ | refine aops_store_own1 rfl rfl zScal zUpd rfl (by simp only [List.length_set, List.length_map]; omega) ?_
        refine aops_nil ?_
        refine aany_nil zKr ?_
    rotate_right
    case' _ =>
      refine aops_alloc rfl zRc rfl rfl (fun b8 => ?_)
      refine aops_nil ?_
      refine aany_each2 7 9 zKr rfl (.none rfl) ?_ rfl (.none rfl) ?_
      rotate_left
      case' _ =>
        refine aops_alloc rfl zRc rfl rfl (fun b9 => ?_)
        refine aops_nil ?_
        refine aany_one 7 zKr rfl (.none rfl) ?_
        (refine aops_call zRc (shown_con _ _ c (by omega) s hs _) zSplit rfl rfl ?_; rintro _ _ ⟨y, a36, rfl, hy, rfl⟩)
        refine aops_nil ?_
        refine aany_one 10 zKr rfl (.none rfl) ?_
        first | refine aops_store rfl rfl zFlat zUpd rfl zRc ?_ | refine aops_store_own1 rfl rfl zScal zUpd rfl (by simp only [List.length_set, List.length_map]; omega) ?_
        refine aops_nil ?_
        refine aany_one 11 zKr rfl (.none rfl) ?_
        first | refine aops_store rfl rfl zFlat zUpd rfl zRc ?_ | refine aops_store_own1 rfl rfl zScal zUpd rfl (by simp only [List.length_set, List.length_map]; omega) ?_
        refine aops_nil ?_
        refine aany_nil zKr ?_
      rotate_right
      case' _ =>
        (refine aops_call zRc (shown_con _ _ c (by omega) s hs _) zSplit rfl rfl ?_; rintro _ _ ⟨y, a36, rfl, hy, rfl⟩)
        refine aops_nil ?_
        refine aany_one 9 zKr rfl (.none rfl) ?_
        refine aops_alloc rfl zRc rfl rfl (fun b9 => ?_)
        refine aops_nil ?_
        refine aany_one 10 zKr rfl (.none rfl) ?_
        first | refine aops_store rfl rfl zFlat zUpd rfl zRc ?_ | refine aops_store_own1 rfl rfl zScal zUpd rfl (by simp only [List.length_set, List.length_map]; omega) ?_
        refine aops_nil ?_
        refine aany_one 11 zKr rfl (.none rfl) ?_
        first | refine aops_store rfl rfl zFlat zUpd rfl zRc ?_ | refine aops_store_own1 rfl rfl zScal zUpd rfl (by simp only [List.length_set, List.length_map]; omega) ?_
        refine aops_nil ?_
        refine aany_nil zKr ?_
    rotate_right
    case' _ =>
      (refine aops_call zRc (shown_con _ _ c (by omega) s hs _) zSplit rfl rfl ?_; rintro _ _ ⟨y, a36, rfl, hy, rfl⟩)
      refine aops_nil ?_
      refine aany_each2 8 9 zKr rfl (.none rfl) ?_ rfl (.none rfl) ?_
      rotate_left
      case' _ =>
        refine aops_alloc rfl zRc rfl rfl (fun b9 => ?_)
        refine aops_nil ?_
        refine aany_one 8 zKr rfl (.none rfl) ?_
        refine aops_alloc rfl zRc rfl rfl (fun b8 => ?_)
        refine aops_nil ?_
        refine aany_one 10 zKr rfl (.none rfl) ?_
        first | refine aops_store rfl rfl zFlat zUpd rfl zRc ?_ | refine aops_store_own1 rfl rfl zScal zUpd rfl (by simp only [List.length_set, List.length_map]; omega) ?_
        refine aops_nil ?_
        refine aany_one 11 zKr rfl (.none rfl) ?_
        first | refine aops_store rfl rfl zFlat zUpd rfl zRc ?_ | refine aops_store_own1 rfl rfl zScal zUpd rfl (by simp only [List.length_set, List.length_map]; omega) ?_
        refine aops_nil ?_
        refine aany_nil zKr ?_
      rotate_right
      case' _ =>
        refine aops_alloc rfl zRc rfl rfl (fun b8 => ?_)
        refine aops_nil ?_
        refine aany_one 9 zKr rfl (.none rfl) ?_
        refine aops_alloc rfl zRc rfl rfl (fun b9 => ?_)
        refine aops_nil ?_
        refine aany_one 10 zKr rfl (.none rfl) ?_
        first | refine aops_store rfl rfl zFlat zUpd rfl zRc ?_ | refine aops_store_own1 rfl rfl zScal zUpd rfl (by simp only [List.length_set, List.length_map]; omega) ?_
        refine aops_nil ?_
        refine aany_one 11 zKr rfl (.none rfl) ?_
        first | refine aops_store rfl rfl zFlat zUpd rfl zRc ?_ | refine aops_store_own1 rfl rfl zScal zUpd rfl (by simp only [List.length_set, List.length_map]; omega) ?_
        refine aops_nil ?_
        refine aany_nil zKr ?_
  all_goals (
    refine seqQ_n ?_
    refine awp_seq ?_
    refine awp_seq ?_
    refine awp_region ?_
    refine aops_p (ap_assign rfl) rfl rfl rfl ?_
    refine aops_nil ?_
    refine seqQ_n ?_
    refine awp_block ?_
    refine awp_loop2 [3, 5, 6, 8, 9] [.box b8 _ _, .box b9 _ _] (fun (k : Nat) (a : Nat) r => (10, .i (k : Int)) :: r) (fun (k : Nat) (a : Nat) r => .box b16 81 [.sl 1 ((l.take 400).map .i), .i ((a : Nat) : Int)] :: r) (fun (k : Nat) (a : Nat) => k ≤ 12) (fun (k : Nat) (a : Nat) => 12 - k) (0) (a36) zRc (by omega) (wk zSub (by repeat (first | exact .nil | refine .cons (by first | exact .here | exact .there .here | exact .there (.there .here) | exact .there (.there (.there .here)) | exact .there (.there (.there (.there .here)))) ?_))) ?_
    intro k a hk
    refine awp_seq ?_
    refine awp_seq ?_
    refine awp_region ?_
    refine aops_p (ap_move rfl) rfl rfl rfl ?_
    refine aops_p (ap_cmp rfl rfl rfl) rfl rfl rfl ?_
    refine aops_nil ?_
    refine seqQ_n ?_
    refine awp_cond rfl (fun hc => ?_) (fun hc => ?_)
    · have hlt := of_decide_eq_true hc
      refine awp_skip ?_
      refine seqQ_n ?_
      refine awp_seq ?_
      refine awp_block ?_
      refine awp_seq ?_
      refine awp_region ?_
      refine aops_p (ap_move rfl) rfl rfl rfl ?_
      (refine aops_call zRc (N_con _ _ _ _ (by omega)) zSplit rfl rfl ?_; rintro _ _ ⟨r42, a42, rfl, hr42, rfl⟩; obtain ⟨x42, rfl⟩ := Int.eq_ofNat_of_zero_le hr42.1)
      refine aops_p (ap_move rfl) rfl rfl rfl ?_
      (refine aops_call zRc (N_con _ _ _ _ (by omega)) zSplit rfl rfl ?_; rintro _ _ ⟨r44, a44, rfl, hr44, rfl⟩; obtain ⟨x44, rfl⟩ := Int.eq_ofNat_of_zero_le hr44.1)
      refine aops_p (ap_move rfl) rfl rfl rfl ?_
      (refine aops_call zRc (N_con _ _ _ _ (by omega)) zSplit rfl rfl ?_; rintro _ _ ⟨r46, a46, rfl, hr46, rfl⟩; obtain ⟨x46, rfl⟩ := Int.eq_ofNat_of_zero_le hr46.1)
      refine aops_p (ap_move rfl) rfl rfl rfl ?_
      (refine aops_call zRc (N_con _ _ _ _ (by omega)) zSplit rfl rfl ?_; rintro _ _ ⟨r48, a48, rfl, hr48, rfl⟩; obtain ⟨x48, rfl⟩ := Int.eq_ofNat_of_zero_le hr48.1)
      refine aops_p (ap_assign rfl) rfl rfl rfl ?_
      refine aops_p (ap_assign rfl) rfl rfl rfl ?_
      refine aops_p (ap_assign rfl) rfl rfl rfl ?_
      refine aops_p (ap_assign rfl) rfl rfl rfl ?_
      have hle : x46 &&& x48 < 1024 := Nat.lt_of_le_of_lt Nat.and_le_left (by omega)
      refine aops_nil ?_
      refine seqQ_n ?_
      refine awp_seq ?_
      refine awp_seq ?_
      refine awp_region ?_
      refine aops_p (ap_move rfl) rfl rfl rfl ?_
      refine aops_p (ap_move rfl) rfl rfl rfl ?_
      refine aops_call_b zRc (rhas_con s x42) rfl rfl (fun c51 hc51 => ?_)
      refine aops_p (ap_move rfl) rfl rfl rfl ?_
      all_goals (first | (refine aops_yes rfl rfl rfl rfl zDec ?_; (refine aops_p (ap_move rfl) rfl rfl rfl ?_)) | refine aops_no_u rfl rfl rfl ?_ | refine aops_no_f rfl rfl rfl rfl zDec ?_ | (refine aops_guard_f rfl rfl rfl rfl (fun hg => ?_) (fun hg => ?_); case' _ => (refine aops_p (ap_move rfl) rfl rfl rfl ?_)))
      all_goals (first | (refine aops_yes rfl rfl rfl rfl zDec ?_; (refine aops_p (ap_move rfl) rfl rfl rfl ?_)) | refine aops_no_u rfl rfl rfl ?_ | refine aops_no_f rfl rfl rfl rfl zDec ?_ | (refine aops_guard_f rfl rfl rfl rfl (fun hg => ?_) (fun hg => ?_); case' _ => (refine aops_p (ap_move rfl) rfl rfl rfl ?_)))
      all_goals (first | (refine aops_yes rfl rfl rfl rfl zDec ?_; (refine aops_call_b zRc (rhas_con s x44) rfl rfl (fun c55 hc55 => ?_))) | refine aops_no_u rfl rfl rfl ?_ | refine aops_no_f rfl rfl rfl rfl zDec ?_ | (refine aops_guard_f rfl rfl rfl rfl (fun hg => ?_) (fun hg => ?_); case' _ => (refine aops_call_b zRc (rhas_con s x44) rfl rfl (fun c55 hc55 => ?_))))
      all_goals (first | refine aops_p (ap_pick_true rfl zDec rfl) rfl rfl rfl ?_ | refine aops_p (ap_pick_false rfl zDec rfl) rfl rfl rfl ?_)
      all_goals (
        refine aops_nil ?_
        refine seqQ_n ?_
        refine awp_cond rfl (fun hc => ?_) (fun hc => ?_)
        · first
          | (exact absurd hc (by decide))
          | (refine awp_exit ?_
             refine seqQ_x ?_
             refine blockQ_x rfl ?_
             refine seqQ_n ?_
             refine awp_region ?_
             refine aops_p (ap_move rfl) rfl rfl rfl ?_
             refine aops_p (ap_arith rfl rfl rfl (by omega)) rfl rfl rfl ?_
             refine aops_p (ap_assign rfl) rfl rfl rfl ?_
             refine aops_nil ?_
             refine seqQ_n ?_
             refine ⟨k + 1, _, by omega, by omega, wk zSub (by repeat (first | exact .nil | refine .cons (by first | exact .here | exact .there .here | exact .there (.there .here) | exact .there (.there (.there .here)) | exact .there (.there (.there (.there .here)))) ?_))⟩
            )
        · first
          | (exact absurd hc (by decide))
          | (have h51 := hc51.trans (show c51 = false by with_reducible assumption)
             have h55 := hc55.trans (show c55 = false by with_reducible assumption)
             refine awp_skip ?_
             refine seqQ_n ?_
             refine awp_seq ?_
             refine awp_region ?_
             refine aops_p (ap_move rfl) rfl rfl rfl ?_
             refine aops_p (ap_move rfl) rfl rfl rfl ?_
             all_goals (first | (refine aops_yes rfl rfl rfl rfl zDec ?_; (first | refine aops_q (aq_load rfl zUpd List.not_mem_nil rfl rfl zRc) rfl rfl rfl ?_ | refine aops_q (aq_load_el rfl rfl rfl rfl (fun _ h => absurd h List.not_mem_nil)) rfl rfl rfl ?_)) | refine aops_no_u rfl rfl rfl ?_ | refine aops_no_t rfl rfl rfl rfl zDec ?_ | (refine aops_guard_t rfl rfl rfl rfl (fun hg => ?_) (fun hg => ?_); case' _ => (first | refine aops_q (aq_load rfl zUpd List.not_mem_nil rfl rfl zRc) rfl rfl rfl ?_ | refine aops_q (aq_load_el rfl rfl rfl rfl (fun _ h => absurd h List.not_mem_nil)) rfl rfl rfl ?_)))
             all_goals (first | (refine aops_yes rfl rfl rfl rfl zDec ?_; (refine aops_p (ap_move rfl) rfl rfl rfl ?_)) | refine aops_no_u rfl rfl rfl ?_ | refine aops_no_t rfl rfl rfl rfl zDec ?_ | (refine aops_guard_t rfl rfl rfl rfl (fun hg => ?_) (fun hg => ?_); case' _ => (refine aops_p (ap_move rfl) rfl rfl rfl ?_)))
             all_goals (first | (refine aops_yes rfl rfl rfl rfl zDec ?_; (refine aops_p (ap_move rfl) rfl rfl rfl ?_)) | refine aops_no_u rfl rfl rfl ?_ | refine aops_no_t rfl rfl rfl rfl zDec ?_ | (refine aops_guard_t rfl rfl rfl rfl (fun hg => ?_) (fun hg => ?_); case' _ => (refine aops_p (ap_move rfl) rfl rfl rfl ?_)))
             all_goals (first | (refine aops_yes rfl rfl rfl rfl zDec ?_; (refine aops_call_b zRc (confirms_con x x42 x46) rfl rfl (fun c62 hc62 => ?_))) | refine aops_no_u rfl rfl rfl ?_ | refine aops_no_t rfl rfl rfl rfl zDec ?_ | (refine aops_guard_t rfl rfl rfl rfl (fun hg => ?_) (fun hg => ?_); case' _ => (refine aops_call_b zRc (confirms_con x x42 x46) rfl rfl (fun c62 hc62 => ?_))))
             all_goals (first | refine aops_p (ap_pick_true rfl zDec rfl) rfl rfl rfl ?_ | refine aops_p (ap_pick_false rfl zDec rfl) rfl rfl rfl ?_)
             all_goals (refine aops_p (ap_move rfl) rfl rfl rfl ?_)
             all_goals (first | (refine aops_yes rfl rfl rfl rfl zDec ?_; (first | refine aops_q (aq_load rfl zUpd List.not_mem_nil rfl rfl zRc) rfl rfl rfl ?_ | refine aops_q (aq_load_el rfl rfl rfl rfl (fun _ h => absurd h List.not_mem_nil)) rfl rfl rfl ?_)) | refine aops_no_u rfl rfl rfl ?_ | refine aops_no_t rfl rfl rfl rfl zDec ?_ | (refine aops_guard_t rfl rfl rfl rfl (fun hg => ?_) (fun hg => ?_); case' _ => (first | refine aops_q (aq_load rfl zUpd List.not_mem_nil rfl rfl zRc) rfl rfl rfl ?_ | refine aops_q (aq_load_el rfl rfl rfl rfl (fun _ h => absurd h List.not_mem_nil)) rfl rfl rfl ?_)))
             all_goals (first | (refine aops_yes rfl rfl rfl rfl zDec ?_; (refine aops_p (ap_move rfl) rfl rfl rfl ?_)) | refine aops_no_u rfl rfl rfl ?_ | refine aops_no_t rfl rfl rfl rfl zDec ?_ | (refine aops_guard_t rfl rfl rfl rfl (fun hg => ?_) (fun hg => ?_); case' _ => (refine aops_p (ap_move rfl) rfl rfl rfl ?_)))
             all_goals (first | (refine aops_yes rfl rfl rfl rfl zDec ?_; (refine aops_p (ap_move rfl) rfl rfl rfl ?_)) | refine aops_no_u rfl rfl rfl ?_ | refine aops_no_t rfl rfl rfl rfl zDec ?_ | (refine aops_guard_t rfl rfl rfl rfl (fun hg => ?_) (fun hg => ?_); case' _ => (refine aops_p (ap_move rfl) rfl rfl rfl ?_)))
             all_goals (first | (refine aops_yes rfl rfl rfl rfl zDec ?_; (refine aops_call_b zRc (confirms_con y x44 x48) rfl rfl (fun c68 hc68 => ?_))) | refine aops_no_u rfl rfl rfl ?_ | refine aops_no_t rfl rfl rfl rfl zDec ?_ | (refine aops_guard_t rfl rfl rfl rfl (fun hg => ?_) (fun hg => ?_); case' _ => (refine aops_call_b zRc (confirms_con y x44 x48) rfl rfl (fun c68 hc68 => ?_))))
             all_goals (first | refine aops_p (ap_pick_true rfl zDec rfl) rfl rfl rfl ?_ | refine aops_p (ap_pick_false rfl zDec rfl) rfl rfl rfl ?_)
             all_goals (refine aops_p (ap_move rfl) rfl rfl rfl ?_)
             all_goals (first | (refine aops_yes rfl rfl rfl rfl zDec ?_; (refine aops_p (ap_move rfl) rfl rfl rfl ?_)) | refine aops_no_u rfl rfl rfl ?_ | refine aops_no_t rfl rfl rfl rfl zDec ?_ | (refine aops_guard_t rfl rfl rfl rfl (fun hg => ?_) (fun hg => ?_); case' _ => (refine aops_p (ap_move rfl) rfl rfl rfl ?_)))
             all_goals (first | (refine aops_yes rfl rfl rfl rfl zDec ?_; (refine aops_p (ap_move rfl) rfl rfl rfl ?_)) | refine aops_no_u rfl rfl rfl ?_ | refine aops_no_t rfl rfl rfl rfl zDec ?_ | (refine aops_guard_t rfl rfl rfl rfl (fun hg => ?_) (fun hg => ?_); case' _ => (refine aops_p (ap_move rfl) rfl rfl rfl ?_)))
             all_goals (first | (refine aops_yes rfl rfl rfl rfl zDec ?_; (refine aops_p (ap_bits rfl rfl rfl (by omega) (by omega)) rfl rfl rfl ?_)) | refine aops_no_u rfl rfl rfl ?_ | refine aops_no_t rfl rfl rfl rfl zDec ?_ | (refine aops_guard_t rfl rfl rfl rfl (fun hg => ?_) (fun hg => ?_); case' _ => (refine aops_p (ap_bits rfl rfl rfl (by omega) (by omega)) rfl rfl rfl ?_)))
             all_goals (first | (refine aops_yes rfl rfl rfl rfl zDec ?_; (refine aops_p (ap_move rfl) rfl rfl rfl ?_)) | refine aops_no_u rfl rfl rfl ?_ | refine aops_no_t rfl rfl rfl rfl zDec ?_ | (refine aops_guard_t rfl rfl rfl rfl (fun hg => ?_) (fun hg => ?_); case' _ => (refine aops_p (ap_move rfl) rfl rfl rfl ?_)))
             all_goals (first | (refine aops_yes rfl rfl rfl rfl zDec ?_; (refine aops_p (ap_bits rfl rfl rfl (by omega) (by omega)) rfl rfl rfl ?_)) | refine aops_no_u rfl rfl rfl ?_ | refine aops_no_t rfl rfl rfl rfl zDec ?_ | (refine aops_guard_t rfl rfl rfl rfl (fun hg => ?_) (fun hg => ?_); case' _ => (refine aops_p (ap_bits rfl rfl rfl (by omega) (by omega)) rfl rfl rfl ?_)))
             all_goals (first | (refine aops_yes rfl rfl rfl rfl zDec ?_; (refine aops_p (ap_cmp rfl rfl rfl) rfl rfl rfl ?_)) | refine aops_no_u rfl rfl rfl ?_ | refine aops_no_t rfl rfl rfl rfl zDec ?_ | (refine aops_guard_t rfl rfl rfl rfl (fun hg => ?_) (fun hg => ?_); case' _ => (refine aops_p (ap_cmp rfl rfl rfl) rfl rfl rfl ?_)))
             all_goals (first | refine aops_p (ap_pick_true rfl zDec rfl) rfl rfl rfl ?_ | refine aops_p (ap_pick_false rfl zDec rfl) rfl rfl rfl ?_)
             all_goals (
               refine aops_nil ?_
               refine seqQ_n ?_
               refine awp_cond rfl (fun hc => ?_) (fun hc => ?_)
               · first
                 | (exact absurd hc (by decide))
                 | (refine awp_seq ?_
                    refine awp_region ?_
                    refine aops_p (ap_assign rfl) rfl rfl rfl ?_
                    refine aops_nil ?_
                    refine seqQ_n ?_
                    refine awp_ret ?_
                    refine blockQ_r ?_
                    refine seqQ_r ?_
                    refine seqQ_r ?_
                    refine blockQ_r ?_
                    refine seqQ_r ?_
                    exfalso
                    have hye := holds_1 (show (holdsV (delC c s)).1 = true by with_reducible assumption)
                    exact safe (c := c) (by omega) hs (by omega) (by omega) hye hx hy h51 h55 (hc62.trans (by with_reducible assumption)) (hc68.trans (by with_reducible assumption)) (of_decide_eq_true (by with_reducible assumption))
                   )
               · first
                 | (exact absurd hc (by decide))
                 | (refine awp_skip ?_
                    refine blockQ_n ?_
                    refine seqQ_n ?_
                    refine awp_region ?_
                    refine aops_p (ap_move rfl) rfl rfl rfl ?_
                    refine aops_p (ap_arith rfl rfl rfl (by omega)) rfl rfl rfl ?_
                    refine aops_p (ap_assign rfl) rfl rfl rfl ?_
                    refine aops_nil ?_
                    refine seqQ_n ?_
                    refine ⟨k + 1, _, by omega, by omega, wk zSub (by repeat (first | exact .nil | refine .cons (by first | exact .here | exact .there .here | exact .there (.there .here) | exact .there (.there (.there .here)) | exact .there (.there (.there (.there .here)))) ?_))⟩
                   )
               )
            )
        )
    · refine awp_exit ?_
      refine seqQ_x ?_
      refine seqQ_x ?_
      refine blockQ_x rfl ?_
      refine seqQ_n ?_
      refine awp_seq ?_
      refine awp_region ?_
      refine aops_call_v zRc (awake18_con) rfl rfl ?_
      refine aops_p (ap_assign rfl) rfl rfl rfl ?_
      refine aops_nil ?_
      refine seqQ_n ?_
      refine awp_ret ?_
      refine post_is (.tmp rfl .nil) (by repeat (first | exact .nil | refine .cons (by first | exact .here | exact .there .here | exact .there (.there .here) | exact .there (.there (.there .here)) | exact .there (.there (.there (.there .here)))) ?_)) rfl
    )
end Go.Proofs.Yteogidjgmeemlaa
