import Derived.Test.YtopnjcclbepdoaaKG
namespace Go.Proofs.Ytopnjcclbepdoaa.Caps
open Go Go.RowKit Go.Proofs Go.Proofs.Ytopnjcclbepdoaa.X
set_option linter.unusedVariables false
set_option linter.unusedSimpArgs false
noncomputable section
/-! The width of a rune, both ways -/
theorem e40_eq (k : Nat) (n : Int) : f40 k (((n, ()), ()), ()) = bif decide (n ≥ (0 : Int)) then
  bif decide (n ≤ (1114111 : Int)) then
    bif decide (n < (55296 : Int)) then some (((true, ()), ()), ())
    else some (((decide (n > (57343 : Int)), ()), ()), ())
  else some (((false, ()), ()), ())
else some (((false, ()), ()), ()) := by kernel_rfl
theorem e124_eq (k : Nat) (n : Int) : f124 k (((n, ()), ()), ()) = ((f40 k (((n, ()), ()), ())).bind fun v =>
      bif !v.1.1.1 then some (Sum.inl (((n, ()), (true, ()), ()), ()))
      else
        bif decide (n < (32 : Int)) then some (Sum.inl (((n, ()), (true, ()), ()), ()))
        else
          bif decide (n ≥ (127 : Int)) then
            bif decide (n ≤ (159 : Int)) then some (Sum.inl (((n, ()), (true, ()), ()), ()))
            else
              bif decide (n ≥ (768 : Int)) then
                bif decide (n ≤ (879 : Int)) then some (Sum.inl (((n, ()), (true, ()), ()), ()))
                else
                  bif decide (n ≥ (8203 : Int)) then
                    bif decide (n ≤ (8207 : Int)) then some (Sum.inl (((n, ()), (true, ()), ()), ()))
                    else
                      bif decide (n ≥ (65024 : Int)) then
                        some (Sum.inl (((n, ()), (decide (n ≤ (65039 : Int)), ()), ()), ()))
                      else some (Sum.inl (((n, ()), (false, ()), ()), ()))
                  else
                    bif decide (n ≥ (65024 : Int)) then
                      some (Sum.inl (((n, ()), (decide (n ≤ (65039 : Int)), ()), ()), ()))
                    else some (Sum.inl (((n, ()), (false, ()), ()), ()))
              else
                bif decide (n ≥ (8203 : Int)) then
                  bif decide (n ≤ (8207 : Int)) then some (Sum.inl (((n, ()), (true, ()), ()), ()))
                  else
                    bif decide (n ≥ (65024 : Int)) then
                      some (Sum.inl (((n, ()), (decide (n ≤ (65039 : Int)), ()), ()), ()))
                    else some (Sum.inl (((n, ()), (false, ()), ()), ()))
                else
                  bif decide (n ≥ (65024 : Int)) then
                    some (Sum.inl (((n, ()), (decide (n ≤ (65039 : Int)), ()), ()), ()))
                  else some (Sum.inl (((n, ()), (false, ()), ()), ()))
          else
            bif decide (n ≥ (768 : Int)) then
              bif decide (n ≤ (879 : Int)) then some (Sum.inl (((n, ()), (true, ()), ()), ()))
              else
                bif decide (n ≥ (8203 : Int)) then
                  bif decide (n ≤ (8207 : Int)) then some (Sum.inl (((n, ()), (true, ()), ()), ()))
                  else
                    bif decide (n ≥ (65024 : Int)) then
                      some (Sum.inl (((n, ()), (decide (n ≤ (65039 : Int)), ()), ()), ()))
                    else some (Sum.inl (((n, ()), (false, ()), ()), ()))
                else
                  bif decide (n ≥ (65024 : Int)) then
                    some (Sum.inl (((n, ()), (decide (n ≤ (65039 : Int)), ()), ()), ()))
                  else some (Sum.inl (((n, ()), (false, ()), ()), ()))
            else
              bif decide (n ≥ (8203 : Int)) then
                bif decide (n ≤ (8207 : Int)) then some (Sum.inl (((n, ()), (true, ()), ()), ()))
                else
                  bif decide (n ≥ (65024 : Int)) then
                    some (Sum.inl (((n, ()), (decide (n ≤ (65039 : Int)), ()), ()), ()))
                  else some (Sum.inl (((n, ()), (false, ()), ()), ()))
              else
                bif decide (n ≥ (65024 : Int)) then some (Sum.inl (((n, ()), (decide (n ≤ (65039 : Int)), ()), ()), ()))
                else some (Sum.inl (((n, ()), (false, ()), ()), ()))).bind
  fun v =>
  Sum.elim
    (fun q =>
      bif q.1.2.1.1 then some ((((0 : Int), ()), ()), ())
      else
        Option.bind
          (bif decide (q.1.1.1 ≥ (4352 : Int)) then
            bif decide (q.1.1.1 ≤ (4447 : Int)) then some (Sum.inl (((q.1.1.1, ()), (true, ()), ()), ()))
            else
              bif decide (q.1.1.1 ≥ (11904 : Int)) then
                bif decide (q.1.1.1 ≤ (12350 : Int)) then some (Sum.inl (((q.1.1.1, ()), (true, ()), ()), ()))
                else
                  bif decide (q.1.1.1 ≥ (12353 : Int)) then
                    bif decide (q.1.1.1 ≤ (42191 : Int)) then some (Sum.inl (((q.1.1.1, ()), (true, ()), ()), ()))
                    else
                      bif decide (q.1.1.1 ≥ (44032 : Int)) then
                        some (Sum.inl (((q.1.1.1, ()), (decide (q.1.1.1 ≤ (55203 : Int)), ()), ()), ()))
                      else some (Sum.inl (((q.1.1.1, ()), (false, ()), ()), ()))
                  else
                    bif decide (q.1.1.1 ≥ (44032 : Int)) then
                      some (Sum.inl (((q.1.1.1, ()), (decide (q.1.1.1 ≤ (55203 : Int)), ()), ()), ()))
                    else some (Sum.inl (((q.1.1.1, ()), (false, ()), ()), ()))
              else
                bif decide (q.1.1.1 ≥ (12353 : Int)) then
                  bif decide (q.1.1.1 ≤ (42191 : Int)) then some (Sum.inl (((q.1.1.1, ()), (true, ()), ()), ()))
                  else
                    bif decide (q.1.1.1 ≥ (44032 : Int)) then
                      some (Sum.inl (((q.1.1.1, ()), (decide (q.1.1.1 ≤ (55203 : Int)), ()), ()), ()))
                    else some (Sum.inl (((q.1.1.1, ()), (false, ()), ()), ()))
                else
                  bif decide (q.1.1.1 ≥ (44032 : Int)) then
                    some (Sum.inl (((q.1.1.1, ()), (decide (q.1.1.1 ≤ (55203 : Int)), ()), ()), ()))
                  else some (Sum.inl (((q.1.1.1, ()), (false, ()), ()), ()))
          else
            bif decide (q.1.1.1 ≥ (11904 : Int)) then
              bif decide (q.1.1.1 ≤ (12350 : Int)) then some (Sum.inl (((q.1.1.1, ()), (true, ()), ()), ()))
              else
                bif decide (q.1.1.1 ≥ (12353 : Int)) then
                  bif decide (q.1.1.1 ≤ (42191 : Int)) then some (Sum.inl (((q.1.1.1, ()), (true, ()), ()), ()))
                  else
                    bif decide (q.1.1.1 ≥ (44032 : Int)) then
                      some (Sum.inl (((q.1.1.1, ()), (decide (q.1.1.1 ≤ (55203 : Int)), ()), ()), ()))
                    else some (Sum.inl (((q.1.1.1, ()), (false, ()), ()), ()))
                else
                  bif decide (q.1.1.1 ≥ (44032 : Int)) then
                    some (Sum.inl (((q.1.1.1, ()), (decide (q.1.1.1 ≤ (55203 : Int)), ()), ()), ()))
                  else some (Sum.inl (((q.1.1.1, ()), (false, ()), ()), ()))
            else
              bif decide (q.1.1.1 ≥ (12353 : Int)) then
                bif decide (q.1.1.1 ≤ (42191 : Int)) then some (Sum.inl (((q.1.1.1, ()), (true, ()), ()), ()))
                else
                  bif decide (q.1.1.1 ≥ (44032 : Int)) then
                    some (Sum.inl (((q.1.1.1, ()), (decide (q.1.1.1 ≤ (55203 : Int)), ()), ()), ()))
                  else some (Sum.inl (((q.1.1.1, ()), (false, ()), ()), ()))
              else
                bif decide (q.1.1.1 ≥ (44032 : Int)) then
                  some (Sum.inl (((q.1.1.1, ()), (decide (q.1.1.1 ≤ (55203 : Int)), ()), ()), ()))
                else some (Sum.inl (((q.1.1.1, ()), (false, ()), ()), ())))
          fun v =>
          Sum.elim
            (fun q =>
              Option.bind
                (bif decide (q.1.1.1 ≥ (63744 : Int)) then
                  bif decide (q.1.1.1 ≤ (64255 : Int)) then
                    some (Sum.inl (((q.1.1.1, ()), (q.1.2.1.1, ()), (true, ()), ()), ()))
                  else
                    bif decide (q.1.1.1 ≥ (65072 : Int)) then
                      bif decide (q.1.1.1 ≤ (65135 : Int)) then
                        some (Sum.inl (((q.1.1.1, ()), (q.1.2.1.1, ()), (true, ()), ()), ()))
                      else
                        bif decide (q.1.1.1 ≥ (65280 : Int)) then
                          bif decide (q.1.1.1 ≤ (65376 : Int)) then
                            some (Sum.inl (((q.1.1.1, ()), (q.1.2.1.1, ()), (true, ()), ()), ()))
                          else
                            bif decide (q.1.1.1 ≥ (65504 : Int)) then
                              some
                                (Sum.inl
                                  (((q.1.1.1, ()), (q.1.2.1.1, ()), (decide (q.1.1.1 ≤ (65510 : Int)), ()), ()), ()))
                            else some (Sum.inl (((q.1.1.1, ()), (q.1.2.1.1, ()), (false, ()), ()), ()))
                        else
                          bif decide (q.1.1.1 ≥ (65504 : Int)) then
                            some
                              (Sum.inl
                                (((q.1.1.1, ()), (q.1.2.1.1, ()), (decide (q.1.1.1 ≤ (65510 : Int)), ()), ()), ()))
                          else some (Sum.inl (((q.1.1.1, ()), (q.1.2.1.1, ()), (false, ()), ()), ()))
                    else
                      bif decide (q.1.1.1 ≥ (65280 : Int)) then
                        bif decide (q.1.1.1 ≤ (65376 : Int)) then
                          some (Sum.inl (((q.1.1.1, ()), (q.1.2.1.1, ()), (true, ()), ()), ()))
                        else
                          bif decide (q.1.1.1 ≥ (65504 : Int)) then
                            some
                              (Sum.inl
                                (((q.1.1.1, ()), (q.1.2.1.1, ()), (decide (q.1.1.1 ≤ (65510 : Int)), ()), ()), ()))
                          else some (Sum.inl (((q.1.1.1, ()), (q.1.2.1.1, ()), (false, ()), ()), ()))
                      else
                        bif decide (q.1.1.1 ≥ (65504 : Int)) then
                          some
                            (Sum.inl (((q.1.1.1, ()), (q.1.2.1.1, ()), (decide (q.1.1.1 ≤ (65510 : Int)), ()), ()), ()))
                        else some (Sum.inl (((q.1.1.1, ()), (q.1.2.1.1, ()), (false, ()), ()), ()))
                else
                  bif decide (q.1.1.1 ≥ (65072 : Int)) then
                    bif decide (q.1.1.1 ≤ (65135 : Int)) then
                      some (Sum.inl (((q.1.1.1, ()), (q.1.2.1.1, ()), (true, ()), ()), ()))
                    else
                      bif decide (q.1.1.1 ≥ (65280 : Int)) then
                        bif decide (q.1.1.1 ≤ (65376 : Int)) then
                          some (Sum.inl (((q.1.1.1, ()), (q.1.2.1.1, ()), (true, ()), ()), ()))
                        else
                          bif decide (q.1.1.1 ≥ (65504 : Int)) then
                            some
                              (Sum.inl
                                (((q.1.1.1, ()), (q.1.2.1.1, ()), (decide (q.1.1.1 ≤ (65510 : Int)), ()), ()), ()))
                          else some (Sum.inl (((q.1.1.1, ()), (q.1.2.1.1, ()), (false, ()), ()), ()))
                      else
                        bif decide (q.1.1.1 ≥ (65504 : Int)) then
                          some
                            (Sum.inl (((q.1.1.1, ()), (q.1.2.1.1, ()), (decide (q.1.1.1 ≤ (65510 : Int)), ()), ()), ()))
                        else some (Sum.inl (((q.1.1.1, ()), (q.1.2.1.1, ()), (false, ()), ()), ()))
                  else
                    bif decide (q.1.1.1 ≥ (65280 : Int)) then
                      bif decide (q.1.1.1 ≤ (65376 : Int)) then
                        some (Sum.inl (((q.1.1.1, ()), (q.1.2.1.1, ()), (true, ()), ()), ()))
                      else
                        bif decide (q.1.1.1 ≥ (65504 : Int)) then
                          some
                            (Sum.inl (((q.1.1.1, ()), (q.1.2.1.1, ()), (decide (q.1.1.1 ≤ (65510 : Int)), ()), ()), ()))
                        else some (Sum.inl (((q.1.1.1, ()), (q.1.2.1.1, ()), (false, ()), ()), ()))
                    else
                      bif decide (q.1.1.1 ≥ (65504 : Int)) then
                        some
                          (Sum.inl (((q.1.1.1, ()), (q.1.2.1.1, ()), (decide (q.1.1.1 ≤ (65510 : Int)), ()), ()), ()))
                      else some (Sum.inl (((q.1.1.1, ()), (q.1.2.1.1, ()), (false, ()), ()), ())))
                fun v =>
                Sum.elim
                  (fun q =>
                    Option.bind
                      (bif decide (q.1.1.1 ≥ (127744 : Int)) then
                        bif decide (q.1.1.1 ≤ (128591 : Int)) then
                          some (Sum.inl (((q.1.2.1.1, ()), (q.1.2.2.1.1, ()), (true, ()), ()), ()))
                        else
                          bif decide (q.1.1.1 ≥ (129280 : Int)) then
                            bif decide (q.1.1.1 ≤ (129535 : Int)) then
                              some (Sum.inl (((q.1.2.1.1, ()), (q.1.2.2.1.1, ()), (true, ()), ()), ()))
                            else
                              bif decide (q.1.1.1 ≥ (131072 : Int)) then
                                some
                                  (Sum.inl
                                    (((q.1.2.1.1, ()), (q.1.2.2.1.1, ()), (decide (q.1.1.1 ≤ (262141 : Int)), ()), ()),
                                      ()))
                              else some (Sum.inl (((q.1.2.1.1, ()), (q.1.2.2.1.1, ()), (false, ()), ()), ()))
                          else
                            bif decide (q.1.1.1 ≥ (131072 : Int)) then
                              some
                                (Sum.inl
                                  (((q.1.2.1.1, ()), (q.1.2.2.1.1, ()), (decide (q.1.1.1 ≤ (262141 : Int)), ()), ()),
                                    ()))
                            else some (Sum.inl (((q.1.2.1.1, ()), (q.1.2.2.1.1, ()), (false, ()), ()), ()))
                      else
                        bif decide (q.1.1.1 ≥ (129280 : Int)) then
                          bif decide (q.1.1.1 ≤ (129535 : Int)) then
                            some (Sum.inl (((q.1.2.1.1, ()), (q.1.2.2.1.1, ()), (true, ()), ()), ()))
                          else
                            bif decide (q.1.1.1 ≥ (131072 : Int)) then
                              some
                                (Sum.inl
                                  (((q.1.2.1.1, ()), (q.1.2.2.1.1, ()), (decide (q.1.1.1 ≤ (262141 : Int)), ()), ()),
                                    ()))
                            else some (Sum.inl (((q.1.2.1.1, ()), (q.1.2.2.1.1, ()), (false, ()), ()), ()))
                        else
                          bif decide (q.1.1.1 ≥ (131072 : Int)) then
                            some
                              (Sum.inl
                                (((q.1.2.1.1, ()), (q.1.2.2.1.1, ()), (decide (q.1.1.1 ≤ (262141 : Int)), ()), ()), ()))
                          else some (Sum.inl (((q.1.2.1.1, ()), (q.1.2.2.1.1, ()), (false, ()), ()), ())))
                      fun v =>
                      Sum.elim
                        (fun q =>
                          Option.bind
                            (bif q.1.1.1 then some (Sum.inl (((true, ()), ()), ()))
                            else
                              bif q.1.2.1.1 then some (Sum.inl (((true, ()), ()), ()))
                              else some (Sum.inl (((q.1.2.2.1.1, ()), ()), ())))
                            fun v =>
                            Sum.elim
                              (fun q =>
                                bif q.1.1.1 then some ((((2 : Int), ()), ()), ()) else some ((((1 : Int), ()), ()), ()))
                              (fun q => some q) v)
                        (fun q => some q) v)
                  (fun q => some q) v)
            (fun q => some q) v)
    (fun q => some q) v := by kernel_rfl
theorem cor {α : Type} (a b : Bool) (x y : α) : cond (a || b) x y = cond a x (cond b x y) := by cases a <;> rfl
theorem cno {α : Type} (a : Bool) (x y : α) : cond (!a) x y = cond a y x := by cases a <;> rfl
theorem width_eq (n : Int) : width n = bif decide (32 ≤ n ∧ n < 127) then 1 else bif inS noneL n then 0 else bif inS twoL n then 2 else 1 := by
  unfold width
  by_cases h : 32 ≤ n ∧ n < 127
  · rw [if_pos h, cpos h]
  · rw [if_neg h, cneg h]
    cases inS noneL n <;> cases inS twoL n <;> rfl
theorem wref_ok (k : Nat) (n : Int) (h : 0 ≤ n ∧ n ≤ 0x10ffff) : f124 k (((n, ()), ()), ()) = some (((width n, ()), ()), ()) := by
  rw [e124_eq, e40_eq, width_eq]
  have hc : (0 ≤ n ∧ n < 32) ∨ (32 ≤ n ∧ n < 127) ∨ (127 ≤ n ∧ n < 160) ∨ (160 ≤ n ∧ n < 768) ∨ (768 ≤ n ∧ n < 880) ∨ (880 ≤ n ∧ n < 4352) ∨ (4352 ≤ n ∧ n < 4448) ∨ (4448 ≤ n ∧ n < 8203) ∨ (8203 ≤ n ∧ n < 8208) ∨ (8208 ≤ n ∧ n < 11904) ∨ (11904 ≤ n ∧ n < 12351) ∨ (12351 ≤ n ∧ n < 12353) ∨ (12353 ≤ n ∧ n < 42192) ∨ (42192 ≤ n ∧ n < 44032) ∨ (44032 ≤ n ∧ n < 55204) ∨ (55204 ≤ n ∧ n < 55296) ∨ (55296 ≤ n ∧ n < 57344) ∨ (57344 ≤ n ∧ n < 63744) ∨ (63744 ≤ n ∧ n < 64256) ∨ (64256 ≤ n ∧ n < 65024) ∨ (65024 ≤ n ∧ n < 65040) ∨ (65040 ≤ n ∧ n < 65072) ∨ (65072 ≤ n ∧ n < 65136) ∨ (65136 ≤ n ∧ n < 65280) ∨ (65280 ≤ n ∧ n < 65377) ∨ (65377 ≤ n ∧ n < 65504) ∨ (65504 ≤ n ∧ n < 65511) ∨ (65511 ≤ n ∧ n < 127744) ∨ (127744 ≤ n ∧ n < 128592) ∨ (128592 ≤ n ∧ n < 129280) ∨ (129280 ≤ n ∧ n < 129536) ∨ (129536 ≤ n ∧ n < 131072) ∨ (131072 ≤ n ∧ n < 262142) ∨ (262142 ≤ n ∧ n < 1114112) := by omega
  rcases hc with h1 | h1 | h1 | h1 | h1 | h1 | h1 | h1 | h1 | h1 | h1 | h1 | h1 | h1 | h1 | h1 | h1 | h1 | h1 | h1 | h1 | h1 | h1 | h1 | h1 | h1 | h1 | h1 | h1 | h1 | h1 | h1 | h1 | h1
  all_goals simp (disch := omega) only [cpos, cneg, cor, cno, inS, noneL, twoL, List.any_cons, List.any_nil, Option.bind_some, Sum.elim_inl, Sum.elim_inr, Bool.not_true, Bool.not_false, cond_true, cond_false]
end
end Go.Proofs.Ytopnjcclbepdoaa.Caps
