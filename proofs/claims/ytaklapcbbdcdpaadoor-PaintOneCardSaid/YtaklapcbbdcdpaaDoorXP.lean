import Derived.Test.YtaklapcbbdcdpaaDoorXO
namespace Go.Proofs.YtaklapcbbdcdpaaDoor.X
open Go Go.RowKit
set_option linter.unusedVariables false
set_option linter.unusedSimpArgs false
/-! What an operation answers does not hang on what is done with it -/
abbrev R0 := AV × Upd × List AO
def K0 : KO R0 := fun v U N => some (v, U, N)
def go {β : Type} (K : KO β) (x : R0) : Option β := K x.1 x.2.1 x.2.2
structure ENat {P : Program} (e : Entry P) : Prop where
  nat : ∀ {β : Type} (args : List AV) (H : Heap) (K : KO β), e.run args H K = (e.run args H K0).bind (go K)
section
variable {P : Program} {X : Ctx P} {β : Type} {H : Heap} {o : Oper} (K : KO β) {ts : TS}
theorem iff'_nat {γ : Type} {c : Bool} {x : Option β} {y : Option γ} {f : γ → Option β} (h : x = y.bind f) : iff' c x = (iff' c y).bind f := by
  cases c
  · rfl
  · exact h
theorem opLoadC_nat (t a) : opLoadC X ts H t a K = (opLoadC X ts H t a K0).bind (go K) := by
  unfold opLoadC
  repeat' split
  all_goals first | rfl | simp_all
theorem opLoad_nat (t a) : opLoad X ts H t a K = (opLoad X ts H t a K0).bind (go K) := by
  unfold opLoad
  repeat' split
  all_goals first | rfl | (apply iff'_nat; rfl) | (apply opLoadC_nat) | simp_all
theorem opStore_nat (t a x) : opStore X ts H t a x K = (opStore X ts H t a x K0).bind (go K) := by
  unfold opStore
  dsimp only
  repeat' split
  all_goals first | rfl | simp_all
theorem opFieldAddr_nat (t a x) : opFieldAddr X ts H t a x K = (opFieldAddr X ts H t a x K0).bind (go K) := by
  unfold opFieldAddr
  repeat' split
  all_goals first | rfl | simp_all
theorem opField_nat (t a x) : opField X ts H t a x K = (opField X ts H t a x K0).bind (go K) := by
  unfold opField
  repeat' split
  all_goals first | rfl | simp_all
theorem opIndexAddr_nat (t a x) : opIndexAddr X ts H t a x K = (opIndexAddr X ts H t a x K0).bind (go K) := by
  unfold opIndexAddr
  repeat' split
  all_goals first | rfl | (apply iff'_nat; rfl) | simp_all
theorem opIndex_nat (t a x) : opIndex X ts H t a x K = (opIndex X ts H t a x K0).bind (go K) := by
  unfold opIndex
  repeat' split
  all_goals first | rfl | (apply iff'_nat; rfl) | simp_all
theorem opSlice_nat (t a x y z) : opSlice X ts H t a x y z K = (opSlice X ts H t a x y z K0).bind (go K) := by
  unfold opSlice
  repeat' split
  all_goals first | rfl | (apply iff'_nat; rfl) | simp_all
theorem opMake_nat (t a x) : opMake X ts H t a x K = (opMake X ts H t a x K0).bind (go K) := by
  unfold opMake
  repeat' split
  all_goals first | rfl | (apply iff'_nat; rfl) | simp_all
theorem opAppend_nat (t a x) : opAppend X ts H t a x K = (opAppend X ts H t a x K0).bind (go K) := by
  unfold opAppend
  repeat' split
  all_goals first | rfl | (apply iff'_nat; rfl) | simp_all
theorem opBuild_nat (t a) : opBuild X ts H t a K = (opBuild X ts H t a K0).bind (go K) := by
  unfold opBuild
  repeat' split
  all_goals first | rfl | simp_all
theorem opBuildSlice_nat (t a x) : opBuildSlice X ts H t a x K = (opBuildSlice X ts H t a x K0).bind (go K) := by
  unfold opBuildSlice
  repeat' split
  all_goals first | rfl | simp_all
theorem opDiv_nat (op x y) : opDiv op x y K = (opDiv op x y K0).bind (go K) := by
  unfold opDiv
  repeat' split
  all_goals first | rfl | (apply iff'_nat; rfl) | simp_all
theorem opShift_nat (op x y) : opShift op x y K = (opShift op x y K0).bind (go K) := by
  unfold opShift
  repeat' split
  all_goals first | rfl | (apply iff'_nat; rfl) | simp_all
theorem opNil_nat (op t x y) : opNil X ts H op t x y K = (opNil X ts H op t x y K0).bind (go K) := by
  unfold opNil
  repeat' split
  all_goals first | rfl | simp_all
theorem opEqS_nat (op t xs ys) : opEqS X op t xs ys K = (opEqS X op t xs ys K0).bind (go K) := by
  unfold opEqS
  repeat' split
  all_goals first | rfl | simp_all
theorem opB2S_nat (s d x) : opB2S X ts H s d x K = (opB2S X ts H s d x K0).bind (go K) := by
  unfold opB2S
  repeat' split
  all_goals first | rfl | simp_all
theorem opPure_nat : opPure X ts H o K = (opPure X ts H o K0).bind (go K) := by
  unfold opPure
  repeat' split
  all_goals first | rfl | (apply opDiv_nat) | (apply opShift_nat) | (apply opNil_nat) | (apply opEqS_nat) | (apply opB2S_nat) | simp_all
theorem opCopy_nat (t a x) : opCopy X ts H t a x K = (opCopy X ts H t a x K0).bind (go K) := by
  unfold opCopy
  repeat' split
  all_goals first | rfl | simp_all
theorem opBuiltin_nat (b args tys) : opBuiltin X ts H o b args tys K = (opBuiltin X ts H o b args tys K0).bind (go K) := by
  unfold opBuiltin
  repeat' split
  all_goals first | rfl | (apply opAppend_nat) | (apply opCopy_nat) | simp_all
theorem opCall_nat (hN : ∀ e ∈ X.tb, ENat e) (f args) : opCall X ts H f args K = (opCall X ts H f args K0).bind (go K) := by
  unfold opCall
  split
  · rename_i g caps h1
    split
    · rename_i e he
      have hm : e ∈ X.tb := by
        clear h1
        generalize X.tb = tb at he
        induction tb with
        | nil => cases he
        | cons x l ih =>
          simp only [find] at he
          split at he
          · simp only [Option.some.injEq] at he; subst he; simp
          · exact List.mem_cons_of_mem _ (ih he)
      rw [(hN e hm).nat (K := fun v U N => if (List.all U fun u => decide (X.ro ≤ u.1)) = true then K v U N else none), (hN e hm).nat (K := fun v U N => if (List.all U fun u => decide (X.ro ≤ u.1)) = true then K0 v U N else none)]
      rw [Option.bind_assoc]
      congr 1
      funext x
      simp only [go]
      split <;> rfl
    · rfl
  · rfl
theorem opEval_nat (hN : ∀ e ∈ X.tb, ENat e) : opEval X ts H o K = (opEval X ts H o K0).bind (go K) := by
  unfold opEval
  split
  case h_3 => 
    split
    · split
      · rfl
      · split <;> rfl
    · rfl
  case h_10 =>
    split
    · split <;> rfl
    · rfl
  all_goals first
    | rfl
    | exact opBuild_nat K _ _
    | exact opBuildSlice_nat K _ _ _
    | exact opLoad_nat K _ _
    | exact opStore_nat K _ _ _
    | exact opFieldAddr_nat K _ _ _
    | exact opField_nat K _ _ _
    | exact opIndexAddr_nat K _ _ _
    | exact opIndex_nat K _ _ _
    | exact opSlice_nat K _ _ _ _ _
    | exact opMake_nat K _ _ _
    | exact opBuiltin_nat K _ _ _
    | exact opCall_nat K hN _ _
    | exact opPure_nat K
    | (split <;> first | rfl | (split <;> rfl))
end
end Go.Proofs.YtaklapcbbdcdpaaDoor.X
