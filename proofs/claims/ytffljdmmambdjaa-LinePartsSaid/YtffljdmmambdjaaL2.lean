/- What functions of the program come to (L2): in every world; the conditions stand in each theorem. -/
import Derived.Test.YtffljdmmambdjaaL1
set_option linter.unusedVariables false
set_option linter.unusedSectionVars false
set_option linter.unusedSimpArgs false
open Go Go.Proofs Gw
namespace Gv
variable [Glob]
/-! concat -/
noncomputable def fns1 : List (Nat × FnI) := [(32, {fn := Try.f32, hooks := [], draws := []})]
theorem E1ok : EnvOK ⟨Try.prog, tys, [], fns1, [], []⟩ := env_ok mixed0 tys0 .nil (.cons (by kernel_rfl) ⟨Try.func32, by kernel_rfl, by kernel_rfl⟩ .nil) .nil rfl
def blV (l : List UInt8) : V := .sl byteV l
theorem concatB_ca : callable Try.prog 16 = true := by kernel_rfl
def concatB_S : Spec := fun args K => ∃ a : List (List UInt8), args = [.sl blV a] ∧ a.flatten.length ≤ 1000000 ∧ K (.sl byteV a.flatten)
theorem concatB_ok : Pure Try.prog 16 concatB_S := by
  refine pure_by E1ok 1 (fi := {fn := Try.f16, hooks := [10], draws := []}) ⟨Try.func16, by kernel_rfl, by kernel_rfl⟩ ?_
  rintro _ K ⟨x, rfl, hx, hK⟩
  replace hK : ∀ p, p = .sl byteV x.flatten → K p := fun r h => h ▸ hK
  obtain ⟨f, hf⟩ : ∃ f : Nat → List UInt8, ∀ i, f i = (x.take i).flatten := ⟨_, fun _ => rfl⟩
  have f0 : f 0 = [] := by simp [hf]
  have fS : ∀ i (h : i < x.length), f (i + 1) = f i ++ x[i] := fun i h => by
    rw [hf, hf, List.take_succ_eq_append_getElem h]
    simp only [List.flatten_append, List.flatten_cons, List.flatten_nil, List.append_nil]
  have fN : ∀ i, x.length ≤ i → f i = x.flatten := fun i h => by simp [hf, List.take_of_length_le h]
  have fl : ∀ i, (f i).length ≤ 1000000 := fun i => by
    rw [← List.take_append_drop i x] at hx
    simp only [List.flatten_append, List.length_append] at hx
    rw [hf]; omega
  clear hf
  refine fun (hl : _ ≤ MAXL) => ?_
  conv => whnf
  refine loop_intro (σ := Nat) (fun i => [(0, .sl blV x), (2, .nil), (9, .sl blV x), (10, .int .i64 x.length), (11, .int .i64 i), (3, .int .i64 ((f i).length : Nat))]) (fun _ => []) (fun i => i ≤ x.length) (fun i => x.length - i) 0 (wk_sel [] rfl rfl trivial ?_) (Nat.zero_le _) ?_
  · simp only [f0]
    (repeat' (first | exact True.intro | exact rfl | exact Or.inl rfl | exact Or.inr rfl | refine And.intro ?_ ?_ | fail))
  intro i hi
  have hs := fl i
  repeat' (first | exact True.intro | refine ⟨_, LeL.refl _, ?_⟩ | refine ⟨_, _, _, LeL.refl _, ?_⟩ | (refine fun (b : Bool) hb => ?_; cases b <;> (first | exact absurd hb (by decide) | exact Bool.noConfusion (show true = false from hb) | exact Bool.noConfusion (show false = true from hb) | skip)) | (refine fun (hl : _ ≤ MAXL) => ?_) | refine And.intro (a := I64 _) ?_ ?_ | refine And.intro (a := _ ≤ 140737488355328) ?_ ?_ | refine ⟨_, ⟨rfl, rfl⟩, ?_⟩ | refine ⟨_, And.intro (a := I64 _) ?_ ⟨rfl, rfl⟩, ?_⟩ | refine ⟨_, _, ⟨rfl, rfl⟩, ?_⟩ | refine ⟨_, (fun _ => ⟨rfl, rfl⟩), ?_⟩ | refine And.intro (a := chkPend _ _ _ _ _ _) ?_ ?_ | refine And.intro (a := chkPast _ _ _ _ _ _ _ _) ?_ ?_ | refine ⟨⟨rfl, rfl⟩, ?_⟩ | refine ⟨True.intro, ?_⟩ | refine ⟨_, ⟨_, rfl, ?_, rfl, rfl, rfl⟩, ?_⟩ | refine ⟨_, rfl, ?_, rfl, ?_⟩ | refine ⟨_, (fun _ => rfl), rfl, ?_⟩ | refine ⟨(fun _ => rfl), ?_⟩ | refine ⟨rfl, ?_⟩ | fail)
  · conv => whnf
    refine join_intro (σ := Unit) (fun _ => [(0, .sl blV x), (2, .nil), (6, .own 0)]) (fun _ => [.row 1 []]) (fun _ => True) ?_ ?_
    · repeat' (first | exact True.intro | refine ⟨_, LeL.refl _, ?_⟩ | refine ⟨_, _, _, LeL.refl _, ?_⟩ | (refine fun (b : Bool) hb => ?_; cases b <;> (first | exact absurd hb (by decide) | exact Bool.noConfusion (show true = false from hb) | exact Bool.noConfusion (show false = true from hb) | skip)) | (refine fun (hl : _ ≤ MAXL) => ?_) | refine And.intro (a := I64 _) ?_ ?_ | refine And.intro (a := _ ≤ 140737488355328) ?_ ?_ | refine ⟨_, ⟨rfl, rfl⟩, ?_⟩ | refine ⟨_, And.intro (a := I64 _) ?_ ⟨rfl, rfl⟩, ?_⟩ | refine ⟨_, _, ⟨rfl, rfl⟩, ?_⟩ | refine ⟨_, (fun _ => ⟨rfl, rfl⟩), ?_⟩ | refine And.intro (a := chkPend _ _ _ _ _ _) ?_ ?_ | refine And.intro (a := chkPast _ _ _ _ _ _ _ _) ?_ ?_ | refine ⟨⟨rfl, rfl⟩, ?_⟩ | refine ⟨True.intro, ?_⟩ | refine ⟨_, ⟨_, rfl, ?_, rfl, rfl, rfl⟩, ?_⟩ | refine ⟨_, rfl, ?_, rfl, ?_⟩ | refine ⟨_, (fun _ => rfl), rfl, ?_⟩ | refine ⟨(fun _ => rfl), ?_⟩ | refine ⟨rfl, ?_⟩ | fail)
      · unfold I64; omega
      · unfold I64; omega
      · refine ⟨(), wk_sel [none] rfl rfl trivial ?_, trivial⟩
        (repeat' (first | exact True.intro | exact rfl | exact Or.inl rfl | exact Or.inr rfl | refine And.intro ?_ ?_ | fail))
      · refine ⟨(f i).length, by simp, by grind, by simp only [Nat.mul_one]; omega, ?_⟩
        refine fun _ => ?_
        refine ⟨0, rfl, Nat.zero_le _, ?_⟩
        refine ⟨(), wk_sel [some 1] rfl rfl ⟨rfl, trivial⟩ ?_, trivial⟩
        (repeat' (first | exact True.intro | exact rfl | exact Or.inl rfl | exact Or.inr rfl | refine And.intro ?_ ?_ | fail))
    intro _ _
    refine fun (hl : _ ≤ MAXL) => ?_
    conv => whnf
    refine loop_intro (σ := Nat) (fun i => [(0, .sl blV x), (2, .nil), (6, .own 0), (25, .sl blV x), (26, .int .i64 x.length), (27, .int .i64 i)]) (fun i => [.row 1 ((f i).map byteV)]) (fun i => i ≤ x.length) (fun i => x.length - i) 0 (wk_sel [some 0] rfl rfl ⟨?_, trivial⟩ ?_) (Nat.zero_le _) ?_
    · rw [f0]; exact rfl
    · (repeat' (first | exact True.intro | exact rfl | exact Or.inl rfl | exact Or.inr rfl | refine And.intro ?_ ?_ | fail))
    intro i hi
    have hs := fl i
    repeat' (first | exact True.intro | refine ⟨_, LeL.refl _, ?_⟩ | refine ⟨_, _, _, LeL.refl _, ?_⟩ | (refine fun (b : Bool) hb => ?_; cases b <;> (first | exact absurd hb (by decide) | exact Bool.noConfusion (show true = false from hb) | exact Bool.noConfusion (show false = true from hb) | skip)) | (refine fun (hl : _ ≤ MAXL) => ?_) | refine And.intro (a := I64 _) ?_ ?_ | refine And.intro (a := _ ≤ 140737488355328) ?_ ?_ | refine ⟨_, ⟨rfl, rfl⟩, ?_⟩ | refine ⟨_, And.intro (a := I64 _) ?_ ⟨rfl, rfl⟩, ?_⟩ | refine ⟨_, _, ⟨rfl, rfl⟩, ?_⟩ | refine ⟨_, (fun _ => ⟨rfl, rfl⟩), ?_⟩ | refine And.intro (a := chkPend _ _ _ _ _ _) ?_ ?_ | refine And.intro (a := chkPast _ _ _ _ _ _ _ _) ?_ ?_ | refine ⟨⟨rfl, rfl⟩, ?_⟩ | refine ⟨True.intro, ?_⟩ | refine ⟨_, ⟨_, rfl, ?_, rfl, rfl, rfl⟩, ?_⟩ | refine ⟨_, rfl, ?_, rfl, ?_⟩ | refine ⟨_, (fun _ => rfl), rfl, ?_⟩ | refine ⟨(fun _ => rfl), ?_⟩ | refine ⟨rfl, ?_⟩ | refine ⟨UInt8, byteV, ?_⟩ | fail)
    · refine hK _ ?_
      rw [fN i (by grind)]
    · grind
    · have := fl (i + 1)
      rw [fS i (by grind)] at this
      simp only [List.length_append, List.length_map, blV, elsOf] at this ⊢
      omega
    · unfold I64; grind
    · refine ⟨i + 1, ?_, ?_, ?_⟩
      · refine wk_sel [some 1] rfl rfl ⟨?_, trivial⟩ ?_
        · rw [fS i (by grind), List.map_append]
          exact rfl
        · (repeat' (first | exact True.intro | exact rfl | exact Or.inl rfl | exact Or.inr rfl | refine And.intro ?_ ?_ | fail))
      · grind
      · grind
  · grind
  · unfold I64; grind
  · unfold I64; grind
  · refine ⟨i + 1, ?_, ?_, ?_⟩
    · refine wk_sel [] rfl rfl trivial ?_
      rw [fS i (by grind)]
      simp only [List.length_append]
      (repeat' (first | exact True.intro | exact rfl | exact Or.inl rfl | exact Or.inr rfl | refine And.intro ?_ ?_ | fail))
    · grind
    · grind
end Gv
