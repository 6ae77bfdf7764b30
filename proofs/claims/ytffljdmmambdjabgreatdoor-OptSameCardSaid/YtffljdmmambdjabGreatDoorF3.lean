/- What functions of the program come to, part 3: in every world; the conditions stand in each theorem. -/
import Derived.Test.YtffljdmmambdjabGreatDoorF2
set_option linter.unusedVariables false
set_option linter.unusedSectionVars false
set_option linter.unusedSimpArgs false
open Go Go.Proofs Gw Gp
namespace Gv
variable [Glob] [Laid] [Nums] [Errs]
def llV (l : List Bs) : V := .sl blV l
theorem evalG_ca : callable Tryz.prog 69 = true := by kernel_rfl
def evalG_S : Spec := fun args K => ∃ (N : List Gp.Node) (f : List FileS), args = [.agg [.sl nodeV N], .sl fileV f] ∧ K (.tup [.sl byteV (evalG N f).1, .int .i64 (evalG N f).2])
noncomputable def evalG_lib : List (Nat × Spec) := [(78, checkG_S), (89, cfiles_S), (136, makeG_S), (126, cloneB_S)]
noncomputable def evalG_fns : List (Nat × FnI) := []
noncomputable def evalG_prims : List (Nat × PSpec) := []
theorem evalG_E : EnvOK ⟨Tryz.prog, tys, evalG_lib, evalG_fns, evalG_prims, []⟩ := env_ok mixed0 tys0 (.cons checkG_ca checkG_ok (.cons cfiles_ca cfiles_ok (.cons makeG_ca makeG_ok (.cons cloneB_ca cloneB_ok .nil)))) .nil .nil rfl
set_option maxHeartbeats 16000000 in
theorem evalG_ok : Pure Tryz.prog 69 evalG_S := by
  refine pure_by evalG_E 6 (fi := {fn := Tryz.f69, hooks := [], draws := [(15, [0, 0, 0, 4, 14, 30, 0, 64, 254, 510, 1022, 2047, 4095])]}) ⟨Tryz.func69, by kernel_rfl, by kernel_rfl⟩ ?_
  rintro _ K ⟨N, f, rfl, hK⟩
  replace hK : ∀ r, r = .tup [.sl byteV (evalG N f).1, .int .i64 (evalG N f).2] → K r := fun r h => h ▸ hK
  refine ⟨N, rfl, ?_⟩
  have hev : evalG N f = if checkG N ≠ 0 then ([], checkG N) else if checkFiles f ≠ 0 then ([], checkFiles f) else evalGo f N [] := rfl
  repeat' (first | exact True.intro | refine ⟨_, LeL.refl _, ?_⟩ | refine ⟨_, _, _, LeL.refl _, ?_⟩ | (refine fun (b : Bool) hb => ?_; cases b <;> (first | exact absurd hb (by decide) | exact Bool.noConfusion (show true = false from hb) | exact Bool.noConfusion (show false = true from hb) | skip)) | (refine fun (hl : _ ≤ MAXL) => ?_) | refine And.intro (a := I64 _) ?_ ?_ | refine And.intro (a := _ ≤ 140737488355328) ?_ ?_ | refine ⟨_, ⟨rfl, rfl⟩, ?_⟩ | refine ⟨_, And.intro (a := I64 _) ?_ ⟨rfl, rfl⟩, ?_⟩ | refine ⟨_, _, ⟨rfl, rfl⟩, ?_⟩ | refine ⟨_, (fun _ => ⟨rfl, rfl⟩), ?_⟩ | refine And.intro (a := chkPend _ _ _ _ _ _) ?_ ?_ | refine And.intro (a := chkPast _ _ _ _ _ _ _ _) ?_ ?_ | refine ⟨⟨rfl, rfl⟩, ?_⟩ | refine And.intro (And.intro rfl rfl) ?_ | refine ⟨True.intro, ?_⟩ | refine ⟨_, ⟨_, rfl, ?_, rfl, rfl, rfl⟩, ?_⟩ | refine ⟨_, rfl, ?_, rfl, ?_⟩ | refine ⟨_, (fun _ => rfl), rfl, ?_⟩ | refine ⟨(fun _ => rfl), ?_⟩ | refine ⟨rfl, ?_⟩ | refine Opt.a ?_ | fail)
  rotate_left
  · have h0 : ¬ checkG N = 0 := by simpa using (by assumption : (!decide (checkG N = 0)) = true)
    rw [hev, if_pos h0] at hK
    conv => whnf
    exact ⟨_, byteV, hK _ rfl⟩
  have hcg : checkG N = 0 := by simpa using (by assumption : (!decide (checkG N = 0)) = false)
  rw [hev, if_neg (fun h => h hcg)] at hK
  conv => whnf
  refine ⟨f, rfl, ?_⟩
  repeat' (first | exact True.intro | refine ⟨_, LeL.refl _, ?_⟩ | refine ⟨_, _, _, LeL.refl _, ?_⟩ | (refine fun (b : Bool) hb => ?_; cases b <;> (first | exact absurd hb (by decide) | exact Bool.noConfusion (show true = false from hb) | exact Bool.noConfusion (show false = true from hb) | skip)) | (refine fun (hl : _ ≤ MAXL) => ?_) | refine And.intro (a := I64 _) ?_ ?_ | refine And.intro (a := _ ≤ 140737488355328) ?_ ?_ | refine ⟨_, ⟨rfl, rfl⟩, ?_⟩ | refine ⟨_, And.intro (a := I64 _) ?_ ⟨rfl, rfl⟩, ?_⟩ | refine ⟨_, _, ⟨rfl, rfl⟩, ?_⟩ | refine ⟨_, (fun _ => ⟨rfl, rfl⟩), ?_⟩ | refine And.intro (a := chkPend _ _ _ _ _ _) ?_ ?_ | refine And.intro (a := chkPast _ _ _ _ _ _ _ _) ?_ ?_ | refine ⟨⟨rfl, rfl⟩, ?_⟩ | refine And.intro (And.intro rfl rfl) ?_ | refine ⟨True.intro, ?_⟩ | refine ⟨_, ⟨_, rfl, ?_, rfl, rfl, rfl⟩, ?_⟩ | refine ⟨_, rfl, ?_, rfl, ?_⟩ | refine ⟨_, (fun _ => rfl), rfl, ?_⟩ | refine ⟨(fun _ => rfl), ?_⟩ | refine ⟨rfl, ?_⟩ | refine Opt.a ?_ | fail)
  rotate_left
  · have h0 : ¬ checkFiles f = 0 := by simpa using (by assumption : (!decide (checkFiles f = 0)) = true)
    rw [if_pos h0] at hK
    conv => whnf
    exact ⟨_, byteV, hK _ rfl⟩
  have hcf : checkFiles f = 0 := by simpa using (by assumption : (!decide (checkFiles f = 0)) = false)
  rw [if_neg (fun h => h hcf)] at hK
  obtain ⟨hU0, h60⟩ := upto_0 hcg
  have hff : ∀ x ∈ f, x.b.length ≤ 4000 := fun x hx => ((checkFiles_ok hcf).2 x hx).2
  conv => whnf
  refine loop_live [1, 25, 26] (σ := List (List Bs)) (fun s => [(27, .int .i64 (s.length : Nat)), (8, .own 1)]) (fun s => [.box [.sl nodeV N], .row 1 (s.map llV)]) (fun s => s.length ≤ N.length ∧ Upto N s ∧ evalGo f (N.drop s.length) s = evalGo f N []) (fun s => N.length - s.length) [] ?_
  conv => whnf
  refine ⟨(by (refine wk_auto ?_; refine Sel4.mk rfl rfl ?_ ?_ <;> (repeat' (first | exact True.intro | exact rfl | exact Or.inl rfl | exact Or.inr rfl | refine And.intro ?_ ?_ | fail)))), ⟨Nat.zero_le _, hU0, rfl⟩, fun out hs => ?_⟩
  obtain ⟨hi, hU, hgo⟩ := hs
  repeat' (first | exact True.intro | refine ⟨_, LeL.refl _, ?_⟩ | refine ⟨_, _, _, LeL.refl _, ?_⟩ | (refine fun (b : Bool) hb => ?_; cases b <;> (first | exact absurd hb (by decide) | exact Bool.noConfusion (show true = false from hb) | exact Bool.noConfusion (show false = true from hb) | skip)) | (refine fun (hl : _ ≤ MAXL) => ?_) | refine And.intro (a := I64 _) ?_ ?_ | refine And.intro (a := _ ≤ 140737488355328) ?_ ?_ | refine ⟨_, ⟨rfl, rfl⟩, ?_⟩ | refine ⟨_, And.intro (a := I64 _) ?_ ⟨rfl, rfl⟩, ?_⟩ | refine ⟨_, _, ⟨rfl, rfl⟩, ?_⟩ | refine ⟨_, (fun _ => ⟨rfl, rfl⟩), ?_⟩ | refine And.intro (a := chkPend _ _ _ _ _ _) ?_ ?_ | refine And.intro (a := chkPast _ _ _ _ _ _ _ _) ?_ ?_ | refine ⟨⟨rfl, rfl⟩, ?_⟩ | refine And.intro (And.intro rfl rfl) ?_ | refine ⟨True.intro, ?_⟩ | refine ⟨_, ⟨_, rfl, ?_, rfl, rfl, rfl⟩, ?_⟩ | refine ⟨_, rfl, ?_, rfl, ?_⟩ | refine ⟨_, (fun _ => rfl), rfl, ?_⟩ | refine ⟨(fun _ => rfl), ?_⟩ | refine ⟨rfl, ?_⟩ | refine Opt.a ?_ | fail)
  · have hge : ¬ (out.length : Int) < (N.length : Int) := of_decide_eq_false (by assumption)
    rw [List.drop_eq_nil_of_le (by omega)] at hgo
    have hgo : evalGo f N [] = ([], 4) := hgo.symm
    rw [hgo] at hK
    conv => whnf
    exact ⟨_, byteV, hK _ rfl⟩
  · have h : (out.length : Int) < (N.length : Int) := of_decide_eq_true (by assumption)
    omega
  have hlt : out.length < N.length := by
    have h : (out.length : Int) < (N.length : Int) := of_decide_eq_true (by assumption)
    omega
  obtain ⟨hcn, hfl, hpo, hk5, hUn⟩ := upto_node hU h60 hlt
  have hstep : evalGo f (N.drop out.length) out = if N[out.length].kind = 5 then ((insOf out N[out.length].ins).getD 0 [], 0) else evalGo f (N.drop (out.length + 1)) (out ++ [makeN N[out.length] f (insOf out N[out.length].ins)]) := by
    rw [List.drop_eq_getElem_cons hlt, evalGo]
  rw [hstep] at hgo
  have hil := checkN_shape hcn
  conv => whnf
  refine loop_live [1, 8, 10, 25, 26, 27, 32, 33] (σ := Nat × List Bs) (fun s => [(34, .int .i64 s.1), (11, .own 3)]) (fun s => [.box [.sl nodeV N], .row 1 (out.map llV), .box (nodeV N[out.length]).cells, .row 1 (s.2.map blV)]) (fun s => s.1 ≤ N[out.length].ins.length ∧ s.2 = insOf out (N[out.length].ins.take s.1)) (fun s => N[out.length].ins.length - s.1) (0, []) ?_
  conv => whnf
  refine ⟨(by (refine wk_auto ?_; refine Sel4.mk rfl rfl ?_ ?_ <;> (repeat' (first | exact True.intro | exact rfl | exact Or.inl rfl | exact Or.inr rfl | refine And.intro ?_ ?_ | fail)))), ⟨Nat.zero_le _, by simp [insOf]⟩, fun s hs => ?_⟩
  obtain ⟨j, ins⟩ := s
  obtain ⟨hj, hin⟩ := hs
  dsimp only at hj hin
  repeat' (first | exact True.intro | refine ⟨_, LeL.refl _, ?_⟩ | refine ⟨_, _, _, LeL.refl _, ?_⟩ | (refine fun (b : Bool) hb => ?_; cases b <;> (first | exact absurd hb (by decide) | exact Bool.noConfusion (show true = false from hb) | exact Bool.noConfusion (show false = true from hb) | skip)) | (refine fun (hl : _ ≤ MAXL) => ?_) | refine And.intro (a := I64 _) ?_ ?_ | refine And.intro (a := _ ≤ 140737488355328) ?_ ?_ | refine ⟨_, ⟨rfl, rfl⟩, ?_⟩ | refine ⟨_, And.intro (a := I64 _) ?_ ⟨rfl, rfl⟩, ?_⟩ | refine ⟨_, _, ⟨rfl, rfl⟩, ?_⟩ | refine ⟨_, (fun _ => ⟨rfl, rfl⟩), ?_⟩ | refine And.intro (a := chkPend _ _ _ _ _ _) ?_ ?_ | refine And.intro (a := chkPast _ _ _ _ _ _ _ _) ?_ ?_ | refine ⟨⟨rfl, rfl⟩, ?_⟩ | refine And.intro (And.intro rfl rfl) ?_ | refine ⟨True.intro, ?_⟩ | refine ⟨_, ⟨_, rfl, ?_, rfl, rfl, rfl⟩, ?_⟩ | refine ⟨_, rfl, ?_, rfl, ?_⟩ | refine ⟨_, (fun _ => rfl), rfl, ?_⟩ | refine ⟨(fun _ => rfl), ?_⟩ | refine ⟨rfl, ?_⟩ | refine Opt.a ?_ | fail)
  · have hge : ¬ (j : Int) < (N[out.length].ins.length : Int) := of_decide_eq_false (by assumption)
    have h5 : ¬ N[out.length].kind = 5 := of_decide_eq_false (by assumption)
    rw [List.take_of_length_le (by omega)] at hin
    rw [if_neg h5, ← hin] at hgo
    have hUf := hUn f hff
    rw [← hin] at hUf hfl
    have hlen : N[out.length].ins.length = ins.length := by rw [hin]; simp [insOf]
    conv => whnf
    refine ⟨N[out.length], f, ins, rfl, ⟨hcn, hlen, by omega, hff⟩, ?_⟩
    repeat' (first | exact True.intro | refine ⟨_, LeL.refl _, ?_⟩ | refine ⟨_, _, _, LeL.refl _, ?_⟩ | (refine fun (b : Bool) hb => ?_; cases b <;> (first | exact absurd hb (by decide) | exact Bool.noConfusion (show true = false from hb) | exact Bool.noConfusion (show false = true from hb) | skip)) | (refine fun (hl : _ ≤ MAXL) => ?_) | refine And.intro (a := I64 _) ?_ ?_ | refine And.intro (a := _ ≤ 140737488355328) ?_ ?_ | refine ⟨_, ⟨rfl, rfl⟩, ?_⟩ | refine ⟨_, And.intro (a := I64 _) ?_ ⟨rfl, rfl⟩, ?_⟩ | refine ⟨_, _, ⟨rfl, rfl⟩, ?_⟩ | refine ⟨_, (fun _ => ⟨rfl, rfl⟩), ?_⟩ | refine And.intro (a := chkPend _ _ _ _ _ _) ?_ ?_ | refine And.intro (a := chkPast _ _ _ _ _ _ _ _) ?_ ?_ | refine ⟨⟨rfl, rfl⟩, ?_⟩ | refine And.intro (And.intro rfl rfl) ?_ | refine ⟨True.intro, ?_⟩ | refine ⟨_, ⟨_, rfl, ?_, rfl, rfl, rfl⟩, ?_⟩ | refine ⟨_, rfl, ?_, rfl, ?_⟩ | refine ⟨_, (fun _ => rfl), rfl, ?_⟩ | refine ⟨(fun _ => rfl), ?_⟩ | refine ⟨rfl, ?_⟩ | refine Opt.a ?_ | fail)
    · show ((out.map llV).length + 1) * 24 ≤ 140737488355328
      rw [List.length_map]
      omega
    · unfold I64; omega
    conv => whnf
    refine ⟨out ++ [makeN N[out.length] f ins], ?_, ⟨?_, hUf, ?_⟩, ?_⟩
    · have e1 : (((out ++ [makeN N[out.length] f ins]).length : Nat) : Int) = (out.length : Int) + 1 := by simp
      rw [e1]
      (refine wk_auto ?_; refine Sel4.mk rfl rfl ?_ ?_ <;> (repeat' (first | exact True.intro | exact rfl | exact Or.inl rfl | exact Or.inr rfl | refine And.intro ?_ ?_ | fail)))
      show Row.row 1 _ = Row.row 1 _
      rw [List.map_append]
      rfl
    · rw [List.length_append, List.length_singleton]; exact hlt
    · rw [List.length_append, List.length_singleton]; exact hgo
    · rw [List.length_append, List.length_singleton]; omega
  · have hge : ¬ (j : Int) < (N[out.length].ins.length : Int) := of_decide_eq_false (by assumption)
    have h5 : N[out.length].kind = 5 := of_decide_eq_true (by assumption)
    rw [List.take_of_length_le (by omega)] at hin
    rw [if_pos h5, ← hin] at hgo
    rw [← hgo] at hK
    rw [← hin] at hfl
    have hlen : N[out.length].ins.length = ins.length := by rw [hin]; simp [insOf]
    have h0 : 0 < ins.length := by omega
    have hg0 : (ins.map blV)[0]? = some (blV ins[0]) := by rw [List.getElem?_map, List.getElem?_eq_getElem h0]; rfl
    have he := el_flat (List.getElem_mem h0)
    refine ⟨0, rfl, by rw [List.length_map]; exact h0, ?_⟩
    conv => whnf
    refine ⟨_, hg0, ?_⟩
    refine ⟨ins[0], rfl, by omega, ?_⟩
    repeat' (first | exact True.intro | refine ⟨_, LeL.refl _, ?_⟩ | refine ⟨_, _, _, LeL.refl _, ?_⟩ | (refine fun (b : Bool) hb => ?_; cases b <;> (first | exact absurd hb (by decide) | exact Bool.noConfusion (show true = false from hb) | exact Bool.noConfusion (show false = true from hb) | skip)) | (refine fun (hl : _ ≤ MAXL) => ?_) | refine And.intro (a := I64 _) ?_ ?_ | refine And.intro (a := _ ≤ 140737488355328) ?_ ?_ | refine ⟨_, ⟨rfl, rfl⟩, ?_⟩ | refine ⟨_, And.intro (a := I64 _) ?_ ⟨rfl, rfl⟩, ?_⟩ | refine ⟨_, _, ⟨rfl, rfl⟩, ?_⟩ | refine ⟨_, (fun _ => ⟨rfl, rfl⟩), ?_⟩ | refine And.intro (a := chkPend _ _ _ _ _ _) ?_ ?_ | refine And.intro (a := chkPast _ _ _ _ _ _ _ _) ?_ ?_ | refine ⟨⟨rfl, rfl⟩, ?_⟩ | refine And.intro (And.intro rfl rfl) ?_ | refine ⟨True.intro, ?_⟩ | refine ⟨_, ⟨_, rfl, ?_, rfl, rfl, rfl⟩, ?_⟩ | refine ⟨_, rfl, ?_, rfl, ?_⟩ | refine ⟨_, (fun _ => rfl), rfl, ?_⟩ | refine ⟨(fun _ => rfl), ?_⟩ | refine ⟨rfl, ?_⟩ | refine Opt.a ?_ | fail)
    conv => whnf
    refine hK _ ?_
    rw [List.getD_eq_getElem?_getD, List.getElem?_eq_getElem h0]
    rfl
  · have h : (j : Int) < (N[out.length].ins.length : Int) := of_decide_eq_true (by assumption)
    show j < N[out.length].ins.length
    omega
  have hjl : j < N[out.length].ins.length := by
    have h : (j : Int) < (N[out.length].ins.length : Int) := of_decide_eq_true (by assumption)
    omega
  obtain ⟨k, o, hk, ho, hko, hol⟩ := hpo _ (List.getElem_mem hjl)
  have hgk : (out.map llV)[k]? = some (llV out[k]) := by rw [List.getElem?_map, List.getElem?_eq_getElem hko]; rfl
  have hpa : portAt out N[out.length].ins[j] = out[k][o] := by
    unfold portAt
    rw [hk, ho, Int.toNat_natCast, Int.toNat_natCast, List.getD_eq_getElem?_getD, List.getD_eq_getElem?_getD, List.getElem?_eq_getElem hko]
    show (out[k][o]?).getD [] = _
    rw [List.getElem?_eq_getElem hol]
    rfl
  conv => whnf
  refine ⟨_, ⟨rfl, k, hk, by rw [List.length_map]; exact hko, ⟨rfl, rfl⟩⟩, ?_⟩
  repeat' (first | exact True.intro | refine ⟨_, LeL.refl _, ?_⟩ | refine ⟨_, _, _, LeL.refl _, ?_⟩ | (refine fun (b : Bool) hb => ?_; cases b <;> (first | exact absurd hb (by decide) | exact Bool.noConfusion (show true = false from hb) | exact Bool.noConfusion (show false = true from hb) | skip)) | (refine fun (hl : _ ≤ MAXL) => ?_) | refine And.intro (a := I64 _) ?_ ?_ | refine And.intro (a := _ ≤ 140737488355328) ?_ ?_ | refine ⟨_, ⟨rfl, rfl⟩, ?_⟩ | refine ⟨_, And.intro (a := I64 _) ?_ ⟨rfl, rfl⟩, ?_⟩ | refine ⟨_, _, ⟨rfl, rfl⟩, ?_⟩ | refine ⟨_, (fun _ => ⟨rfl, rfl⟩), ?_⟩ | refine And.intro (a := chkPend _ _ _ _ _ _) ?_ ?_ | refine And.intro (a := chkPast _ _ _ _ _ _ _ _) ?_ ?_ | refine ⟨⟨rfl, rfl⟩, ?_⟩ | refine And.intro (And.intro rfl rfl) ?_ | refine ⟨True.intro, ?_⟩ | refine ⟨_, ⟨_, rfl, ?_, rfl, rfl, rfl⟩, ?_⟩ | refine ⟨_, rfl, ?_, rfl, ?_⟩ | refine ⟨_, (fun _ => rfl), rfl, ?_⟩ | refine ⟨(fun _ => rfl), ?_⟩ | refine ⟨rfl, ?_⟩ | refine Opt.a ?_ | fail)
  conv => whnf
  refine ⟨_, ⟨_, hgk, ⟨rfl, rfl⟩⟩, ?_⟩
  repeat' (first | exact True.intro | refine ⟨_, LeL.refl _, ?_⟩ | refine ⟨_, _, _, LeL.refl _, ?_⟩ | (refine fun (b : Bool) hb => ?_; cases b <;> (first | exact absurd hb (by decide) | exact Bool.noConfusion (show true = false from hb) | exact Bool.noConfusion (show false = true from hb) | skip)) | (refine fun (hl : _ ≤ MAXL) => ?_) | refine And.intro (a := I64 _) ?_ ?_ | refine And.intro (a := _ ≤ 140737488355328) ?_ ?_ | refine ⟨_, ⟨rfl, rfl⟩, ?_⟩ | refine ⟨_, And.intro (a := I64 _) ?_ ⟨rfl, rfl⟩, ?_⟩ | refine ⟨_, _, ⟨rfl, rfl⟩, ?_⟩ | refine ⟨_, (fun _ => ⟨rfl, rfl⟩), ?_⟩ | refine And.intro (a := chkPend _ _ _ _ _ _) ?_ ?_ | refine And.intro (a := chkPast _ _ _ _ _ _ _ _) ?_ ?_ | refine ⟨⟨rfl, rfl⟩, ?_⟩ | refine And.intro (And.intro rfl rfl) ?_ | refine ⟨True.intro, ?_⟩ | refine ⟨_, ⟨_, rfl, ?_, rfl, rfl, rfl⟩, ?_⟩ | refine ⟨_, rfl, ?_, rfl, ?_⟩ | refine ⟨_, (fun _ => rfl), rfl, ?_⟩ | refine ⟨(fun _ => rfl), ?_⟩ | refine ⟨rfl, ?_⟩ | refine Opt.a ?_ | fail)
  conv => whnf
  refine ⟨_, ⟨o, ho, hol, rfl, rfl, rfl⟩, ?_⟩
  repeat' (first | exact True.intro | refine ⟨_, LeL.refl _, ?_⟩ | refine ⟨_, _, _, LeL.refl _, ?_⟩ | (refine fun (b : Bool) hb => ?_; cases b <;> (first | exact absurd hb (by decide) | exact Bool.noConfusion (show true = false from hb) | exact Bool.noConfusion (show false = true from hb) | skip)) | (refine fun (hl : _ ≤ MAXL) => ?_) | refine And.intro (a := I64 _) ?_ ?_ | refine And.intro (a := _ ≤ 140737488355328) ?_ ?_ | refine ⟨_, ⟨rfl, rfl⟩, ?_⟩ | refine ⟨_, And.intro (a := I64 _) ?_ ⟨rfl, rfl⟩, ?_⟩ | refine ⟨_, _, ⟨rfl, rfl⟩, ?_⟩ | refine ⟨_, (fun _ => ⟨rfl, rfl⟩), ?_⟩ | refine And.intro (a := chkPend _ _ _ _ _ _) ?_ ?_ | refine And.intro (a := chkPast _ _ _ _ _ _ _ _) ?_ ?_ | refine ⟨⟨rfl, rfl⟩, ?_⟩ | refine And.intro (And.intro rfl rfl) ?_ | refine ⟨True.intro, ?_⟩ | refine ⟨_, ⟨_, rfl, ?_, rfl, rfl, rfl⟩, ?_⟩ | refine ⟨_, rfl, ?_, rfl, ?_⟩ | refine ⟨_, (fun _ => rfl), rfl, ?_⟩ | refine ⟨(fun _ => rfl), ?_⟩ | refine ⟨rfl, ?_⟩ | refine Opt.a ?_ | fail)
  conv => whnf
  refine ⟨_, ⟨Bs, blV, [out[k][o]], LeL.refl _, rfl, rfl⟩, ?_⟩
  refine ⟨_, _, ⟨fun _ => rfl, ?_, rfl, rfl⟩, ?_⟩
  · show ((ins.map blV).length + ([out[k][o]].map blV).length) * 24 ≤ 140737488355328
    rw [List.length_map, List.length_map, List.length_singleton, hin]
    have h2 : (insOf out (N[out.length].ins.take j)).length ≤ N[out.length].ins.length := by
      unfold insOf
      rw [List.length_map, List.length_take]
      omega
    omega
  repeat' (first | exact True.intro | refine ⟨_, LeL.refl _, ?_⟩ | refine ⟨_, _, _, LeL.refl _, ?_⟩ | (refine fun (b : Bool) hb => ?_; cases b <;> (first | exact absurd hb (by decide) | exact Bool.noConfusion (show true = false from hb) | exact Bool.noConfusion (show false = true from hb) | skip)) | (refine fun (hl : _ ≤ MAXL) => ?_) | refine And.intro (a := I64 _) ?_ ?_ | refine And.intro (a := _ ≤ 140737488355328) ?_ ?_ | refine ⟨_, ⟨rfl, rfl⟩, ?_⟩ | refine ⟨_, And.intro (a := I64 _) ?_ ⟨rfl, rfl⟩, ?_⟩ | refine ⟨_, _, ⟨rfl, rfl⟩, ?_⟩ | refine ⟨_, (fun _ => ⟨rfl, rfl⟩), ?_⟩ | refine And.intro (a := chkPend _ _ _ _ _ _) ?_ ?_ | refine And.intro (a := chkPast _ _ _ _ _ _ _ _) ?_ ?_ | refine ⟨⟨rfl, rfl⟩, ?_⟩ | refine And.intro (And.intro rfl rfl) ?_ | refine ⟨True.intro, ?_⟩ | refine ⟨_, ⟨_, rfl, ?_, rfl, rfl, rfl⟩, ?_⟩ | refine ⟨_, rfl, ?_, rfl, ?_⟩ | refine ⟨_, (fun _ => rfl), rfl, ?_⟩ | refine ⟨(fun _ => rfl), ?_⟩ | refine ⟨rfl, ?_⟩ | refine Opt.a ?_ | fail)
  · unfold I64; (try dsimp only); omega
  conv => whnf
  refine ⟨(j + 1, ins ++ [out[k][o]]), ?_, ⟨hjl, ?_⟩, by show N[out.length].ins.length - (j + 1) < N[out.length].ins.length - j; omega⟩
  · (refine wk_auto ?_; refine Sel4.mk rfl rfl ?_ ?_ <;> (repeat' (first | exact True.intro | exact rfl | exact Or.inl rfl | exact Or.inr rfl | refine And.intro ?_ ?_ | fail)))
    show Row.row 1 _ = Row.row 1 _
    rw [List.map_append]
  · show ins ++ [out[k][o]] = insOf out (N[out.length].ins.take (j + 1))
    rw [List.take_succ_eq_append_getElem hjl, hin]
    unfold insOf
    rw [List.map_append, List.map_singleton, hpa]
end Gv
namespace Gv
variable [Glob] [Laid]
theorem equalB_ca : callable Tryz.prog 24 = true := by kernel_rfl
def equalB_S : Spec := fun args K => ∃ a b : List UInt8, args = [.sl byteV a, .sl byteV b] ∧ K (.bool (decide (a = b)))
noncomputable def equalB_lib : List (Nat × Spec) := []
noncomputable def equalB_fns : List (Nat × FnI) := []
noncomputable def equalB_prims : List (Nat × PSpec) := []
theorem equalB_E : EnvOK ⟨Tryz.prog, tys, equalB_lib, equalB_fns, equalB_prims, []⟩ := env_ok mixed0 tys0 .nil .nil .nil rfl
set_option maxHeartbeats 4000000 in
theorem equalB_ok : Pure Tryz.prog 24 equalB_S := by
  refine pure_by equalB_E 6 (fi := {fn := Tryz.f24, hooks := [], draws := [(6, [0, 0, 3, 7, 0, 0, 48, 112, 255])]}) ⟨Tryz.func24, by kernel_rfl, by kernel_rfl⟩ ?_
  rintro _ K ⟨x, y, rfl, hK⟩
  replace hK : ∀ r, r = .bool (decide (x = y)) → K r := fun r h => h ▸ hK
  repeat' (first | exact True.intro | refine ⟨_, LeL.refl _, ?_⟩ | refine ⟨_, _, _, LeL.refl _, ?_⟩ | (refine fun (b : Bool) hb => ?_; cases b <;> (first | exact absurd hb (by decide) | exact Bool.noConfusion (show true = false from hb) | exact Bool.noConfusion (show false = true from hb) | skip)) | (refine fun (hl : _ ≤ MAXL) => ?_) | refine And.intro (a := I64 _) ?_ ?_ | refine And.intro (a := _ ≤ 140737488355328) ?_ ?_ | refine ⟨_, ⟨rfl, rfl⟩, ?_⟩ | refine ⟨_, And.intro (a := I64 _) ?_ ⟨rfl, rfl⟩, ?_⟩ | refine ⟨_, _, ⟨rfl, rfl⟩, ?_⟩ | refine ⟨_, (fun _ => ⟨rfl, rfl⟩), ?_⟩ | refine And.intro (a := chkPend _ _ _ _ _ _) ?_ ?_ | refine And.intro (a := chkPast _ _ _ _ _ _ _ _) ?_ ?_ | refine ⟨⟨rfl, rfl⟩, ?_⟩ | refine And.intro (And.intro rfl rfl) ?_ | refine ⟨True.intro, ?_⟩ | refine ⟨_, ⟨_, rfl, ?_, rfl, rfl, rfl⟩, ?_⟩ | refine ⟨_, rfl, ?_, rfl, ?_⟩ | refine ⟨_, (fun _ => rfl), rfl, ?_⟩ | refine ⟨(fun _ => rfl), ?_⟩ | refine ⟨rfl, ?_⟩ | refine Opt.a ?_ | fail)
  rotate_left
  · refine hK _ ?_
    congr 1
    grind
  conv => whnf
  refine loop_intro (σ := Nat) (fun i => [(0, .sl byteV x), (1, .sl byteV y), (12, .int .i64 x.length), (13, .int .i64 i), (4, .lit false)]) (fun _ => []) (fun i => i ≤ x.length ∧ x.take i = y.take i) (fun i => x.length - i) 0 (wk_sel [] rfl rfl trivial ?_) ⟨Nat.zero_le _, rfl⟩ ?_
  · (repeat' (first | exact True.intro | exact rfl | exact Or.inl rfl | exact Or.inr rfl | refine And.intro ?_ ?_ | fail))
  intro i ⟨hi, hI⟩
  repeat' (first | exact True.intro | refine ⟨_, LeL.refl _, ?_⟩ | refine ⟨_, _, _, LeL.refl _, ?_⟩ | (refine fun (b : Bool) hb => ?_; cases b <;> (first | exact absurd hb (by decide) | exact Bool.noConfusion (show true = false from hb) | exact Bool.noConfusion (show false = true from hb) | skip)) | (refine fun (hl : _ ≤ MAXL) => ?_) | refine And.intro (a := I64 _) ?_ ?_ | refine And.intro (a := _ ≤ 140737488355328) ?_ ?_ | refine ⟨_, ⟨rfl, rfl⟩, ?_⟩ | refine ⟨_, And.intro (a := I64 _) ?_ ⟨rfl, rfl⟩, ?_⟩ | refine ⟨_, _, ⟨rfl, rfl⟩, ?_⟩ | refine ⟨_, (fun _ => ⟨rfl, rfl⟩), ?_⟩ | refine And.intro (a := chkPend _ _ _ _ _ _) ?_ ?_ | refine And.intro (a := chkPast _ _ _ _ _ _ _ _) ?_ ?_ | refine ⟨⟨rfl, rfl⟩, ?_⟩ | refine And.intro (And.intro rfl rfl) ?_ | refine ⟨True.intro, ?_⟩ | refine ⟨_, ⟨_, rfl, ?_, rfl, rfl, rfl⟩, ?_⟩ | refine ⟨_, rfl, ?_, rfl, ?_⟩ | refine ⟨_, (fun _ => rfl), rfl, ?_⟩ | refine ⟨(fun _ => rfl), ?_⟩ | refine ⟨rfl, ?_⟩ | refine Opt.a ?_ | fail)
  · refine hK _ ?_
    congr 1
    have e : x = y := by
      have h1 : x.take i = x := List.take_of_length_le (by grind)
      have h2 : y.take i = y := List.take_of_length_le (by grind)
      rw [← h1, ← h2, hI]
    simp [e]
  · grind
  · grind
  · unfold I64; grind
  · refine ⟨i + 1, ?_, ⟨?_, ?_⟩, ?_⟩
    · refine wk_sel [] rfl rfl trivial ?_
      (repeat' (first | exact True.intro | exact rfl | exact Or.inl rfl | exact Or.inr rfl | refine And.intro ?_ ?_ | fail))
    · grind
    · have g1 : i < x.length := by grind
      have g2 : i < y.length := by grind
      rw [List.take_succ_eq_append_getElem g1, List.take_succ_eq_append_getElem g2, hI]
      have e : x[i].toNat = y[i].toNat := by grind
      rw [UInt8.toNat_inj.1 e]
    · grind
  · refine hK _ ?_
    congr 1
    grind
end Gv
namespace Gv
variable [Glob] [Laid] [Nums] [Errs]
theorem same_law {l : LineS} {w : Int} (hc : checkLine l = 0) (h5 : 1 ≤ w ∧ w ≤ 5) (F : List FileS) : checkG (planNodes l w) = 0 ∧ ((evalG (planNodes l w) F).2 = (shellLine F l).2 ∨ (evalG (planNodes l w) F).2 = 0) ∧ ((shellLine F l).2 = 0 → evalG (planNodes l w) F = ((shellLine F l).1, 0)) := by
  obtain ⟨h1, v, h2, h3⟩ := plan_makes hc h5 F
  refine ⟨h1, ?_⟩
  have ev : evalG (planNodes l w) F = if checkFiles F ≠ 0 then ([], checkFiles F) else evalGo F (planNodes l w) [] := by unfold evalG; rw [if_neg (fun h => h h1)]
  have sl : shellLine F l = if (gatherS F l.frm).2 ≠ 0 then ([], (gatherS F l.frm).2) else lineBytes (doLines l.cmds (linesOf (gatherS F l.frm).1)) := by unfold shellLine; rw [if_neg (fun h => h hc)]
  rw [ev, sl]
  have hgs : gatherS F l.frm = if checkFiles F ≠ 0 then ([], checkFiles F) else if 4 < l.frm.length then ([], 2) else gatherGo F [] l.frm := rfl
  by_cases hf : checkFiles F = 0
  · rw [if_neg (fun h => h hf), h2]
    refine ⟨.inr rfl, ?_⟩
    split
    · rename_i e
      intro h
      exact absurd h e
    · rename_i e
      have e := Decidable.not_not.1 e
      intro h
      have hl := gatherS_len F l.frm
      have hfl : ¬ 4 < l.frm.length := by
        intro h4
        rw [hgs, if_neg (by simp [hf]), if_pos h4] at e
        cases e
      have hgg : gatherS F l.frm = gatherGo F (put []) l.frm := by rw [hgs, if_neg (by simp [hf]), if_neg hfl]; rfl
      obtain ⟨g, hg⟩ : ∃ g, gatherS F l.frm = (g, 0) := ⟨_, Prod.ext rfl e⟩
      rw [hg] at hl h ⊢
      rw [hgg] at hg
      have hgo := gatherGo_ok _ _ hg
      rw [List.nil_append] at hgo
      have hno : NoNl (l.frm.map fun s => linesOf (fileAt F s)).flatten := noNl_flat fun a ha => by
        obtain ⟨b, -, rfl⟩ := List.mem_map.1 ha
        exact linesOf_no10 _
      have hpl := put_len (l := (l.frm.map fun s => linesOf (fileAt F s)).flatten) (n := 4000) (by rw [← hgo]; exact hl)
      have hv := h3 hpl
      dsimp only at h ⊢
      rw [hgo, linesOf_put hno] at h ⊢
      unfold lineBytes at h ⊢
      split at h
      · rename_i hz
        rw [if_pos hz, hv]
      · rename_i hz
        exact absurd h hz
  · rw [if_pos hf]
    have hg2 : gatherS F l.frm = ([], checkFiles F) := by rw [hgs, if_pos hf]
    rw [hg2]
    rw [if_pos hf]
    exact ⟨.inl rfl, fun h => absurd h hf⟩
theorem oSame_ca : callable Tryz.prog 12 = true := by kernel_rfl
def oSame_S : Spec := fun args K => ∃ (f : List Bs) (c : List Cmd) (t : Bs) (w : Int) (F : List FileS), args = [.agg [.sl strV f, .sl cmdV c, .str t], .int .i64 w, .sl fileV F] ∧ K (.bool true)
noncomputable def oSame_lib : List (Nat × Spec) := [(76, plan_S), (77, planned_S), (78, checkG_S), (47, lineF_S), (69, evalG_S), (24, equalB_S)]
noncomputable def oSame_fns : List (Nat × FnI) := []
noncomputable def oSame_prims : List (Nat × PSpec) := []
theorem oSame_E : EnvOK ⟨Tryz.prog, tys, oSame_lib, oSame_fns, oSame_prims, []⟩ := env_ok mixed0 tys0 (.cons plan_ca plan_ok (.cons planned_ca planned_ok (.cons checkG_ca checkG_ok (.cons lineF_ca lineF_ok (.cons evalG_ca evalG_ok (.cons equalB_ca equalB_ok .nil)))))) .nil .nil rfl
set_option maxHeartbeats 16000000 in
theorem oSame_ok : Pure Tryz.prog 12 oSame_S := by
  refine pure_by oSame_E 6 (fi := {fn := Tryz.f12, hooks := [], draws := []}) ⟨Tryz.func12, by kernel_rfl, by kernel_rfl⟩ ?_
  rintro _ K ⟨f, c, t, w, F, rfl, hK⟩
  replace hK : ∀ r, r = .bool true → K r := fun r h => h ▸ hK
  obtain ⟨r, hr⟩ : ∃ r, plan ⟨f, c, t⟩ w = r := ⟨_, rfl⟩
  refine ⟨f, c, t, w, rfl, ?_⟩
  rw [hr]
  repeat' (first | exact True.intro | refine ⟨_, LeL.refl _, ?_⟩ | refine ⟨_, _, _, LeL.refl _, ?_⟩ | (refine fun (b : Bool) hb => ?_; cases b <;> (first | exact absurd hb (by decide) | exact Bool.noConfusion (show true = false from hb) | exact Bool.noConfusion (show false = true from hb) | skip)) | (refine fun (hl : _ ≤ MAXL) => ?_) | refine And.intro (a := I64 _) ?_ ?_ | refine And.intro (a := _ ≤ 140737488355328) ?_ ?_ | refine ⟨_, ⟨rfl, rfl⟩, ?_⟩ | refine ⟨_, And.intro (a := I64 _) ?_ ⟨rfl, rfl⟩, ?_⟩ | refine ⟨_, _, ⟨rfl, rfl⟩, ?_⟩ | refine ⟨_, (fun _ => ⟨rfl, rfl⟩), ?_⟩ | refine And.intro (a := chkPend _ _ _ _ _ _) ?_ ?_ | refine And.intro (a := chkPast _ _ _ _ _ _ _ _) ?_ ?_ | refine ⟨⟨rfl, rfl⟩, ?_⟩ | refine And.intro (And.intro rfl rfl) ?_ | refine ⟨True.intro, ?_⟩ | refine ⟨_, ⟨_, rfl, ?_, rfl, rfl, rfl⟩, ?_⟩ | refine ⟨_, rfl, ?_, rfl, ?_⟩ | refine ⟨_, (fun _ => rfl), rfl, ?_⟩ | refine ⟨(fun _ => rfl), ?_⟩ | refine ⟨rfl, ?_⟩ | refine Opt.a ?_ | fail)
  rotate_left
  · conv => whnf
    exact hK _ rfl
  have h0 : r.2 = 0 := by simpa using (by assumption : (!decide (r.2 = 0)) = false)
  obtain ⟨hc, h5, hN⟩ : checkLine ⟨f, c, t⟩ = 0 ∧ (1 ≤ w ∧ w ≤ 5) ∧ r = (planNodes ⟨f, c, t⟩ w, 0) := by
    unfold plan at hr
    split at hr
    · rename_i h1
      rw [← hr] at h0
      exact absurd h0 h1
    · rename_i h1
      split at hr
      · rw [← hr] at h0
        exact absurd h0 (show ¬ (3 : Int) = 0 by decide)
      · exact ⟨Decidable.not_not.1 h1, by omega, hr.symm⟩
  subst hN
  obtain ⟨l1, l2, l3⟩ := same_law hc h5 F
  obtain ⟨x, hx⟩ : ∃ x, shellLine F ⟨f, c, t⟩ = x := ⟨_, rfl⟩
  obtain ⟨y, hy⟩ : ∃ y, evalG (planNodes ⟨f, c, t⟩ w) F = y := ⟨_, rfl⟩
  rw [hx, hy] at l2 l3
  conv => whnf
  refine ⟨planNodes ⟨f, c, t⟩ w, rfl, ?_⟩
  rw [l1]
  repeat' (first | exact True.intro | refine ⟨_, LeL.refl _, ?_⟩ | refine ⟨_, _, _, LeL.refl _, ?_⟩ | (refine fun (b : Bool) hb => ?_; cases b <;> (first | exact absurd hb (by decide) | exact Bool.noConfusion (show true = false from hb) | exact Bool.noConfusion (show false = true from hb) | skip)) | (refine fun (hl : _ ≤ MAXL) => ?_) | refine And.intro (a := I64 _) ?_ ?_ | refine And.intro (a := _ ≤ 140737488355328) ?_ ?_ | refine ⟨_, ⟨rfl, rfl⟩, ?_⟩ | refine ⟨_, And.intro (a := I64 _) ?_ ⟨rfl, rfl⟩, ?_⟩ | refine ⟨_, _, ⟨rfl, rfl⟩, ?_⟩ | refine ⟨_, (fun _ => ⟨rfl, rfl⟩), ?_⟩ | refine And.intro (a := chkPend _ _ _ _ _ _) ?_ ?_ | refine And.intro (a := chkPast _ _ _ _ _ _ _ _) ?_ ?_ | refine ⟨⟨rfl, rfl⟩, ?_⟩ | refine And.intro (And.intro rfl rfl) ?_ | refine ⟨True.intro, ?_⟩ | refine ⟨_, ⟨_, rfl, ?_, rfl, rfl, rfl⟩, ?_⟩ | refine ⟨_, rfl, ?_, rfl, ?_⟩ | refine ⟨_, (fun _ => rfl), rfl, ?_⟩ | refine ⟨(fun _ => rfl), ?_⟩ | refine ⟨rfl, ?_⟩ | refine Opt.a ?_ | fail)
  conv => whnf
  refine ⟨F, f, c, t, rfl, ?_⟩
  rw [hx]
  repeat' (first | exact True.intro | refine ⟨_, LeL.refl _, ?_⟩ | refine ⟨_, _, _, LeL.refl _, ?_⟩ | (refine fun (b : Bool) hb => ?_; cases b <;> (first | exact absurd hb (by decide) | exact Bool.noConfusion (show true = false from hb) | exact Bool.noConfusion (show false = true from hb) | skip)) | (refine fun (hl : _ ≤ MAXL) => ?_) | refine And.intro (a := I64 _) ?_ ?_ | refine And.intro (a := _ ≤ 140737488355328) ?_ ?_ | refine ⟨_, ⟨rfl, rfl⟩, ?_⟩ | refine ⟨_, And.intro (a := I64 _) ?_ ⟨rfl, rfl⟩, ?_⟩ | refine ⟨_, _, ⟨rfl, rfl⟩, ?_⟩ | refine ⟨_, (fun _ => ⟨rfl, rfl⟩), ?_⟩ | refine And.intro (a := chkPend _ _ _ _ _ _) ?_ ?_ | refine And.intro (a := chkPast _ _ _ _ _ _ _ _) ?_ ?_ | refine ⟨⟨rfl, rfl⟩, ?_⟩ | refine And.intro (And.intro rfl rfl) ?_ | refine ⟨True.intro, ?_⟩ | refine ⟨_, ⟨_, rfl, ?_, rfl, rfl, rfl⟩, ?_⟩ | refine ⟨_, rfl, ?_, rfl, ?_⟩ | refine ⟨_, (fun _ => rfl), rfl, ?_⟩ | refine ⟨(fun _ => rfl), ?_⟩ | refine ⟨rfl, ?_⟩ | refine Opt.a ?_ | fail)
  conv => whnf
  refine ⟨planNodes ⟨f, c, t⟩ w, F, rfl, ?_⟩
  rw [hy]
  repeat' (first | exact True.intro | refine ⟨_, LeL.refl _, ?_⟩ | refine ⟨_, _, _, LeL.refl _, ?_⟩ | (refine fun (b : Bool) hb => ?_; cases b <;> (first | exact absurd hb (by decide) | exact Bool.noConfusion (show true = false from hb) | exact Bool.noConfusion (show false = true from hb) | skip)) | (refine fun (hl : _ ≤ MAXL) => ?_) | refine And.intro (a := I64 _) ?_ ?_ | refine And.intro (a := _ ≤ 140737488355328) ?_ ?_ | refine ⟨_, ⟨rfl, rfl⟩, ?_⟩ | refine ⟨_, And.intro (a := I64 _) ?_ ⟨rfl, rfl⟩, ?_⟩ | refine ⟨_, _, ⟨rfl, rfl⟩, ?_⟩ | refine ⟨_, (fun _ => ⟨rfl, rfl⟩), ?_⟩ | refine And.intro (a := chkPend _ _ _ _ _ _) ?_ ?_ | refine And.intro (a := chkPast _ _ _ _ _ _ _ _) ?_ ?_ | refine ⟨⟨rfl, rfl⟩, ?_⟩ | refine And.intro (And.intro rfl rfl) ?_ | refine ⟨True.intro, ?_⟩ | refine ⟨_, ⟨_, rfl, ?_, rfl, rfl, rfl⟩, ?_⟩ | refine ⟨_, rfl, ?_, rfl, ?_⟩ | refine ⟨_, (fun _ => rfl), rfl, ?_⟩ | refine ⟨(fun _ => rfl), ?_⟩ | refine ⟨rfl, ?_⟩ | refine Opt.a ?_ | fail)
  · have hx0 : x.2 = 0 := by simpa using (by assumption : (!decide (x.2 = 0)) = false)
    have hyx := l3 hx0
    have hyn : ¬ y.2 = 0 := of_decide_eq_false (by assumption)
    rw [hyx] at hyn
    exact absurd rfl hyn
  · have hx0 : x.2 = 0 := by simpa using (by assumption : (!decide (x.2 = 0)) = false)
    have hyx := l3 hx0
    have hy1 : y.1 = x.1 := by rw [hyx]
    conv => whnf
    refine ⟨x.1, y.1, rfl, ?_⟩
    rw [decide_eq_true hy1.symm]
    repeat' (first | exact True.intro | refine ⟨_, LeL.refl _, ?_⟩ | refine ⟨_, _, _, LeL.refl _, ?_⟩ | (refine fun (b : Bool) hb => ?_; cases b <;> (first | exact absurd hb (by decide) | exact Bool.noConfusion (show true = false from hb) | exact Bool.noConfusion (show false = true from hb) | skip)) | (refine fun (hl : _ ≤ MAXL) => ?_) | refine And.intro (a := I64 _) ?_ ?_ | refine And.intro (a := _ ≤ 140737488355328) ?_ ?_ | refine ⟨_, ⟨rfl, rfl⟩, ?_⟩ | refine ⟨_, And.intro (a := I64 _) ?_ ⟨rfl, rfl⟩, ?_⟩ | refine ⟨_, _, ⟨rfl, rfl⟩, ?_⟩ | refine ⟨_, (fun _ => ⟨rfl, rfl⟩), ?_⟩ | refine And.intro (a := chkPend _ _ _ _ _ _) ?_ ?_ | refine And.intro (a := chkPast _ _ _ _ _ _ _ _) ?_ ?_ | refine ⟨⟨rfl, rfl⟩, ?_⟩ | refine And.intro (And.intro rfl rfl) ?_ | refine ⟨True.intro, ?_⟩ | refine ⟨_, ⟨_, rfl, ?_, rfl, rfl, rfl⟩, ?_⟩ | refine ⟨_, rfl, ?_, rfl, ?_⟩ | refine ⟨_, (fun _ => rfl), rfl, ?_⟩ | refine ⟨(fun _ => rfl), ?_⟩ | refine ⟨rfl, ?_⟩ | refine Opt.a ?_ | fail)
    exact hK _ rfl
  · have hyn : ¬ y.2 = x.2 := of_decide_eq_false (by assumption)
    have hy0 : y.2 = 0 := l2.resolve_left hyn
    conv => whnf
    refine hK _ ?_
    rw [decide_eq_true hy0]
  · conv => whnf
    exact hK _ rfl
end Gv
namespace Gv
variable [Glob] [Laid]
theorem opn_cmd : Opn Tryz.prog 48 cmdV (fun _ => True) := ⟨fun en w fuel cs d p h hw => by
  have hl : cs.length = 3 := (opn_width Tryz.underlying48 h).trans (by kernel_rfl)
  obtain ⟨k, _, f1⟩ := opn_field 0 0 1 (T := 3) Tryz.underlying48 rfl rfl rfl (by kernel_rfl) (opn_int Tryz.underlying3) h hw
  obtain ⟨s, _, f2⟩ := opn_field 1 1 1 (T := 9) Tryz.underlying48 rfl rfl rfl (by kernel_rfl) (opn_str Tryz.underlying9) h hw
  obtain ⟨n, _, f3⟩ := opn_field 2 2 1 (T := 3) Tryz.underlying48 rfl rfl rfl (by kernel_rfl) (opn_int Tryz.underlying3) h hw
  have := Fit.cons 0 1 f1 rfl (Fit.cons 1 2 f2 rfl (Fit.cons 2 3 f3 rfl (Fit.last 3 hl)))
  rw [List.drop_zero] at this
  exact ⟨⟨k, s, n⟩, trivial, this⟩⟩
end Gv
namespace Gv
variable [Glob] [Laid]
/-! lines of a script, handed in -/
def lineCells (l : LineS) : List V := [.sl strV l.frm, .sl cmdV l.cmds, .str l.to]
theorem opn_line : Opn Tryz.prog 27 (fun l => .agg (lineCells l)) (fun _ => True) := ⟨fun en w fuel cs d p h hw => by
  have hl : cs.length = 3 := (opn_width Tryz.underlying27 h).trans (by kernel_rfl)
  obtain ⟨k, _, f1⟩ := opn_field 0 0 1 (T := 24) Tryz.underlying27 rfl rfl rfl (by kernel_rfl) (opn_slice (k := 1) Tryz.underlying24 (by kernel_rfl) (by omega) (opn_str Tryz.underlying9)) h hw
  obtain ⟨s, _, f2⟩ := opn_field 1 1 1 (T := 25) Tryz.underlying27 rfl rfl rfl (by kernel_rfl) (opn_slice (k := 3) Tryz.underlying25 (by kernel_rfl) (by omega) opn_cmd) h hw
  obtain ⟨n, _, f3⟩ := opn_field 2 2 1 (T := 9) Tryz.underlying27 rfl rfl rfl (by kernel_rfl) (opn_str Tryz.underlying9) h hw
  have := Fit.cons 0 1 f1 rfl (Fit.cons 1 2 f2 rfl (Fit.cons 2 3 f3 rfl (Fit.last 3 hl)))
  rw [List.drop_zero] at this
  exact ⟨⟨k, s, n⟩, trivial, this⟩⟩
end Gv
namespace Gv
variable [Glob] [Laid]
theorem opn_port : Opn Tryz.prog 173 portV (fun _ => True) := ⟨fun en w fuel cs d p h hw => by
  have hl : cs.length = 2 := (opn_width Tryz.underlying173 h).trans (by kernel_rfl)
  obtain ⟨k, _, f1⟩ := opn_field 0 0 1 (T := 3) Tryz.underlying173 rfl rfl rfl (by kernel_rfl) (opn_int Tryz.underlying3) h hw
  obtain ⟨n, _, f3⟩ := opn_field 1 1 1 (T := 3) Tryz.underlying173 rfl rfl rfl (by kernel_rfl) (opn_int Tryz.underlying3) h hw
  have := Fit.cons 0 1 f1 rfl (Fit.cons 1 2 f3 rfl (Fit.last 2 hl))
  rw [List.drop_zero] at this
  exact ⟨⟨k, n⟩, trivial, this⟩⟩
theorem opn_node : Opn Tryz.prog 99 nodeV (fun _ => True) := ⟨fun en w fuel cs d p h hw => by
  have hl : cs.length = 8 := (opn_width Tryz.underlying99 h).trans (by kernel_rfl)
  obtain ⟨k, _, f1⟩ := opn_field 0 0 1 (T := 3) Tryz.underlying99 rfl rfl rfl (by kernel_rfl) (opn_int Tryz.underlying3) h hw
  obtain ⟨s, _, f2⟩ := opn_field 1 1 1 (T := 9) Tryz.underlying99 rfl rfl rfl (by kernel_rfl) (opn_str Tryz.underlying9) h hw
  obtain ⟨c, _, f3⟩ := opn_field 2 2 3 (T := 48) Tryz.underlying99 rfl rfl rfl (by kernel_rfl) opn_cmd h hw
  obtain ⟨ho, _, f4⟩ := opn_field 3 5 1 (T := 3) Tryz.underlying99 rfl rfl rfl (by kernel_rfl) (opn_int Tryz.underlying3) h hw
  obtain ⟨wi, _, f5⟩ := opn_field 4 6 1 (T := 3) Tryz.underlying99 rfl rfl rfl (by kernel_rfl) (opn_int Tryz.underlying3) h hw
  obtain ⟨n, _, f6⟩ := opn_field 5 7 1 (T := 97) Tryz.underlying99 rfl rfl rfl (by kernel_rfl) (opn_slice (k := 2) Tryz.underlying97 (by kernel_rfl) (by omega) opn_port) h hw
  have := Fit.cons 0 1 f1 rfl (Fit.cons 1 2 f2 rfl (Fit.cons 2 5 f3 rfl (Fit.cons 5 6 f4 rfl (Fit.cons 6 7 f5 rfl (Fit.cons 7 8 f6 rfl (Fit.last 8 hl))))))
  rw [List.drop_zero] at this
  exact ⟨⟨k, s, c, ho, wi, n⟩, trivial, this⟩⟩
theorem opn_graph : Opn Tryz.prog 94 (fun N : List Gp.Node => .agg [.sl nodeV N]) (fun _ => True) := ⟨fun en w fuel cs d p h hw => by
  have hl : cs.length = 1 := (opn_width Tryz.underlying94 h).trans (by kernel_rfl)
  obtain ⟨k, _, f1⟩ := opn_field 0 0 1 (T := 92) Tryz.underlying94 rfl rfl rfl (by kernel_rfl) (opn_slice (k := 8) Tryz.underlying92 (by kernel_rfl) (by omega) opn_node) h hw
  have := Fit.cons 0 1 f1 rfl (Fit.last 1 hl)
  rw [List.drop_zero] at this
  exact ⟨k, trivial, this⟩⟩
theorem opn_file : Opn Tryz.prog 67 fileV (fun _ => True) := ⟨fun en w fuel cs d p h hw => by
  have hl : cs.length = 2 := (opn_width Tryz.underlying67 h).trans (by kernel_rfl)
  obtain ⟨k, _, f1⟩ := opn_field 0 0 1 (T := 9) Tryz.underlying67 rfl rfl rfl (by kernel_rfl) (opn_str Tryz.underlying9) h hw
  obtain ⟨n, _, f3⟩ := opn_field 1 1 1 (T := 29) Tryz.underlying67 rfl rfl rfl (by kernel_rfl) (opn_slice (k := 1) Tryz.underlying29 (by kernel_rfl) (by omega) (opn_byte Tryz.underlying5)) h hw
  have := Fit.cons 0 1 f1 rfl (Fit.cons 1 2 f3 rfl (Fit.last 2 hl))
  rw [List.drop_zero] at this
  exact ⟨⟨k, n⟩, trivial, this⟩⟩
end Gv
namespace Gv
variable [Glob] [Laid] [Nums] [Errs]
def oSameT_S : Spec := fun args K => ∃ (l : LineS) (w : Int) (F : List FileS), args = [.agg (lineCells l), .int .i64 w, .sl fileV F] ∧ K (.bool true)
theorem oSameT_ok : Pure Tryz.prog 12 oSameT_S := by
  intro w m args us k a1 a2 a3 a4
  obtain ⟨l, n, F, rfl, a5⟩ := a4
  exact oSame_ok w m _ us k a1 a2 a3 ⟨l.frm, l.cmds, l.to, n, F, rfl, a5⟩
end Gv
