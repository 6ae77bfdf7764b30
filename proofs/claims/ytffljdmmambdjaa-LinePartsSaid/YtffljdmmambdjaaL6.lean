/- What functions of the program come to (L6): in every world; the conditions stand in each theorem. -/
import Derived.Test.YtffljdmmambdjaaL5
import Derived.Test.YtffljdmmambdjaaP1
import Derived.Test.YtffljdmmambdjaaVc
import Derived.Test.YtffljdmmambdjaaShTry
set_option linter.unusedVariables false
set_option linter.unusedSectionVars false
set_option linter.unusedSimpArgs false
open Go Go.Proofs Gw Gp
namespace Gv
variable [Glob]
/-! lines -/
theorem E6ok : EnvOK ⟨Try.prog, tys, [], [], [], []⟩ := env_ok mixed0 tys0 .nil .nil .nil rfl
theorem put_ca : callable Try.prog 53 = true := by kernel_rfl
def put_S : Spec := fun args K => ∃ l : List Bs, args = [.sl strV l] ∧ (put l).length ≤ 1000000 ∧ K (.sl byteV (put l))
theorem put_ok : Pure Try.prog 53 put_S := by
  refine pure_by E6ok 0 (fi := {fn := Try.f53, hooks := [], draws := []}) ⟨Try.func53, by kernel_rfl, by kernel_rfl⟩ ?_
  rintro _ K ⟨l, rfl, hb, hK⟩
  refine fun (hl : _ ≤ MAXL) => ?_
  conv => whnf
  refine loop_live [6, 7] (σ := Nat) (fun i => [(3, .own 0), (8, .int .i64 i)]) (fun i => [.row 1 ((put (l.take i)).map byteV)]) (fun i => i ≤ l.length) (fun i => l.length - i) 0 ?_
  conv => whnf
  refine ⟨(by (refine wk_sel [none] rfl rfl ?_ ?_ <;> (repeat' (first | exact True.intro | exact rfl | exact Or.inl rfl | exact Or.inr rfl | refine And.intro ?_ ?_ | fail)))), Nat.zero_le _, fun i hi => ?_⟩
  have h1 := put_take_le l i
  have h2 := put_take_le l (i + 1)
  repeat' (first | exact True.intro | refine ⟨_, LeL.refl _, ?_⟩ | refine ⟨_, _, _, LeL.refl _, ?_⟩ | (refine fun (b : Bool) hb => ?_; cases b <;> (first | exact absurd hb (by decide) | exact Bool.noConfusion (show true = false from hb) | exact Bool.noConfusion (show false = true from hb) | skip)) | (refine fun (hl : _ ≤ MAXL) => ?_) | refine And.intro (a := I64 _) ?_ ?_ | refine And.intro (a := _ ≤ 140737488355328) ?_ ?_ | refine ⟨_, ⟨rfl, rfl⟩, ?_⟩ | refine ⟨_, And.intro (a := I64 _) ?_ ⟨rfl, rfl⟩, ?_⟩ | refine ⟨_, _, ⟨rfl, rfl⟩, ?_⟩ | refine ⟨_, (fun _ => ⟨rfl, rfl⟩), ?_⟩ | refine And.intro (a := chkPend _ _ _ _ _ _) ?_ ?_ | refine And.intro (a := chkPast _ _ _ _ _ _ _ _) ?_ ?_ | refine ⟨⟨rfl, rfl⟩, ?_⟩ | refine ⟨True.intro, ?_⟩ | refine ⟨_, ⟨_, rfl, ?_, rfl, rfl, rfl⟩, ?_⟩ | refine ⟨_, rfl, ?_, rfl, ?_⟩ | refine ⟨_, (fun _ => rfl), rfl, ?_⟩ | refine ⟨(fun _ => rfl), ?_⟩ | refine ⟨rfl, ?_⟩ | fail)
  · rw [List.take_of_length_le (by grind)]
    exact hK
  · grind
  · rw [put_take_succ (by grind)] at h2
    simp only [List.length_append, List.length_map, List.length_cons, List.length_nil, Nat.mul_one] at *
    omega
  · rw [put_take_succ (by grind)] at h2
    simp only [List.length_append, List.length_map, List.length_cons, List.length_nil, Nat.mul_one] at *
    omega
  · (first | omega | (unfold I64; omega) | (simp only [List.length_append, List.length_map, List.length_cons, List.length_nil, Nat.mul_one, Int.ofNat_eq_natCast] at *; omega) | (dsimp only at *; omega) | (unfold I64; dsimp only at *; omega) | (unfold I64; grind) | grind)
  · refine ⟨i + 1, ?_, by grind, by grind⟩
    refine wk_sel [some 3] rfl rfl ⟨?_, trivial⟩ ?_
    · rw [put_take_succ (by grind), List.map_append, List.map_append, ← List.append_assoc]
      exact rfl
    · (repeat' (first | exact True.intro | exact rfl | exact Or.inl rfl | exact Or.inr rfl | refine And.intro ?_ ?_ | fail))
/-! slices.Contains of bytes -/
def idxB (l : List UInt8) (c : UInt8) : Int := Lib.indexByte l c
theorem indexB_ca : callable Try.prog 51 = true := by kernel_rfl
def indexB_S : Spec := fun args K => ∃ (l : List UInt8) (c : UInt8), args = [.sl byteV l, byteV c] ∧ K (.bool (decide (0 ≤ idxB l c)))
theorem containsB_ca : callable Try.prog 42 = true := by kernel_rfl
noncomputable def fns6 : List (Nat × FnI) := [(51, {fn := Try.f51, hooks := [], draws := []})]
theorem E6bok : EnvOK ⟨Try.prog, tys, [], fns6, [], []⟩ := env_ok mixed0 tys0 .nil (.cons (by kernel_rfl) ⟨Try.func51, by kernel_rfl, by kernel_rfl⟩ .nil) .nil rfl
def containsB_S : Spec := fun args K => ∃ (l : List UInt8) (c : UInt8), args = [.sl byteV l, byteV c] ∧ K (.bool (l.contains c))
theorem containsB_ok : Pure Try.prog 42 containsB_S := by
  refine pure_by E6bok 1 (fi := {fn := Try.f42, hooks := [], draws := []}) ⟨Try.func42, by kernel_rfl, by kernel_rfl⟩ ?_
  rintro _ K ⟨l, c, rfl, hK⟩
  replace hK : ∀ r, r = .bool (l.contains c) → K r := fun r h => h ▸ hK
  refine fun (hl : _ ≤ MAXL) => ?_
  conv => whnf
  refine loop_live [0, 1, 7] (σ := Nat) (fun i => [(8, .int .i64 i)]) (fun i => []) (fun i => i ≤ l.length ∧ c ∉ l.take i) (fun i => l.length - i) 0 ?_
  conv => whnf
  refine ⟨(by (refine wk_sel [] rfl rfl ?_ ?_ <;> (repeat' (first | exact True.intro | exact rfl | exact Or.inl rfl | exact Or.inr rfl | refine And.intro ?_ ?_ | fail)))), ⟨Nat.zero_le _, by simp⟩, fun i hi => ?_⟩
  obtain ⟨hi, hc⟩ := hi
  repeat' (first | exact True.intro | refine ⟨_, LeL.refl _, ?_⟩ | refine ⟨_, _, _, LeL.refl _, ?_⟩ | (refine fun (b : Bool) hb => ?_; cases b <;> (first | exact absurd hb (by decide) | exact Bool.noConfusion (show true = false from hb) | exact Bool.noConfusion (show false = true from hb) | skip)) | (refine fun (hl : _ ≤ MAXL) => ?_) | refine And.intro (a := I64 _) ?_ ?_ | refine And.intro (a := _ ≤ 140737488355328) ?_ ?_ | refine ⟨_, ⟨rfl, rfl⟩, ?_⟩ | refine ⟨_, And.intro (a := I64 _) ?_ ⟨rfl, rfl⟩, ?_⟩ | refine ⟨_, _, ⟨rfl, rfl⟩, ?_⟩ | refine ⟨_, (fun _ => ⟨rfl, rfl⟩), ?_⟩ | refine And.intro (a := chkPend _ _ _ _ _ _) ?_ ?_ | refine And.intro (a := chkPast _ _ _ _ _ _ _ _) ?_ ?_ | refine ⟨⟨rfl, rfl⟩, ?_⟩ | refine ⟨True.intro, ?_⟩ | refine ⟨_, ⟨_, rfl, ?_, rfl, rfl, rfl⟩, ?_⟩ | refine ⟨_, rfl, ?_, rfl, ?_⟩ | refine ⟨_, (fun _ => rfl), rfl, ?_⟩ | refine ⟨(fun _ => rfl), ?_⟩ | refine ⟨rfl, ?_⟩ | fail)
  · refine hK _ ?_
    have e : l.take i = l := List.take_of_length_le (by grind)
    rw [e] at hc
    simp [hc]
  · grind
  · (first | omega | (unfold I64; omega) | (simp only [List.length_append, List.length_map, List.length_cons, List.length_nil, Nat.mul_one, Int.ofNat_eq_natCast] at *; omega) | (dsimp only at *; omega) | (unfold I64; dsimp only at *; omega) | (unfold I64; grind) | grind)
  · have hi2 : i < l.length := by grind
    refine ⟨i + 1, (by (refine wk_sel [] rfl rfl ?_ ?_ <;> (repeat' (first | exact True.intro | exact rfl | exact Or.inl rfl | exact Or.inr rfl | refine And.intro ?_ ?_ | fail)))), ⟨by grind, ?_⟩, by grind⟩
    rw [List.take_succ_eq_append_getElem hi2]
    simp only [List.mem_append, List.mem_singleton, not_or]
    refine ⟨hc, fun e => ?_⟩
    subst e
    simp at *
  · have hi2 : i < l.length := by grind
    refine hK _ ?_
    have e : c = l[i] := by
      apply UInt8.toNat_inj.1
      grind
    have h1 : l.contains c = true := by
      rw [e]
      simp
    have h2 : decide ((0 : Int) ≤ (i : Int)) = true := by simp
    rw [h1, h2]
/-! line.Bytes -/
/-- What line.Bytes comes to: the lines so far, their bytes' number. -/
def bytesGo : Nat → List Bs → Int
  | _, [] => 0
  | n, s :: r => if s.contains 10 = true then 4 else if (s.length : Int) > 4000 - n - 1 then 2 else bytesGo (n + s.length + 1) r
def lineBytes (l : List Bs) : Bs × Int := if bytesGo 0 l = 0 then (put l, 0) else ([], bytesGo 0 l)
theorem bytesGo_at {l : List Bs} {i : Nat} (h : bytesGo (put (l.take i)).length (l.drop i) = bytesGo 0 l) (hi : i < l.length) :
    bytesGo 0 l = if l[i].contains 10 = true then 4 else if (l[i].length : Int) > 4000 - (put (l.take i)).length - 1 then 2 else bytesGo (put (l.take (i + 1))).length (l.drop (i + 1)) := by
  rw [← h, List.drop_eq_getElem_cons hi, bytesGo, put_take_succ hi]
  simp only [List.length_append, List.length_cons, List.length_nil, Nat.add_assoc]
theorem bytesGo_ok : ∀ {l : List Bs} {n : Nat}, bytesGo n l = 0 → NoNl l ∧ (n ≤ 4000 → n + (put l).length ≤ 4000)
  | [], n, h => ⟨(fun s hs => by cases hs), (fun h => by simpa [put] using h)⟩
  | s :: r, n, h => by
    unfold bytesGo at h
    split at h
    · cases h
    · rename_i h1
      split at h
      · cases h
      · rename_i h2
        obtain ⟨h3, h4⟩ := bytesGo_ok h
        refine ⟨fun x hx => ?_, fun hn => ?_⟩
        · rcases List.mem_cons.1 hx with rfl | hx
          · simpa using h1
          · exact h3 x hx
        · have := h4 (by omega)
          simp only [put, List.length_append, List.length_cons]
          omega
theorem bytes_ca : callable Try.prog 25 = true := by kernel_rfl
def bytes_S : Spec := fun args K => ∃ l : List Bs, args = [.sl strV l] ∧ (∀ s ∈ l, s.length ≤ reachBytes) ∧ K (.tup [.sl byteV (lineBytes l).1, .int .i64 (lineBytes l).2])
noncomputable def lib6 : List (Nat × Spec) := [(42, containsB_S)]
theorem E6cok : EnvOK ⟨Try.prog, tys, lib6, [], [], []⟩ := env_ok mixed0 tys0 (.cons containsB_ca containsB_ok .nil) .nil .nil rfl
theorem bytes_ok : Pure Try.prog 25 bytes_S := by
  refine pure_by E6cok 1 (fi := {fn := Try.f25, hooks := [], draws := []}) ⟨Try.func25, by kernel_rfl, by kernel_rfl⟩ ?_
  rintro _ K ⟨l, rfl, hz, hK⟩
  replace hK : ∀ r, r = .tup [.sl byteV (lineBytes l).1, .int .i64 (lineBytes l).2] → K r := fun r h => h ▸ hK
  refine fun (hl : _ ≤ MAXL) => ?_
  conv => whnf
  refine loop_live [7, 8] (σ := Nat) (fun i => [(4, .own 0), (9, .int .i64 i)]) (fun i => [.row 1 ((put (l.take i)).map byteV)]) (fun i => i ≤ l.length ∧ bytesGo (put (l.take i)).length (l.drop i) = bytesGo 0 l ∧ (put (l.take i)).length ≤ 4000) (fun i => l.length - i) 0 ?_
  conv => whnf
  refine ⟨(by (refine wk_sel [none] rfl rfl ?_ ?_ <;> (repeat' (first | exact True.intro | exact rfl | exact Or.inl rfl | exact Or.inr rfl | refine And.intro ?_ ?_ | fail)))), ⟨Nat.zero_le _, rfl, by simp [put]⟩, fun i hi => ?_⟩
  obtain ⟨hi, hg, hs⟩ := hi
  repeat' (first | exact True.intro | refine ⟨_, LeL.refl _, ?_⟩ | refine ⟨_, _, _, LeL.refl _, ?_⟩ | (refine fun (b : Bool) hb => ?_; cases b <;> (first | exact absurd hb (by decide) | exact Bool.noConfusion (show true = false from hb) | exact Bool.noConfusion (show false = true from hb) | skip)) | (refine fun (hl : _ ≤ MAXL) => ?_) | refine And.intro (a := I64 _) ?_ ?_ | refine And.intro (a := _ ≤ 140737488355328) ?_ ?_ | refine ⟨_, ⟨rfl, rfl⟩, ?_⟩ | refine ⟨_, And.intro (a := I64 _) ?_ ⟨rfl, rfl⟩, ?_⟩ | refine ⟨_, _, ⟨rfl, rfl⟩, ?_⟩ | refine ⟨_, (fun _ => ⟨rfl, rfl⟩), ?_⟩ | refine And.intro (a := chkPend _ _ _ _ _ _) ?_ ?_ | refine And.intro (a := chkPast _ _ _ _ _ _ _ _) ?_ ?_ | refine ⟨⟨rfl, rfl⟩, ?_⟩ | refine ⟨True.intro, ?_⟩ | refine ⟨_, ⟨_, rfl, ?_, rfl, rfl, rfl⟩, ?_⟩ | refine ⟨_, rfl, ?_, rfl, ?_⟩ | refine ⟨_, (fun _ => rfl), rfl, ?_⟩ | refine ⟨(fun _ => rfl), ?_⟩ | refine ⟨rfl, ?_⟩ | fail)
  · refine hK _ ?_
    have e : l.take i = l := List.take_of_length_le (by grind)
    have e2 : l.drop i = [] := List.drop_eq_nil_of_le (by grind)
    rw [e2, bytesGo] at hg
    unfold lineBytes
    rw [← hg, e]
    rfl
  · grind
  · exact Nat.le_trans (hz _ (List.getElem_mem (by grind))) (by decide)
  have hi2 : i < l.length := by grind
  have ha := bytesGo_at hg hi2
  have ht := @put_take_succ l i hi2
  refine ⟨l[i], 10, rfl, ?_⟩
  repeat' (first | exact True.intro | refine ⟨_, LeL.refl _, ?_⟩ | refine ⟨_, _, _, LeL.refl _, ?_⟩ | (refine fun (b : Bool) hb => ?_; cases b <;> (first | exact absurd hb (by decide) | exact Bool.noConfusion (show true = false from hb) | exact Bool.noConfusion (show false = true from hb) | skip)) | (refine fun (hl : _ ≤ MAXL) => ?_) | refine And.intro (a := I64 _) ?_ ?_ | refine And.intro (a := _ ≤ 140737488355328) ?_ ?_ | refine ⟨_, ⟨rfl, rfl⟩, ?_⟩ | refine ⟨_, And.intro (a := I64 _) ?_ ⟨rfl, rfl⟩, ?_⟩ | refine ⟨_, _, ⟨rfl, rfl⟩, ?_⟩ | refine ⟨_, (fun _ => ⟨rfl, rfl⟩), ?_⟩ | refine And.intro (a := chkPend _ _ _ _ _ _) ?_ ?_ | refine And.intro (a := chkPast _ _ _ _ _ _ _ _) ?_ ?_ | refine ⟨⟨rfl, rfl⟩, ?_⟩ | refine ⟨True.intro, ?_⟩ | refine ⟨_, ⟨_, rfl, ?_, rfl, rfl, rfl⟩, ?_⟩ | refine ⟨_, rfl, ?_, rfl, ?_⟩ | refine ⟨_, (fun _ => rfl), rfl, ?_⟩ | refine ⟨(fun _ => rfl), ?_⟩ | refine ⟨rfl, ?_⟩ | refine ⟨UInt8, byteV, ?_⟩ | fail)
  · (first | omega | (unfold I64; omega) | (simp only [List.length_append, List.length_map, List.length_cons, List.length_nil, Nat.mul_one, Int.ofNat_eq_natCast] at *; omega) | (dsimp only at *; omega) | (unfold I64; dsimp only at *; omega) | (unfold I64; grind) | grind)
  · (first | omega | (unfold I64; omega) | (simp only [List.length_append, List.length_map, List.length_cons, List.length_nil, Nat.mul_one, Int.ofNat_eq_natCast] at *; omega) | (dsimp only at *; omega) | (unfold I64; dsimp only at *; omega) | (unfold I64; grind) | grind)
  · simp only [List.length_append, List.length_map, List.length_cons, List.length_nil, Nat.mul_one] at *
    grind
  · simp only [List.length_append, List.length_map, List.length_cons, List.length_nil, Nat.mul_one] at *
    grind
  · (first | omega | (unfold I64; omega) | (simp only [List.length_append, List.length_map, List.length_cons, List.length_nil, Nat.mul_one, Int.ofNat_eq_natCast] at *; omega) | (dsimp only at *; omega) | (unfold I64; dsimp only at *; omega) | (unfold I64; grind) | grind)
  · simp only [List.length_map] at *
    have h1 : ¬ l[i].contains 10 = true := by grind
    have h2 : ¬ (l[i].length : Int) > 4000 - (put (l.take i)).length - 1 := by grind
    rw [if_neg h1, if_neg h2] at ha
    refine ⟨i + 1, ?_, ⟨by omega, ha.symm, ?_⟩, by omega⟩
    · refine wk_sel [some 3] rfl rfl ⟨?_, trivial⟩ ?_
      · rw [ht, List.map_append, List.map_append, ← List.append_assoc]
        exact rfl
      · (repeat' (first | exact True.intro | exact rfl | exact Or.inl rfl | exact Or.inr rfl | refine And.intro ?_ ?_ | fail))
    · rw [ht]
      simp only [List.length_append, List.length_cons, List.length_nil]
      omega
  · simp only [List.length_map] at *
    refine hK _ ?_
    have h1 : ¬ l[i].contains 10 = true := by grind
    have h2 : (l[i].length : Int) > 4000 - (put (l.take i)).length - 1 := by grind
    rw [if_neg h1, if_pos h2] at ha
    unfold lineBytes
    rw [ha]
    rfl
  · refine hK _ ?_
    have h1 : l[i].contains 10 = true := by assumption
    rw [if_pos h1] at ha
    unfold lineBytes
    rw [ha]
    rfl
/-! bytes.Cut at a line feed -/
theorem index1_ca : callable Try.prog 56 = true := by kernel_rfl
def index1_S : Spec := fun args K => ∃ (l : List UInt8), args = [.sl byteV l, .sl byteV [10]] ∧ K (.int .i64 (idxB l 10))
theorem index1_ok : Pure Try.prog 56 index1_S := by
  refine pure_look fun w m args us K hm hg hl hv hT => ?_
  obtain ⟨l, rfl, hK⟩ := hT
  obtain ⟨a, b, rfl, ha, hb⟩ := args2 hl hv
  obtain ⟨p, c, rfl, hp, hlc, hc, hx⟩ := bytes_open ha hm
  obtain ⟨p2, c2, rfl, hp2, hlc2, hc2, hx2⟩ := bytes_open hb hm
  refine ⟨_, _, hK, .int, ?_⟩
  match p2, hp2, hx2 with
  | none, hp2, _ => exact absurd (hp2 rfl).1 (by simp)
  | some ⟨b2, o2, sp2⟩, _, hx2 =>
    obtain ⟨h1, h2⟩ := hx2 b2 o2 sp2 rfl
    have hs : sp2 = none := h1.resolve_right (by simp)
    subst hs
    have h3 := h2 0 (by simp)
    have h4 : w.cell? ⟨b2, o2, none⟩ = some (.int .u8 10) := by simpa [Addr.add, numsOf] using h3
    match p, hp, hx with
    | none, hp, _ =>
      obtain ⟨rfl, rfl⟩ := hp rfl
      exact (Try.bytes_Index_one_nil b2 o2 c2 10 w h4).mono fun e w' ⟨he, hw⟩ => ⟨by rw [he]; rfl, by subst hw; exact Bel.refl _ _⟩
    | some ⟨b1, o1, sp1⟩, _, hx =>
      refine (Try.bytes_Index_one_at ⟨b1, o1, sp1⟩ l.length c b2 o2 c2 (numsOf l) 10 w (numsOf_length l) (fun i hi => (hx b1 o1 sp1 rfl).2 i hi) h4).mono fun e w' ⟨he, hw⟩ => ⟨by rw [he, bytesOf_nums]; rfl, by subst hw; exact Bel.refl _ _⟩
theorem cut_idx (l : Bs) : (cutNl l).2.2 = decide (0 ≤ idxB l 10) ∧ (0 ≤ idxB l 10 → idxB l 10 + 1 ≤ l.length ∧ (cutNl l).1 = l.take (idxB l 10).toNat ∧ (cutNl l).2.1 = l.drop ((idxB l 10).toNat + 1)) ∧ (idxB l 10 < 0 → cutNl l = (l, [], false)) := by
  unfold idxB
  rcases nl_cases l with h | ⟨a, r, rfl, ha⟩
  · have e : Lib.indexByte l 10 = -1 := by
      induction l with
      | nil => rfl
      | cons c l ih =>
        simp only [List.mem_cons, not_or] at h
        unfold Lib.indexByte
        rw [if_neg (by simpa using fun e => h.1 (e.symm)), ih h.2]
        rfl
    rw [e, cutNl_no h]
    refine ⟨rfl, fun h => by omega, fun _ => rfl⟩
  · have e : Lib.indexByte (a ++ 10 :: r) 10 = a.length := by
      induction a with
      | nil => rfl
      | cons c a ih =>
        simp only [List.mem_cons, not_or] at ha
        show Lib.indexByte (c :: (a ++ 10 :: r)) 10 = _
        unfold Lib.indexByte
        rw [if_neg (by simpa using fun e => ha.1 (e.symm)), ih ha.2, if_neg (by simp <;> omega)]
        simp
    rw [e, cutNl_nl ha]
    refine ⟨by simp, fun _ => ⟨by simp <;> omega, by simp, ?_⟩, fun h => by omega⟩
    rw [Int.toNat_natCast, show a.length + 1 = (a ++ [10]).length by simp, show a ++ 10 :: r = (a ++ [10]) ++ r by simp, List.drop_left]
theorem cut_ca : callable Try.prog 52 = true := by kernel_rfl
def cut_S : Spec := fun args K => ∃ (l : List UInt8), args = [.sl byteV l, .sl byteV [10]] ∧ l.length ≤ 1000000 ∧ K (.tup [.sl byteV (cutNl l).1, .sl byteV (cutNl l).2.1, .bool (cutNl l).2.2])
theorem E6dok : EnvOK ⟨Try.prog, tys, [(56, index1_S)], [], [], []⟩ := env_ok mixed0 tys0 (.cons index1_ca index1_ok .nil) .nil .nil rfl
theorem cut_ok : Pure Try.prog 52 cut_S := by
  refine pure_by E6dok 1 (fi := {fn := Try.f52, hooks := [], draws := [(3, [0, 0, 3, 0, 0, 0, 32, 112, 248, 7, 1023, 2047])]}) ⟨Try.func52, by kernel_rfl, by kernel_rfl⟩ ?_
  rintro _ K ⟨l, rfl, hz, hK⟩
  replace hK : ∀ r, r = .tup [.sl byteV (cutNl l).1, .sl byteV (cutNl l).2.1, .bool (cutNl l).2.2] → K r := fun r h => h ▸ hK
  obtain ⟨h1, h2, h3⟩ := cut_idx l
  refine ⟨l, rfl, ?_⟩
  repeat' (first | exact True.intro | refine ⟨_, LeL.refl _, ?_⟩ | refine ⟨_, _, _, LeL.refl _, ?_⟩ | (refine fun (b : Bool) hb => ?_; cases b <;> (first | exact absurd hb (by decide) | exact Bool.noConfusion (show true = false from hb) | exact Bool.noConfusion (show false = true from hb) | skip)) | (refine fun (hl : _ ≤ MAXL) => ?_) | refine And.intro (a := I64 _) ?_ ?_ | refine And.intro (a := _ ≤ 140737488355328) ?_ ?_ | refine ⟨_, ⟨rfl, rfl⟩, ?_⟩ | refine ⟨_, And.intro (a := I64 _) ?_ ⟨rfl, rfl⟩, ?_⟩ | refine ⟨_, _, ⟨rfl, rfl⟩, ?_⟩ | refine ⟨_, (fun _ => ⟨rfl, rfl⟩), ?_⟩ | refine And.intro (a := chkPend _ _ _ _ _ _) ?_ ?_ | refine And.intro (a := chkPast _ _ _ _ _ _ _ _) ?_ ?_ | refine ⟨⟨rfl, rfl⟩, ?_⟩ | refine ⟨True.intro, ?_⟩ | refine ⟨_, ⟨_, rfl, ?_, rfl, rfl, rfl⟩, ?_⟩ | refine ⟨_, rfl, ?_, rfl, ?_⟩ | refine ⟨_, (fun _ => rfl), rfl, ?_⟩ | refine ⟨(fun _ => rfl), ?_⟩ | refine ⟨rfl, ?_⟩ | refine ⟨UInt8, byteV, ?_⟩ | fail)
  · refine hK _ ?_
    rw [h3 (by grind)]
  have hi : 0 ≤ idxB l 10 := by grind
  obtain ⟨g1, g2, g3⟩ := h2 hi
  refine ⟨_, ⟨fun _ => rfl, (idxB l 10).toNat, by omega, by omega, rfl, rfl⟩, ?_⟩
  repeat' (first | exact True.intro | refine ⟨_, LeL.refl _, ?_⟩ | refine ⟨_, _, _, LeL.refl _, ?_⟩ | (refine fun (b : Bool) hb => ?_; cases b <;> (first | exact absurd hb (by decide) | exact Bool.noConfusion (show true = false from hb) | exact Bool.noConfusion (show false = true from hb) | skip)) | (refine fun (hl : _ ≤ MAXL) => ?_) | refine And.intro (a := I64 _) ?_ ?_ | refine And.intro (a := _ ≤ 140737488355328) ?_ ?_ | refine ⟨_, ⟨rfl, rfl⟩, ?_⟩ | refine ⟨_, And.intro (a := I64 _) ?_ ⟨rfl, rfl⟩, ?_⟩ | refine ⟨_, _, ⟨rfl, rfl⟩, ?_⟩ | refine ⟨_, (fun _ => ⟨rfl, rfl⟩), ?_⟩ | refine And.intro (a := chkPend _ _ _ _ _ _) ?_ ?_ | refine And.intro (a := chkPast _ _ _ _ _ _ _ _) ?_ ?_ | refine ⟨⟨rfl, rfl⟩, ?_⟩ | refine ⟨True.intro, ?_⟩ | refine ⟨_, ⟨_, rfl, ?_, rfl, rfl, rfl⟩, ?_⟩ | refine ⟨_, rfl, ?_, rfl, ?_⟩ | refine ⟨_, (fun _ => rfl), rfl, ?_⟩ | refine ⟨(fun _ => rfl), ?_⟩ | refine ⟨rfl, ?_⟩ | fail)
  · simp only [List.length_cons, List.length_nil]
    unfold I64
    omega
  refine ⟨_, ⟨fun _ => rfl, (idxB l 10).toNat + 1, ?_, by omega, rfl, rfl⟩, ?_⟩
  · simp only [List.length_cons, List.length_nil]
    omega
  repeat' (first | exact True.intro | refine ⟨_, LeL.refl _, ?_⟩ | refine ⟨_, _, _, LeL.refl _, ?_⟩ | (refine fun (b : Bool) hb => ?_; cases b <;> (first | exact absurd hb (by decide) | exact Bool.noConfusion (show true = false from hb) | exact Bool.noConfusion (show false = true from hb) | skip)) | (refine fun (hl : _ ≤ MAXL) => ?_) | refine And.intro (a := I64 _) ?_ ?_ | refine And.intro (a := _ ≤ 140737488355328) ?_ ?_ | refine ⟨_, ⟨rfl, rfl⟩, ?_⟩ | refine ⟨_, And.intro (a := I64 _) ?_ ⟨rfl, rfl⟩, ?_⟩ | refine ⟨_, _, ⟨rfl, rfl⟩, ?_⟩ | refine ⟨_, (fun _ => ⟨rfl, rfl⟩), ?_⟩ | refine And.intro (a := chkPend _ _ _ _ _ _) ?_ ?_ | refine And.intro (a := chkPast _ _ _ _ _ _ _ _) ?_ ?_ | refine ⟨⟨rfl, rfl⟩, ?_⟩ | refine ⟨True.intro, ?_⟩ | refine ⟨_, ⟨_, rfl, ?_, rfl, rfl, rfl⟩, ?_⟩ | refine ⟨_, rfl, ?_, rfl, ?_⟩ | refine ⟨_, (fun _ => rfl), rfl, ?_⟩ | refine ⟨(fun _ => rfl), ?_⟩ | refine ⟨rfl, ?_⟩ | fail)
  refine hK _ ?_
  rw [g2, g3, h1, decide_eq_true hi]
/-! line.of, line.Of -/
theorem of_ca : callable Try.prog 43 = true := by kernel_rfl
def of_S : Spec := fun args K => ∃ (b : Bs), args = [.sl byteV b] ∧ b.length ≤ 1000000 ∧ K (.sl strV (linesOf b))
noncomputable def lib6e : List (Nat × Spec) := [(52, cut_S)]
theorem E6eok : EnvOK ⟨Try.prog, tys, lib6e, [], [], []⟩ := env_ok mixed0 tys0 (.cons cut_ca cut_ok .nil) .nil .nil rfl
theorem of_ok : Pure Try.prog 43 of_S := by
  refine pure_by E6eok 1 (fi := {fn := Try.f43, hooks := [], draws := []}) ⟨Try.func43, by kernel_rfl, by kernel_rfl⟩ ?_
  rintro _ K ⟨b0, rfl, hz, hK⟩
  conv => whnf
  refine loop_live [] (σ := List Bs × Bs) (fun s => [(3, .own 0), (0, .sl byteV s.2)]) (fun s => [.row 1 (s.1.map strV)]) (fun s => s.1 ++ linesOf s.2 = linesOf b0 ∧ s.2.length + s.1.length ≤ 1000000) (fun s => s.2.length) ([], b0) ?_
  conv => whnf
  refine ⟨(by (refine wk_sel [none] rfl rfl ?_ ?_ <;> (repeat' (first | exact True.intro | exact rfl | exact Or.inl rfl | exact Or.inr rfl | refine And.intro ?_ ?_ | fail)))), ⟨rfl, hz⟩, fun s hs => ?_⟩
  obtain ⟨l, b⟩ := s
  obtain ⟨h1, h2⟩ := hs
  replace h1 : l ++ linesOf b = linesOf b0 := h1
  replace h2 : b.length + l.length ≤ 1000000 := h2
  repeat' (first | exact True.intro | refine ⟨_, LeL.refl _, ?_⟩ | refine ⟨_, _, _, LeL.refl _, ?_⟩ | (refine fun (b : Bool) hb => ?_; cases b <;> (first | exact absurd hb (by decide) | exact Bool.noConfusion (show true = false from hb) | exact Bool.noConfusion (show false = true from hb) | skip)) | (refine fun (hl : _ ≤ MAXL) => ?_) | refine And.intro (a := I64 _) ?_ ?_ | refine And.intro (a := _ ≤ 140737488355328) ?_ ?_ | refine ⟨_, ⟨rfl, rfl⟩, ?_⟩ | refine ⟨_, And.intro (a := I64 _) ?_ ⟨rfl, rfl⟩, ?_⟩ | refine ⟨_, _, ⟨rfl, rfl⟩, ?_⟩ | refine ⟨_, (fun _ => ⟨rfl, rfl⟩), ?_⟩ | refine And.intro (a := chkPend _ _ _ _ _ _) ?_ ?_ | refine And.intro (a := chkPast _ _ _ _ _ _ _ _) ?_ ?_ | refine ⟨⟨rfl, rfl⟩, ?_⟩ | refine ⟨True.intro, ?_⟩ | refine ⟨_, ⟨_, rfl, ?_, rfl, rfl, rfl⟩, ?_⟩ | refine ⟨_, rfl, ?_, rfl, ?_⟩ | refine ⟨_, (fun _ => rfl), rfl, ?_⟩ | refine ⟨(fun _ => rfl), ?_⟩ | refine ⟨rfl, ?_⟩ | fail)
  · have : b = [] := by
      have h : decide (0 < (b.length : Int)) = false := by assumption
      cases b with
      | nil => rfl
      | cons c b => simp at h <;> omega
    subst this
    rw [linesOf_nil, List.append_nil] at h1
    rw [h1]
    exact hK
  have hb0 : b ≠ [] := by
    intro e
    subst e
    have h : decide ((0 : Int) < (([] : Bs).length : Int)) = true := by assumption
    simp at h
  have g1 := linesOf_cut hb0
  have g2 := cut_len hb0
  refine ⟨UInt8, byteV, [10], LeL.refl _, ?_⟩
  refine ⟨b, rfl, by omega, ?_⟩
  repeat' (first | exact True.intro | refine ⟨_, LeL.refl _, ?_⟩ | refine ⟨_, _, _, LeL.refl _, ?_⟩ | (refine fun (b : Bool) hb => ?_; cases b <;> (first | exact absurd hb (by decide) | exact Bool.noConfusion (show true = false from hb) | exact Bool.noConfusion (show false = true from hb) | skip)) | (refine fun (hl : _ ≤ MAXL) => ?_) | refine And.intro (a := I64 _) ?_ ?_ | refine And.intro (a := _ ≤ 140737488355328) ?_ ?_ | refine ⟨_, ⟨rfl, rfl⟩, ?_⟩ | refine ⟨_, And.intro (a := I64 _) ?_ ⟨rfl, rfl⟩, ?_⟩ | refine ⟨_, _, ⟨rfl, rfl⟩, ?_⟩ | refine ⟨_, (fun _ => ⟨rfl, rfl⟩), ?_⟩ | refine And.intro (a := chkPend _ _ _ _ _ _) ?_ ?_ | refine And.intro (a := chkPast _ _ _ _ _ _ _ _) ?_ ?_ | refine ⟨⟨rfl, rfl⟩, ?_⟩ | refine ⟨True.intro, ?_⟩ | refine ⟨_, ⟨_, rfl, ?_, rfl, rfl, rfl⟩, ?_⟩ | refine ⟨_, rfl, ?_, rfl, ?_⟩ | refine ⟨_, (fun _ => rfl), rfl, ?_⟩ | refine ⟨(fun _ => rfl), ?_⟩ | refine ⟨rfl, ?_⟩ | fail)
  · simp only [List.length_map, List.length_cons, List.length_nil]
    have := List.length_pos_iff.2 hb0
    omega
  · refine ⟨(l ++ [(cutNl b).1], (cutNl b).2.1), ?_, ⟨?_, ?_⟩, g2.1⟩
    · refine wk_sel [some 3] rfl rfl ⟨?_, trivial⟩ ?_
      · rw [List.map_append]
        exact rfl
      · (repeat' (first | exact True.intro | exact rfl | exact Or.inl rfl | exact Or.inr rfl | refine And.intro ?_ ?_ | fail))
    · rw [← h1, g1, List.append_assoc]
      rfl
    · simp only [List.length_append, List.length_cons, List.length_nil]
      omega
def lineOf (b : Bs) : List Bs × Int := if 4000 < b.length then ([], 2) else (linesOf b, 0)
theorem Of_ca : callable Try.prog 26 = true := by kernel_rfl
def Of_S : Spec := fun args K => ∃ (b : Bs), args = [.sl byteV b] ∧ K (.tup [.sl strV (lineOf b).1, .int .i64 (lineOf b).2])
noncomputable def lib6f : List (Nat × Spec) := [(43, of_S)]
theorem E6fok : EnvOK ⟨Try.prog, tys, lib6f, [], [], []⟩ := env_ok mixed0 tys0 (.cons of_ca of_ok .nil) .nil .nil rfl
theorem Of_ok : Pure Try.prog 26 Of_S := by
  refine pure_by E6fok 1 (fi := {fn := Try.f26, hooks := [], draws := []}) ⟨Try.func26, by kernel_rfl, by kernel_rfl⟩ ?_
  rintro _ K ⟨b, rfl, hK⟩
  replace hK : ∀ r, r = .tup [.sl strV (lineOf b).1, .int .i64 (lineOf b).2] → K r := fun r h => h ▸ hK
  repeat' (first | exact True.intro | refine ⟨_, LeL.refl _, ?_⟩ | refine ⟨_, _, _, LeL.refl _, ?_⟩ | (refine fun (b : Bool) hb => ?_; cases b <;> (first | exact absurd hb (by decide) | exact Bool.noConfusion (show true = false from hb) | exact Bool.noConfusion (show false = true from hb) | skip)) | (refine fun (hl : _ ≤ MAXL) => ?_) | refine And.intro (a := I64 _) ?_ ?_ | refine And.intro (a := _ ≤ 140737488355328) ?_ ?_ | refine ⟨_, ⟨rfl, rfl⟩, ?_⟩ | refine ⟨_, And.intro (a := I64 _) ?_ ⟨rfl, rfl⟩, ?_⟩ | refine ⟨_, _, ⟨rfl, rfl⟩, ?_⟩ | refine ⟨_, (fun _ => ⟨rfl, rfl⟩), ?_⟩ | refine And.intro (a := chkPend _ _ _ _ _ _) ?_ ?_ | refine And.intro (a := chkPast _ _ _ _ _ _ _ _) ?_ ?_ | refine ⟨⟨rfl, rfl⟩, ?_⟩ | refine ⟨True.intro, ?_⟩ | refine ⟨_, ⟨_, rfl, ?_, rfl, rfl, rfl⟩, ?_⟩ | refine ⟨_, rfl, ?_, rfl, ?_⟩ | refine ⟨_, (fun _ => rfl), rfl, ?_⟩ | refine ⟨(fun _ => rfl), ?_⟩ | refine ⟨rfl, ?_⟩ | refine ⟨Bs, strV, ?_⟩ | fail)
  · refine ⟨b, rfl, by grind, ?_⟩
    refine hK _ ?_
    unfold lineOf
    rw [if_neg (by grind)]
  · refine hK _ ?_
    unfold lineOf
    rw [if_pos (by grind)]
/-! line.Split -/
theorem splitLines_ca : callable Try.prog 44 = true := by kernel_rfl
def splitLines_S : Spec := fun args K => ∃ (l : List Bs) (n : Nat), args = [.sl strV l, .int .i64 n] ∧ (1 ≤ n ∧ n ≤ 1000 ∧ (put l).length ≤ 1000000) ∧ K (.sl blV (splitLines l n))
noncomputable def lib6g : List (Nat × Spec) := [(53, put_S)]
theorem E6gok : EnvOK ⟨Try.prog, tys, lib6g, [], [], []⟩ := env_ok mixed0 tys0 (.cons put_ca put_ok .nil) .nil .nil rfl
theorem part_put (l : List Bs) (n k : Nat) : (put (part l n k)).length ≤ (put l).length := by
  have h1 := put_take_le l ((k + 1) * l.length / n)
  have h2 := congrArg (fun a => (put a).length) (List.take_append_drop (k * l.length / n) (l.take ((k + 1) * l.length / n)))
  simp only [put_append, List.length_append] at h2
  unfold Gp.part
  omega
theorem mul_cast_le {a b c : Nat} (h : a * b ≤ c) : (a : Int) * (b : Int) ≤ (c : Int) := by
  rw [← Int.natCast_mul]
  omega
theorem div_cast (k m n : Nat) : ((k : Int) * (m : Int)) / (n : Int) = ((k * m / n : Nat) : Int) := by
  rw [← Int.natCast_mul, ← Int.natCast_ediv]
theorem splitLines_ok : Pure Try.prog 44 splitLines_S := by
  refine pure_by E6gok 1 (fi := {fn := Try.f44, hooks := [], draws := [(5, [0, 0, 0, 0, 8, 28, 0, 124, 0, 256, 0, 1024, 3840, 0, 16128, 32766, 65534, 131070, 262143, 524287])]}) ⟨Try.func44, by kernel_rfl, by kernel_rfl⟩ ?_
  rintro _ K ⟨l, n, rfl, ⟨hn1, hn2, hz⟩, hK⟩
  conv => whnf
  have hl1 := put_len (l := l) (n := 1000000) hz
  refine loop_live [0, 1, 7] (σ := Nat) (fun k => [(5, .own 0), (8, .int .i64 k)]) (fun k => [.row 1 (((splitLines l n).take k).map blV)]) (fun k => k ≤ n) (fun k => n - k) 0 ?_
  conv => whnf
  refine ⟨(by (refine wk_sel [none] rfl rfl ?_ ?_ <;> (repeat' (first | exact True.intro | exact rfl | exact Or.inl rfl | exact Or.inr rfl | refine And.intro ?_ ?_ | fail)))), Nat.zero_le _, fun k hk => ?_⟩
  have hsl : (splitLines l n).length = n := by simp [splitLines]
  have hml : k * l.length ≤ 1000000000 := Nat.mul_le_mul (show k ≤ 1000 by omega) hl1
  have hml2 : (k + 1) * l.length ≤ 1001000000 := Nat.mul_le_mul (show k + 1 ≤ 1001 by omega) hl1
  have hml3 := mul_cast_le hml
  have hml4 : ((k : Int) + 1) * (l.length : Int) ≤ ((1001000000 : Nat) : Int) := mul_cast_le hml2
  have hml5 : 0 ≤ (k : Int) * l.length := Int.mul_nonneg (by omega) (by omega)
  have hml6 : 0 ≤ ((k : Int) + 1) * l.length := Int.mul_nonneg (by omega) (by omega)
  have hbd := part_bnd l.length n k (by omega)
  have hpp := part_put l n k
  repeat' (first | exact True.intro | refine ⟨_, LeL.refl _, ?_⟩ | refine ⟨_, _, _, LeL.refl _, ?_⟩ | (refine fun (b : Bool) hb => ?_; cases b <;> (first | exact absurd hb (by decide) | exact Bool.noConfusion (show true = false from hb) | exact Bool.noConfusion (show false = true from hb) | skip)) | (refine fun (hl : _ ≤ MAXL) => ?_) | refine And.intro (a := I64 _) ?_ ?_ | refine And.intro (a := _ ≤ 140737488355328) ?_ ?_ | refine ⟨_, ⟨rfl, rfl⟩, ?_⟩ | refine ⟨_, And.intro (a := I64 _) ?_ ⟨rfl, rfl⟩, ?_⟩ | refine ⟨_, _, ⟨rfl, rfl⟩, ?_⟩ | refine ⟨_, (fun _ => ⟨rfl, rfl⟩), ?_⟩ | refine And.intro (a := chkPend _ _ _ _ _ _) ?_ ?_ | refine And.intro (a := chkPast _ _ _ _ _ _ _ _) ?_ ?_ | refine ⟨⟨rfl, rfl⟩, ?_⟩ | refine ⟨True.intro, ?_⟩ | refine ⟨_, ⟨_, rfl, ?_, rfl, rfl, rfl⟩, ?_⟩ | refine ⟨_, rfl, ?_, rfl, ?_⟩ | refine ⟨_, (fun _ => rfl), rfl, ?_⟩ | refine ⟨(fun _ => rfl), ?_⟩ | refine ⟨rfl, ?_⟩ | fail)
  · rw [List.take_of_length_le (by grind)]
    exact hK
  · exact ⟨by omega, by omega⟩
  refine ⟨_, ⟨⟨hml5, by omega, by omega⟩, rfl, rfl⟩, ?_⟩
  repeat' (first | exact True.intro | refine ⟨_, LeL.refl _, ?_⟩ | refine ⟨_, _, _, LeL.refl _, ?_⟩ | (refine fun (b : Bool) hb => ?_; cases b <;> (first | exact absurd hb (by decide) | exact Bool.noConfusion (show true = false from hb) | exact Bool.noConfusion (show false = true from hb) | skip)) | (refine fun (hl : _ ≤ MAXL) => ?_) | refine And.intro (a := I64 _) ?_ ?_ | refine And.intro (a := _ ≤ 140737488355328) ?_ ?_ | refine ⟨_, ⟨rfl, rfl⟩, ?_⟩ | refine ⟨_, And.intro (a := I64 _) ?_ ⟨rfl, rfl⟩, ?_⟩ | refine ⟨_, _, ⟨rfl, rfl⟩, ?_⟩ | refine ⟨_, (fun _ => ⟨rfl, rfl⟩), ?_⟩ | refine And.intro (a := chkPend _ _ _ _ _ _) ?_ ?_ | refine And.intro (a := chkPast _ _ _ _ _ _ _ _) ?_ ?_ | refine ⟨⟨rfl, rfl⟩, ?_⟩ | refine ⟨True.intro, ?_⟩ | refine ⟨_, ⟨_, rfl, ?_, rfl, rfl, rfl⟩, ?_⟩ | refine ⟨_, rfl, ?_, rfl, ?_⟩ | refine ⟨_, (fun _ => rfl), rfl, ?_⟩ | refine ⟨(fun _ => rfl), ?_⟩ | refine ⟨rfl, ?_⟩ | fail)
  · exact ⟨by omega, by omega⟩
  · exact ⟨by omega, by omega⟩
  refine ⟨_, ⟨⟨hml6, by omega, by omega⟩, rfl, rfl⟩, ?_⟩
  refine ⟨_, ⟨fun _ => rfl, k * l.length / n, (k + 1) * l.length / n, div_cast _ _ _, div_cast (k + 1) _ _, Nat.le_trans (Nat.le_add_right _ _) hbd.1, ?_, rfl, rfl⟩, ?_⟩
  · exact Nat.div_le_of_le_mul (Nat.mul_le_mul_right _ (by grind))
  refine ⟨_, ⟨Gp.part l n k, rfl, by omega, rfl, rfl⟩, ?_⟩
  refine ⟨_, ⟨Bs, blV, [put (Gp.part l n k)], LeL.refl _, rfl, rfl⟩, ?_⟩
  repeat' (first | exact True.intro | refine ⟨_, LeL.refl _, ?_⟩ | refine ⟨_, _, _, LeL.refl _, ?_⟩ | (refine fun (b : Bool) hb => ?_; cases b <;> (first | exact absurd hb (by decide) | exact Bool.noConfusion (show true = false from hb) | exact Bool.noConfusion (show false = true from hb) | skip)) | (refine fun (hl : _ ≤ MAXL) => ?_) | refine And.intro (a := I64 _) ?_ ?_ | refine And.intro (a := _ ≤ 140737488355328) ?_ ?_ | refine ⟨_, ⟨rfl, rfl⟩, ?_⟩ | refine ⟨_, And.intro (a := I64 _) ?_ ⟨rfl, rfl⟩, ?_⟩ | refine ⟨_, _, ⟨rfl, rfl⟩, ?_⟩ | refine ⟨_, (fun _ => ⟨rfl, rfl⟩), ?_⟩ | refine And.intro (a := chkPend _ _ _ _ _ _) ?_ ?_ | refine And.intro (a := chkPast _ _ _ _ _ _ _ _) ?_ ?_ | refine ⟨⟨rfl, rfl⟩, ?_⟩ | refine ⟨True.intro, ?_⟩ | refine ⟨_, ⟨_, rfl, ?_, rfl, rfl, rfl⟩, ?_⟩ | refine ⟨_, rfl, ?_, rfl, ?_⟩ | refine ⟨_, (fun _ => rfl), rfl, ?_⟩ | refine ⟨(fun _ => rfl), ?_⟩ | refine ⟨rfl, ?_⟩ | fail)
  refine ⟨_, _, ⟨fun _ => rfl, ?_, rfl, rfl⟩, ?_⟩
  · simp only [List.length_map, List.length_take, List.length_cons, List.length_nil, elsOf]
    omega
  repeat' (first | exact True.intro | refine ⟨_, LeL.refl _, ?_⟩ | refine ⟨_, _, _, LeL.refl _, ?_⟩ | (refine fun (b : Bool) hb => ?_; cases b <;> (first | exact absurd hb (by decide) | exact Bool.noConfusion (show true = false from hb) | exact Bool.noConfusion (show false = true from hb) | skip)) | (refine fun (hl : _ ≤ MAXL) => ?_) | refine And.intro (a := I64 _) ?_ ?_ | refine And.intro (a := _ ≤ 140737488355328) ?_ ?_ | refine ⟨_, ⟨rfl, rfl⟩, ?_⟩ | refine ⟨_, And.intro (a := I64 _) ?_ ⟨rfl, rfl⟩, ?_⟩ | refine ⟨_, _, ⟨rfl, rfl⟩, ?_⟩ | refine ⟨_, (fun _ => ⟨rfl, rfl⟩), ?_⟩ | refine And.intro (a := chkPend _ _ _ _ _ _) ?_ ?_ | refine And.intro (a := chkPast _ _ _ _ _ _ _ _) ?_ ?_ | refine ⟨⟨rfl, rfl⟩, ?_⟩ | refine ⟨True.intro, ?_⟩ | refine ⟨_, ⟨_, rfl, ?_, rfl, rfl, rfl⟩, ?_⟩ | refine ⟨_, rfl, ?_, rfl, ?_⟩ | refine ⟨_, (fun _ => rfl), rfl, ?_⟩ | refine ⟨(fun _ => rfl), ?_⟩ | refine ⟨rfl, ?_⟩ | fail)
  · (first | omega | (unfold I64; omega) | (simp only [List.length_append, List.length_map, List.length_cons, List.length_nil, Nat.mul_one, Int.ofNat_eq_natCast] at *; omega) | (dsimp only at *; omega) | (unfold I64; dsimp only at *; omega) | (unfold I64; grind) | grind)
  · have hk2 : k < n := by grind
    refine ⟨k + 1, ?_, by omega, by omega⟩
    refine wk_sel [some 1] rfl rfl ⟨?_, trivial⟩ ?_
    · rw [List.take_succ_eq_append_getElem (by omega), List.map_append]
      have : (splitLines l n)[k]'(by omega) = put (Gp.part l n k) := by simp [splitLines]
      rw [this]
      exact rfl
    · (repeat' (first | exact True.intro | exact rfl | exact Or.inl rfl | exact Or.inr rfl | refine And.intro ?_ ?_ | fail))
def lineSplit (b : Bs) (n : Int) : List Bs × Int := if 4000 < b.length then ([], 2) else if n < 1 ∨ 5 < n then ([], 3) else (splitLines (linesOf b) n.toNat, 0)
theorem split_ca : callable Try.prog 28 = true := by kernel_rfl
def split_S : Spec := fun args K => ∃ (b : Bs) (n : Int), args = [.sl byteV b, .int .i64 n] ∧ K (.tup [.sl blV (lineSplit b n).1, .int .i64 (lineSplit b n).2])
noncomputable def lib6h : List (Nat × Spec) := [(26, Of_S), (44, splitLines_S)]
theorem E6hok : EnvOK ⟨Try.prog, tys, lib6h, [], [], []⟩ := env_ok mixed0 tys0 (.cons Of_ca Of_ok (.cons splitLines_ca splitLines_ok .nil)) .nil .nil rfl
theorem split_ok : Pure Try.prog 28 split_S := by
  refine pure_by E6hok 1 (fi := {fn := Try.f28, hooks := [], draws := []}) ⟨Try.func28, by kernel_rfl, by kernel_rfl⟩ ?_
  rintro _ K ⟨b, n, rfl, hK⟩
  replace hK : ∀ r, r = .tup [.sl blV (lineSplit b n).1, .int .i64 (lineSplit b n).2] → K r := fun r h => h ▸ hK
  refine ⟨b, rfl, ?_⟩
  by_cases hb : 4000 < b.length
  · have e1 : lineOf b = ([], 2) := if_pos hb
    have e2 : lineSplit b n = ([], 2) := if_pos hb
    rw [e1]
    rw [e2] at hK
    repeat' (first | exact True.intro | refine ⟨_, LeL.refl _, ?_⟩ | refine ⟨_, _, _, LeL.refl _, ?_⟩ | (refine fun (b : Bool) hb => ?_; cases b <;> (first | exact absurd hb (by decide) | exact Bool.noConfusion (show true = false from hb) | exact Bool.noConfusion (show false = true from hb) | skip)) | (refine fun (hl : _ ≤ MAXL) => ?_) | refine And.intro (a := I64 _) ?_ ?_ | refine And.intro (a := _ ≤ 140737488355328) ?_ ?_ | refine ⟨_, ⟨rfl, rfl⟩, ?_⟩ | refine ⟨_, And.intro (a := I64 _) ?_ ⟨rfl, rfl⟩, ?_⟩ | refine ⟨_, _, ⟨rfl, rfl⟩, ?_⟩ | refine ⟨_, (fun _ => ⟨rfl, rfl⟩), ?_⟩ | refine And.intro (a := chkPend _ _ _ _ _ _) ?_ ?_ | refine And.intro (a := chkPast _ _ _ _ _ _ _ _) ?_ ?_ | refine ⟨⟨rfl, rfl⟩, ?_⟩ | refine ⟨True.intro, ?_⟩ | refine ⟨_, ⟨_, rfl, ?_, rfl, rfl, rfl⟩, ?_⟩ | refine ⟨_, rfl, ?_, rfl, ?_⟩ | refine ⟨_, (fun _ => rfl), rfl, ?_⟩ | refine ⟨(fun _ => rfl), ?_⟩ | refine ⟨rfl, ?_⟩ | refine ⟨Bs, blV, ?_⟩ | fail)
    exact hK _ rfl
  · have e1 : lineOf b = (linesOf b, 0) := if_neg hb
    have e2 : lineSplit b n = _ := if_neg hb
    rw [e1]
    rw [e2] at hK
    repeat' (first | exact True.intro | refine ⟨_, LeL.refl _, ?_⟩ | refine ⟨_, _, _, LeL.refl _, ?_⟩ | (refine fun (b : Bool) hb => ?_; cases b <;> (first | exact absurd hb (by decide) | exact Bool.noConfusion (show true = false from hb) | exact Bool.noConfusion (show false = true from hb) | skip)) | (refine fun (hl : _ ≤ MAXL) => ?_) | refine And.intro (a := I64 _) ?_ ?_ | refine And.intro (a := _ ≤ 140737488355328) ?_ ?_ | refine ⟨_, ⟨rfl, rfl⟩, ?_⟩ | refine ⟨_, And.intro (a := I64 _) ?_ ⟨rfl, rfl⟩, ?_⟩ | refine ⟨_, _, ⟨rfl, rfl⟩, ?_⟩ | refine ⟨_, (fun _ => ⟨rfl, rfl⟩), ?_⟩ | refine And.intro (a := chkPend _ _ _ _ _ _) ?_ ?_ | refine And.intro (a := chkPast _ _ _ _ _ _ _ _) ?_ ?_ | refine ⟨⟨rfl, rfl⟩, ?_⟩ | refine ⟨True.intro, ?_⟩ | refine ⟨_, ⟨_, rfl, ?_, rfl, rfl, rfl⟩, ?_⟩ | refine ⟨_, rfl, ?_, rfl, ?_⟩ | refine ⟨_, (fun _ => rfl), rfl, ?_⟩ | refine ⟨(fun _ => rfl), ?_⟩ | refine ⟨rfl, ?_⟩ | refine ⟨Bs, blV, ?_⟩ | fail)
    · have hn : 1 ≤ n ∧ n ≤ 5 := by grind
      obtain ⟨k, rfl⟩ : ∃ k : Nat, n = k := ⟨n.toNat, by omega⟩
      refine ⟨linesOf b, k, rfl, ⟨by omega, by omega, ?_⟩, ?_⟩
      · have := whole_len b
        unfold whole at this
        omega
      · refine hK _ ?_
        rw [if_neg (by omega)]
        rfl
    · refine hK _ ?_
      rw [if_pos (by grind)]
    · refine hK _ ?_
      rw [if_pos (by grind)]
/-! slices.Equal of strings -/
theorem equalS_ca : callable Try.prog 27 = true := by kernel_rfl
def equalS_S : Spec := fun args K => ∃ a b : List Bs, args = [.sl strV a, .sl strV b] ∧ K (.bool (decide (a = b)))
theorem equalS_ok : Pure Try.prog 27 equalS_S := by
  refine pure_by E6ok 0 (fi := {fn := Try.f27, hooks := [], draws := [(6, [0, 0, 3, 7, 0, 0, 48, 112, 255])]}) ⟨Try.func27, by kernel_rfl, by kernel_rfl⟩ ?_
  rintro _ K ⟨x, y, rfl, hK⟩
  replace hK : ∀ r, r = .bool (decide (x = y)) → K r := fun r h => h ▸ hK
  repeat' (first | exact True.intro | refine ⟨_, LeL.refl _, ?_⟩ | refine ⟨_, _, _, LeL.refl _, ?_⟩ | (refine fun (b : Bool) hb => ?_; cases b <;> (first | exact absurd hb (by decide) | exact Bool.noConfusion (show true = false from hb) | exact Bool.noConfusion (show false = true from hb) | skip)) | (refine fun (hl : _ ≤ MAXL) => ?_) | refine And.intro (a := I64 _) ?_ ?_ | refine And.intro (a := _ ≤ 140737488355328) ?_ ?_ | refine ⟨_, ⟨rfl, rfl⟩, ?_⟩ | refine ⟨_, And.intro (a := I64 _) ?_ ⟨rfl, rfl⟩, ?_⟩ | refine ⟨_, _, ⟨rfl, rfl⟩, ?_⟩ | refine ⟨_, (fun _ => ⟨rfl, rfl⟩), ?_⟩ | refine And.intro (a := chkPend _ _ _ _ _ _) ?_ ?_ | refine And.intro (a := chkPast _ _ _ _ _ _ _ _) ?_ ?_ | refine ⟨⟨rfl, rfl⟩, ?_⟩ | refine ⟨True.intro, ?_⟩ | refine ⟨_, ⟨_, rfl, ?_, rfl, rfl, rfl⟩, ?_⟩ | refine ⟨_, rfl, ?_, rfl, ?_⟩ | refine ⟨_, (fun _ => rfl), rfl, ?_⟩ | refine ⟨(fun _ => rfl), ?_⟩ | refine ⟨rfl, ?_⟩ | fail)
  rotate_left
  · refine hK _ ?_
    congr 1
    grind
  conv => whnf
  have hlen : x.length = y.length := by grind
  refine loop_live [0, 1, 12] (σ := Nat) (fun i => [(13, .int .i64 i)]) (fun _ => []) (fun i => i ≤ x.length ∧ x.take i = y.take i) (fun i => x.length - i) 0 ?_
  conv => whnf
  refine ⟨(by (refine wk_sel [] rfl rfl ?_ ?_ <;> (repeat' (first | exact True.intro | exact rfl | exact Or.inl rfl | exact Or.inr rfl | refine And.intro ?_ ?_ | fail)))), ⟨Nat.zero_le _, rfl⟩, fun i hi => ?_⟩
  obtain ⟨hi, hI⟩ := hi
  repeat' (first | exact True.intro | refine ⟨_, LeL.refl _, ?_⟩ | refine ⟨_, _, _, LeL.refl _, ?_⟩ | (refine fun (b : Bool) hb => ?_; cases b <;> (first | exact absurd hb (by decide) | exact Bool.noConfusion (show true = false from hb) | exact Bool.noConfusion (show false = true from hb) | skip)) | (refine fun (hl : _ ≤ MAXL) => ?_) | refine And.intro (a := I64 _) ?_ ?_ | refine And.intro (a := _ ≤ 140737488355328) ?_ ?_ | refine ⟨_, ⟨rfl, rfl⟩, ?_⟩ | refine ⟨_, And.intro (a := I64 _) ?_ ⟨rfl, rfl⟩, ?_⟩ | refine ⟨_, _, ⟨rfl, rfl⟩, ?_⟩ | refine ⟨_, (fun _ => ⟨rfl, rfl⟩), ?_⟩ | refine And.intro (a := chkPend _ _ _ _ _ _) ?_ ?_ | refine And.intro (a := chkPast _ _ _ _ _ _ _ _) ?_ ?_ | refine ⟨⟨rfl, rfl⟩, ?_⟩ | refine ⟨True.intro, ?_⟩ | refine ⟨_, ⟨_, rfl, ?_, rfl, rfl, rfl⟩, ?_⟩ | refine ⟨_, rfl, ?_, rfl, ?_⟩ | refine ⟨_, (fun _ => rfl), rfl, ?_⟩ | refine ⟨(fun _ => rfl), ?_⟩ | refine ⟨rfl, ?_⟩ | fail)
  · refine hK _ ?_
    congr 1
    have e : x = y := by
      have h1 : x.take i = x := List.take_of_length_le (by grind)
      have h2 : y.take i = y := List.take_of_length_le (by grind)
      rw [← h1, ← h2, hI]
    simp [e]
  · grind
  · grind
  · (first | omega | (unfold I64; omega) | (simp only [List.length_append, List.length_map, List.length_cons, List.length_nil, Nat.mul_one, Int.ofNat_eq_natCast] at *; omega) | (dsimp only at *; omega) | (unfold I64; dsimp only at *; omega) | (unfold I64; grind) | grind)
  · have g1 : i < x.length := by grind
    have g2 : i < y.length := by grind
    refine ⟨i + 1, (by (refine wk_sel [] rfl rfl ?_ ?_ <;> (repeat' (first | exact True.intro | exact rfl | exact Or.inl rfl | exact Or.inr rfl | refine And.intro ?_ ?_ | fail)))), ⟨by omega, ?_⟩, by omega⟩
    rw [List.take_succ_eq_append_getElem g1, List.take_succ_eq_append_getElem g2, hI]
    have e : x[i] = y[i] := by grind
    rw [e]
  · refine hK _ ?_
    congr 1
    grind
/-! lined -/
noncomputable def lib6i : List (Nat × Spec) := [(26, Of_S), (28, split_S), (25, bytes_S), (27, equalS_S)]
theorem lib6i_ok : LibOK Try.prog lib6i := .cons Of_ca Of_ok (.cons split_ca split_ok (.cons bytes_ca bytes_ok (.cons equalS_ca equalS_ok .nil)))
theorem E6iok : EnvOK ⟨Try.prog, tys, lib6i, [], [], []⟩ := env_ok mixed0 tys0 lib6i_ok .nil .nil rfl
theorem lined_ca : callable Try.prog 29 = true := by kernel_rfl
def lined_S : Spec := fun args K => args = [] ∧ K (.bool true)
theorem ln1 : lineOf [97, 10, 10, 98] = ([[97], [], [98]], 0) := by decide
theorem ln2 : lineSplit [97, 10, 10, 98] 2 = ([[97, 10], [10, 98, 10]], 0) := by decide
theorem ln3 : lineBytes [[120], []] = ([120, 10, 10], 0) := by decide
theorem lined_ok : Pure Try.prog 29 lined_S := by
  refine pure_by E6iok 1 (fi := {fn := Try.f29, hooks := [], draws := []}) ⟨Try.func29, by kernel_rfl, by kernel_rfl⟩ ?_
  rintro _ K ⟨rfl, hK⟩
  replace hK : ∀ r, r = .bool true → K r := fun r h => h ▸ hK
  refine ⟨[97, 10, 10, 98], rfl, by decide, ?_⟩
  refine ⟨[97, 10, 10, 98], rfl, ?_⟩
  rw [ln1]
  refine ⟨[97, 10, 10, 98], rfl, by decide, ?_⟩
  refine ⟨[97, 10, 10, 98], 2, rfl, ?_⟩
  rw [ln2]
  refine ⟨Bs, strV, [[120], []], LeL.refl _, ?_⟩
  refine ⟨[[120], []], rfl, by decide, ?_⟩
  rw [ln3]
  repeat' (first | exact True.intro | refine ⟨_, LeL.refl _, ?_⟩ | refine ⟨_, _, _, LeL.refl _, ?_⟩ | (refine fun (b : Bool) hb => ?_; cases b <;> (first | exact absurd hb (by decide) | exact Bool.noConfusion (show true = false from hb) | exact Bool.noConfusion (show false = true from hb) | skip)) | (refine fun (hl : _ ≤ MAXL) => ?_) | refine And.intro (a := I64 _) ?_ ?_ | refine And.intro (a := _ ≤ 140737488355328) ?_ ?_ | refine ⟨_, ⟨rfl, rfl⟩, ?_⟩ | refine ⟨_, And.intro (a := I64 _) ?_ ⟨rfl, rfl⟩, ?_⟩ | refine ⟨_, _, ⟨rfl, rfl⟩, ?_⟩ | refine ⟨_, (fun _ => ⟨rfl, rfl⟩), ?_⟩ | refine And.intro (a := chkPend _ _ _ _ _ _) ?_ ?_ | refine And.intro (a := chkPast _ _ _ _ _ _ _ _) ?_ ?_ | refine ⟨⟨rfl, rfl⟩, ?_⟩ | refine ⟨True.intro, ?_⟩ | refine ⟨_, ⟨_, rfl, ?_, rfl, rfl, rfl⟩, ?_⟩ | refine ⟨_, rfl, ?_, rfl, ?_⟩ | refine ⟨_, (fun _ => rfl), rfl, ?_⟩ | refine ⟨(fun _ => rfl), ?_⟩ | refine ⟨rfl, ?_⟩ | fail)
  refine ⟨Bs, strV, [[97], [], [98]], LeL.refl _, ?_⟩
  refine ⟨[[97], [], [98]], [[97], [], [98]], rfl, ?_⟩
  repeat' (first | exact True.intro | refine ⟨_, LeL.refl _, ?_⟩ | refine ⟨_, _, _, LeL.refl _, ?_⟩ | (refine fun (b : Bool) hb => ?_; cases b <;> (first | exact absurd hb (by decide) | exact Bool.noConfusion (show true = false from hb) | exact Bool.noConfusion (show false = true from hb) | skip)) | (refine fun (hl : _ ≤ MAXL) => ?_) | refine And.intro (a := I64 _) ?_ ?_ | refine And.intro (a := _ ≤ 140737488355328) ?_ ?_ | refine ⟨_, ⟨rfl, rfl⟩, ?_⟩ | refine ⟨_, And.intro (a := I64 _) ?_ ⟨rfl, rfl⟩, ?_⟩ | refine ⟨_, _, ⟨rfl, rfl⟩, ?_⟩ | refine ⟨_, (fun _ => ⟨rfl, rfl⟩), ?_⟩ | refine And.intro (a := chkPend _ _ _ _ _ _) ?_ ?_ | refine And.intro (a := chkPast _ _ _ _ _ _ _ _) ?_ ?_ | refine ⟨⟨rfl, rfl⟩, ?_⟩ | refine ⟨True.intro, ?_⟩ | refine ⟨_, ⟨_, rfl, ?_, rfl, rfl, rfl⟩, ?_⟩ | refine ⟨_, rfl, ?_, rfl, ?_⟩ | refine ⟨_, (fun _ => rfl), rfl, ?_⟩ | refine ⟨(fun _ => rfl), ?_⟩ | refine ⟨rfl, ?_⟩ | fail)
  · decide
  · decide
  · exact hK _ rfl
/-! the law LineParts -/
noncomputable def lib6j : List (Nat × Spec) := (29, lined_S) :: lib6i
theorem E6jok : EnvOK ⟨Try.prog, tys, lib6j, [], [], []⟩ := env_ok mixed0 tys0 (.cons lined_ca lined_ok lib6i_ok) .nil .nil rfl
theorem parts_ca : callable Try.prog 7 = true := by kernel_rfl
def parts_S : Spec := fun args K => ∃ (b : Bs) (n : Int) (l : List Bs), args = [.sl byteV b, .int .i64 n, .sl strV l] ∧ (∀ s ∈ l, s.length ≤ reachBytes) ∧ K (.bool true)
set_option maxHeartbeats 1000000 in
theorem parts_ok : Pure Try.prog 7 parts_S := by
  refine pure_by E6jok 1 (fi := {fn := Try.f7, hooks := [6], draws := []}) ⟨Try.func7, by kernel_rfl, by kernel_rfl⟩ ?_
  rintro _ K ⟨b, n, l, rfl, hz, hK⟩
  replace hK : ∀ r, r = .bool true → K r := fun r h => h ▸ hK
  conv => whnf
  refine join_live [0, 1] (σ := Unit) (fun _ => []) (fun _ => []) (fun _ => True) ?_
  conv => whnf
  refine ⟨?_, fun _ _ => ?_⟩
  · refine ⟨l, rfl, hz, ?_⟩
    repeat' (first | exact True.intro | refine ⟨_, LeL.refl _, ?_⟩ | refine ⟨_, _, _, LeL.refl _, ?_⟩ | (refine fun (b : Bool) hb => ?_; cases b <;> (first | exact absurd hb (by decide) | exact Bool.noConfusion (show true = false from hb) | exact Bool.noConfusion (show false = true from hb) | skip)) | (refine fun (hl : _ ≤ MAXL) => ?_) | refine And.intro (a := I64 _) ?_ ?_ | refine And.intro (a := _ ≤ 140737488355328) ?_ ?_ | refine ⟨_, ⟨rfl, rfl⟩, ?_⟩ | refine ⟨_, And.intro (a := I64 _) ?_ ⟨rfl, rfl⟩, ?_⟩ | refine ⟨_, _, ⟨rfl, rfl⟩, ?_⟩ | refine ⟨_, (fun _ => ⟨rfl, rfl⟩), ?_⟩ | refine And.intro (a := chkPend _ _ _ _ _ _) ?_ ?_ | refine And.intro (a := chkPast _ _ _ _ _ _ _ _) ?_ ?_ | refine ⟨⟨rfl, rfl⟩, ?_⟩ | refine ⟨True.intro, ?_⟩ | refine ⟨_, ⟨_, rfl, ?_, rfl, rfl, rfl⟩, ?_⟩ | refine ⟨_, rfl, ?_, rfl, ?_⟩ | refine ⟨_, (fun _ => rfl), rfl, ?_⟩ | refine ⟨(fun _ => rfl), ?_⟩ | refine ⟨rfl, ?_⟩ | fail)
    · exact ⟨(), (by (refine wk_sel [] rfl rfl ?_ ?_ <;> (repeat' (first | exact True.intro | exact rfl | exact Or.inl rfl | exact Or.inr rfl | refine And.intro ?_ ?_ | fail)))), trivial⟩
    refine ⟨(lineBytes l).1, rfl, ?_⟩
    have h0 : bytesGo 0 l = 0 := by
      have h : decide ((lineBytes l).2 = 0) = true := by assumption
      unfold lineBytes at h
      split at h
      · assumption
      · simpa using h
    have e1 : lineBytes l = (put l, 0) := if_pos h0
    rw [e1]
    have h1 := bytesGo_ok h0
    have e2 : lineOf (put l) = (l, 0) := by
      unfold lineOf
      rw [if_neg (by simp at h1; omega), linesOf_put h1.1]
    rw [e2]
    repeat' (first | exact True.intro | refine ⟨_, LeL.refl _, ?_⟩ | refine ⟨_, _, _, LeL.refl _, ?_⟩ | (refine fun (b : Bool) hb => ?_; cases b <;> (first | exact absurd hb (by decide) | exact Bool.noConfusion (show true = false from hb) | exact Bool.noConfusion (show false = true from hb) | skip)) | (refine fun (hl : _ ≤ MAXL) => ?_) | refine And.intro (a := I64 _) ?_ ?_ | refine And.intro (a := _ ≤ 140737488355328) ?_ ?_ | refine ⟨_, ⟨rfl, rfl⟩, ?_⟩ | refine ⟨_, And.intro (a := I64 _) ?_ ⟨rfl, rfl⟩, ?_⟩ | refine ⟨_, _, ⟨rfl, rfl⟩, ?_⟩ | refine ⟨_, (fun _ => ⟨rfl, rfl⟩), ?_⟩ | refine And.intro (a := chkPend _ _ _ _ _ _) ?_ ?_ | refine And.intro (a := chkPast _ _ _ _ _ _ _ _) ?_ ?_ | refine ⟨⟨rfl, rfl⟩, ?_⟩ | refine ⟨True.intro, ?_⟩ | refine ⟨_, ⟨_, rfl, ?_, rfl, rfl, rfl⟩, ?_⟩ | refine ⟨_, rfl, ?_, rfl, ?_⟩ | refine ⟨_, (fun _ => rfl), rfl, ?_⟩ | refine ⟨(fun _ => rfl), ?_⟩ | refine ⟨rfl, ?_⟩ | fail)
    · refine ⟨l, l, rfl, ?_⟩
      repeat' (first | exact True.intro | refine ⟨_, LeL.refl _, ?_⟩ | refine ⟨_, _, _, LeL.refl _, ?_⟩ | (refine fun (b : Bool) hb => ?_; cases b <;> (first | exact absurd hb (by decide) | exact Bool.noConfusion (show true = false from hb) | exact Bool.noConfusion (show false = true from hb) | skip)) | (refine fun (hl : _ ≤ MAXL) => ?_) | refine And.intro (a := I64 _) ?_ ?_ | refine And.intro (a := _ ≤ 140737488355328) ?_ ?_ | refine ⟨_, ⟨rfl, rfl⟩, ?_⟩ | refine ⟨_, And.intro (a := I64 _) ?_ ⟨rfl, rfl⟩, ?_⟩ | refine ⟨_, _, ⟨rfl, rfl⟩, ?_⟩ | refine ⟨_, (fun _ => ⟨rfl, rfl⟩), ?_⟩ | refine And.intro (a := chkPend _ _ _ _ _ _) ?_ ?_ | refine And.intro (a := chkPast _ _ _ _ _ _ _ _) ?_ ?_ | refine ⟨⟨rfl, rfl⟩, ?_⟩ | refine ⟨True.intro, ?_⟩ | refine ⟨_, ⟨_, rfl, ?_, rfl, rfl, rfl⟩, ?_⟩ | refine ⟨_, rfl, ?_, rfl, ?_⟩ | refine ⟨_, (fun _ => rfl), rfl, ?_⟩ | refine ⟨(fun _ => rfl), ?_⟩ | refine ⟨rfl, ?_⟩ | fail)
      · exact ⟨(), (by (refine wk_sel [] rfl rfl ?_ ?_ <;> (repeat' (first | exact True.intro | exact rfl | exact Or.inl rfl | exact Or.inr rfl | refine And.intro ?_ ?_ | fail)))), trivial⟩
      · exfalso
        simp at *
  refine ⟨b, n, rfl, ?_⟩
  refine ⟨rfl, ?_⟩
  repeat' (first | exact True.intro | refine ⟨_, LeL.refl _, ?_⟩ | refine ⟨_, _, _, LeL.refl _, ?_⟩ | (refine fun (b : Bool) hb => ?_; cases b <;> (first | exact absurd hb (by decide) | exact Bool.noConfusion (show true = false from hb) | exact Bool.noConfusion (show false = true from hb) | skip)) | (refine fun (hl : _ ≤ MAXL) => ?_) | refine And.intro (a := I64 _) ?_ ?_ | refine And.intro (a := _ ≤ 140737488355328) ?_ ?_ | refine ⟨_, ⟨rfl, rfl⟩, ?_⟩ | refine ⟨_, And.intro (a := I64 _) ?_ ⟨rfl, rfl⟩, ?_⟩ | refine ⟨_, _, ⟨rfl, rfl⟩, ?_⟩ | refine ⟨_, (fun _ => ⟨rfl, rfl⟩), ?_⟩ | refine And.intro (a := chkPend _ _ _ _ _ _) ?_ ?_ | refine And.intro (a := chkPast _ _ _ _ _ _ _ _) ?_ ?_ | refine ⟨⟨rfl, rfl⟩, ?_⟩ | refine ⟨True.intro, ?_⟩ | refine ⟨_, ⟨_, rfl, ?_, rfl, rfl, rfl⟩, ?_⟩ | refine ⟨_, rfl, ?_, rfl, ?_⟩ | refine ⟨_, (fun _ => rfl), rfl, ?_⟩ | refine ⟨(fun _ => rfl), ?_⟩ | refine ⟨rfl, ?_⟩ | fail)
  rotate_left
  · exact hK _ rfl
  have hs0 : (lineSplit b n).2 = 0 := by
    have h : (!decide ((lineSplit b n).2 = 0)) = false := by assumption
    simpa using h
  have hb4 : ¬ 4000 < b.length := fun h => by
    unfold lineSplit at hs0
    rw [if_pos h] at hs0
    cases hs0
  have hn5 : ¬ (n < 1 ∨ 5 < n) := fun h => by
    unfold lineSplit at hs0
    rw [if_neg hb4, if_pos h] at hs0
    cases hs0
  obtain ⟨k, rfl⟩ : ∃ k : Nat, n = k := ⟨n.toNat, by omega⟩
  have e1 : lineSplit b k = (splitLines (linesOf b) k, 0) := by
    unfold lineSplit
    rw [if_neg hb4, if_neg hn5]
    rfl
  have e2 : lineOf b = (linesOf b, 0) := if_neg hb4
  rw [e1]
  refine ⟨b, rfl, ?_⟩
  rw [e2]
  have hno := linesOf_no10 b
  have hll := linesOf_len b
  generalize linesOf b = m at hno hll ⊢
  have hpl : (splitLines m k).length = k := by simp [splitLines]
  have hpe : ∀ i (h : i < (splitLines m k).length), (splitLines m k)[i] = put (Gp.part m k i) := fun i h => by simp [splitLines]
  generalize splitLines m k = P at hpl hpe ⊢
  repeat' (first | exact True.intro | refine ⟨_, LeL.refl _, ?_⟩ | refine ⟨_, _, _, LeL.refl _, ?_⟩ | (refine fun (b : Bool) hb => ?_; cases b <;> (first | exact absurd hb (by decide) | exact Bool.noConfusion (show true = false from hb) | exact Bool.noConfusion (show false = true from hb) | skip)) | (refine fun (hl : _ ≤ MAXL) => ?_) | refine And.intro (a := I64 _) ?_ ?_ | refine And.intro (a := _ ≤ 140737488355328) ?_ ?_ | refine ⟨_, ⟨rfl, rfl⟩, ?_⟩ | refine ⟨_, And.intro (a := I64 _) ?_ ⟨rfl, rfl⟩, ?_⟩ | refine ⟨_, _, ⟨rfl, rfl⟩, ?_⟩ | refine ⟨_, (fun _ => ⟨rfl, rfl⟩), ?_⟩ | refine And.intro (a := chkPend _ _ _ _ _ _) ?_ ?_ | refine And.intro (a := chkPast _ _ _ _ _ _ _ _) ?_ ?_ | refine ⟨⟨rfl, rfl⟩, ?_⟩ | refine ⟨True.intro, ?_⟩ | refine ⟨_, ⟨_, rfl, ?_, rfl, rfl, rfl⟩, ?_⟩ | refine ⟨_, rfl, ?_, rfl, ?_⟩ | refine ⟨_, (fun _ => rfl), rfl, ?_⟩ | refine ⟨(fun _ => rfl), ?_⟩ | refine ⟨rfl, ?_⟩ | fail)
  conv => whnf
  obtain ⟨q, hqd⟩ : ∃ q, m.length / k = q := ⟨_, rfl⟩
  have hq : q ≤ m.length := hqd ▸ Nat.div_le_self _ _
  refine loop_live [1, 11, 12, 13, 61, 62] (σ := Nat × Int × Int) (fun s => [(14, .own 0), (15, .int .i64 s.2.1), (16, .int .i64 s.2.2), (63, .int .i64 s.1)]) (fun s => [.row 1 ((m.take (s.1 * m.length / k)).map strV)]) (fun s => s.1 ≤ k ∧ (q : Int) ≤ s.2.1 ∧ s.2.1 ≤ 4000 ∧ s.2.2 ≤ (q : Int) + 1 ∧ 0 ≤ s.2.2) (fun s => k - s.1) (0, (m.length : Int), 0) ?_
  conv => whnf
  refine ⟨?_, ⟨Nat.zero_le _, by show (q : Int) ≤ (m.length : Int); omega, by show (m.length : Int) ≤ 4000; omega, by show (0 : Int) ≤ (q : Int) + 1; omega, Int.le_refl _⟩, ?_⟩
  · refine wk_sel [none] rfl rfl ?_ ?_
    · have : (0 * m.length / k) = 0 := by simp
      show wkRows _ _ [none] [.row 1 ((m.take (0 * m.length / k)).map strV)]
      rw [this]
      exact trivial
    · (repeat' (first | exact True.intro | exact rfl | exact Or.inl rfl | exact Or.inr rfl | refine And.intro ?_ ?_ | fail))
  rintro ⟨i, lo, hi⟩ ⟨hik, hlo, hlo2, hhi, hhi2⟩
  replace hik : i ≤ k := hik
  replace hlo : (q : Int) ≤ lo := hlo
  replace hlo2 : lo ≤ 4000 := hlo2
  replace hhi : hi ≤ (q : Int) + 1 := hhi
  replace hhi2 : 0 ≤ hi := hhi2
  repeat' (first | exact True.intro | refine ⟨_, LeL.refl _, ?_⟩ | refine ⟨_, _, _, LeL.refl _, ?_⟩ | (refine fun (b : Bool) hb => ?_; cases b <;> (first | exact absurd hb (by decide) | exact Bool.noConfusion (show true = false from hb) | exact Bool.noConfusion (show false = true from hb) | skip)) | (refine fun (hl : _ ≤ MAXL) => ?_) | refine And.intro (a := I64 _) ?_ ?_ | refine And.intro (a := _ ≤ 140737488355328) ?_ ?_ | refine ⟨_, ⟨rfl, rfl⟩, ?_⟩ | refine ⟨_, And.intro (a := I64 _) ?_ ⟨rfl, rfl⟩, ?_⟩ | refine ⟨_, _, ⟨rfl, rfl⟩, ?_⟩ | refine ⟨_, (fun _ => ⟨rfl, rfl⟩), ?_⟩ | refine And.intro (a := chkPend _ _ _ _ _ _) ?_ ?_ | refine And.intro (a := chkPast _ _ _ _ _ _ _ _) ?_ ?_ | refine ⟨⟨rfl, rfl⟩, ?_⟩ | refine ⟨True.intro, ?_⟩ | refine ⟨_, ⟨_, rfl, ?_, rfl, rfl, rfl⟩, ?_⟩ | refine ⟨_, rfl, ?_, rfl, ?_⟩ | refine ⟨_, (fun _ => rfl), rfl, ?_⟩ | refine ⟨(fun _ => rfl), ?_⟩ | refine ⟨rfl, ?_⟩ | fail)
  · exfalso
    dsimp only at *
    grind
  · have hge : ¬ i < k := by
      have h : decide ((i : Int) < (P.length : Int)) = false := by assumption
      grind
    have hi2 : i = k := by omega
    refine ⟨m.take (i * m.length / k), m, rfl, ?_⟩
    have e : m.take (i * m.length / k) = m := by rw [hi2, Nat.mul_div_cancel_left _ (by omega), List.take_of_length_le (Nat.le_refl _)]
    rw [e]
    repeat' (first | exact True.intro | refine ⟨_, LeL.refl _, ?_⟩ | refine ⟨_, _, _, LeL.refl _, ?_⟩ | (refine fun (b : Bool) hb => ?_; cases b <;> (first | exact absurd hb (by decide) | exact Bool.noConfusion (show true = false from hb) | exact Bool.noConfusion (show false = true from hb) | skip)) | (refine fun (hl : _ ≤ MAXL) => ?_) | refine And.intro (a := I64 _) ?_ ?_ | refine And.intro (a := _ ≤ 140737488355328) ?_ ?_ | refine ⟨_, ⟨rfl, rfl⟩, ?_⟩ | refine ⟨_, And.intro (a := I64 _) ?_ ⟨rfl, rfl⟩, ?_⟩ | refine ⟨_, _, ⟨rfl, rfl⟩, ?_⟩ | refine ⟨_, (fun _ => ⟨rfl, rfl⟩), ?_⟩ | refine And.intro (a := chkPend _ _ _ _ _ _) ?_ ?_ | refine And.intro (a := chkPast _ _ _ _ _ _ _ _) ?_ ?_ | refine ⟨⟨rfl, rfl⟩, ?_⟩ | refine ⟨True.intro, ?_⟩ | refine ⟨_, ⟨_, rfl, ?_, rfl, rfl, rfl⟩, ?_⟩ | refine ⟨_, rfl, ?_, rfl, ?_⟩ | refine ⟨_, (fun _ => rfl), rfl, ?_⟩ | refine ⟨(fun _ => rfl), ?_⟩ | refine ⟨rfl, ?_⟩ | fail)
    · exfalso
      simp at *
    · dsimp only
      unfold I64
      omega
    · refine hK _ ?_
      congr 1
      dsimp only
      simp only [decide_eq_true_eq]
      omega
  · dsimp only at *
    grind
  have hi2 : i < k := by
    have h : decide ((i : Int) < (P.length : Int)) = true := by assumption
    grind
  have hpi := hpe i (by omega)
  have hpn := part_no hno k i
  have hpc := part_cat m k i (by omega)
  have hpb := part_len m k i (by omega) hi2
  rw [hqd] at hpb
  rw [show (P, (0 : Int)).1[((i, lo, hi) : Nat × Int × Int).1] = put (Gp.part m k i) from hpi]
  refine ⟨put (Gp.part m k i), rfl, ?_⟩
  have hlast : ∀ (j : Nat) (h : j < (put (Gp.part m k i)).length), (j : Int) = ((put (Gp.part m k i)).length : Int) - 1 → (put (Gp.part m k i))[j] = 10 := fun j h hj => by
    rcases put_ended (Gp.part m k i) with h0 | h0
    · rw [h0] at h; simp at h
    · rw [List.getLast?_eq_getElem?, List.getElem?_eq_getElem (by omega)] at h0
      have : j = (put (Gp.part m k i)).length - 1 := by omega
      subst this
      simpa using h0
  have hpl2 := put_len (l := Gp.part m k i) (Nat.le_refl _)
  by_cases hx : 4000 < (put (Gp.part m k i)).length
  · have e3 : lineOf (put (Gp.part m k i)) = ([], 2) := if_pos hx
    rw [e3]
    repeat' (first | exact True.intro | refine ⟨_, LeL.refl _, ?_⟩ | refine ⟨_, _, _, LeL.refl _, ?_⟩ | (refine fun (b : Bool) hb => ?_; cases b <;> (first | exact absurd hb (by decide) | exact Bool.noConfusion (show true = false from hb) | exact Bool.noConfusion (show false = true from hb) | skip)) | (refine fun (hl : _ ≤ MAXL) => ?_) | refine And.intro (a := I64 _) ?_ ?_ | refine And.intro (a := _ ≤ 140737488355328) ?_ ?_ | refine ⟨_, ⟨rfl, rfl⟩, ?_⟩ | refine ⟨_, And.intro (a := I64 _) ?_ ⟨rfl, rfl⟩, ?_⟩ | refine ⟨_, _, ⟨rfl, rfl⟩, ?_⟩ | refine ⟨_, (fun _ => ⟨rfl, rfl⟩), ?_⟩ | refine And.intro (a := chkPend _ _ _ _ _ _) ?_ ?_ | refine And.intro (a := chkPast _ _ _ _ _ _ _ _) ?_ ?_ | refine ⟨⟨rfl, rfl⟩, ?_⟩ | refine ⟨True.intro, ?_⟩ | refine ⟨_, ⟨_, rfl, ?_, rfl, rfl, rfl⟩, ?_⟩ | refine ⟨_, rfl, ?_, rfl, ?_⟩ | refine ⟨_, (fun _ => rfl), rfl, ?_⟩ | refine ⟨(fun _ => rfl), ?_⟩ | refine ⟨rfl, ?_⟩ | fail)
    · exact hK _ rfl
    · (first | omega | (unfold I64; omega) | (simp only [List.length_append, List.length_map, List.length_cons, List.length_nil, Nat.mul_one, Int.ofNat_eq_natCast] at *; omega) | (dsimp only at *; omega) | (unfold I64; dsimp only at *; omega) | (unfold I64; grind) | grind)
    · refine ⟨(put (Gp.part m k i)).length - 1, by omega, by omega, rfl, ?_⟩
      rw [hlast _ _ (by omega)]
      repeat' (first | exact True.intro | refine ⟨_, LeL.refl _, ?_⟩ | refine ⟨_, _, _, LeL.refl _, ?_⟩ | (refine fun (b : Bool) hb => ?_; cases b <;> (first | exact absurd hb (by decide) | exact Bool.noConfusion (show true = false from hb) | exact Bool.noConfusion (show false = true from hb) | skip)) | (refine fun (hl : _ ≤ MAXL) => ?_) | refine And.intro (a := I64 _) ?_ ?_ | refine And.intro (a := _ ≤ 140737488355328) ?_ ?_ | refine ⟨_, ⟨rfl, rfl⟩, ?_⟩ | refine ⟨_, And.intro (a := I64 _) ?_ ⟨rfl, rfl⟩, ?_⟩ | refine ⟨_, _, ⟨rfl, rfl⟩, ?_⟩ | refine ⟨_, (fun _ => ⟨rfl, rfl⟩), ?_⟩ | refine And.intro (a := chkPend _ _ _ _ _ _) ?_ ?_ | refine And.intro (a := chkPast _ _ _ _ _ _ _ _) ?_ ?_ | refine ⟨⟨rfl, rfl⟩, ?_⟩ | refine ⟨True.intro, ?_⟩ | refine ⟨_, ⟨_, rfl, ?_, rfl, rfl, rfl⟩, ?_⟩ | refine ⟨_, rfl, ?_, rfl, ?_⟩ | refine ⟨_, (fun _ => rfl), rfl, ?_⟩ | refine ⟨(fun _ => rfl), ?_⟩ | refine ⟨rfl, ?_⟩ | fail)
      · exact hK _ rfl
    · exfalso
      grind
  · have e3 : lineOf (put (Gp.part m k i)) = (Gp.part m k i, 0) := by
      unfold lineOf
      rw [if_neg hx, linesOf_put hpn]
    rw [e3]
    have hcat : (m.take (i * m.length / k)).map strV ++ (Gp.part m k i).map strV = (m.take ((i + 1) * m.length / k)).map strV := by
      rw [← hpc, List.map_append]
    repeat' (first | exact True.intro | refine ⟨_, LeL.refl _, ?_⟩ | refine ⟨_, _, _, LeL.refl _, ?_⟩ | (refine fun (b : Bool) hb => ?_; cases b <;> (first | exact absurd hb (by decide) | exact Bool.noConfusion (show true = false from hb) | exact Bool.noConfusion (show false = true from hb) | skip)) | (refine fun (hl : _ ≤ MAXL) => ?_) | refine And.intro (a := I64 _) ?_ ?_ | refine And.intro (a := _ ≤ 140737488355328) ?_ ?_ | refine ⟨_, ⟨rfl, rfl⟩, ?_⟩ | refine ⟨_, And.intro (a := I64 _) ?_ ⟨rfl, rfl⟩, ?_⟩ | refine ⟨_, _, ⟨rfl, rfl⟩, ?_⟩ | refine ⟨_, (fun _ => ⟨rfl, rfl⟩), ?_⟩ | refine And.intro (a := chkPend _ _ _ _ _ _) ?_ ?_ | refine And.intro (a := chkPast _ _ _ _ _ _ _ _) ?_ ?_ | refine ⟨⟨rfl, rfl⟩, ?_⟩ | refine ⟨True.intro, ?_⟩ | refine ⟨_, ⟨_, rfl, ?_, rfl, rfl, rfl⟩, ?_⟩ | refine ⟨_, rfl, ?_, rfl, ?_⟩ | refine ⟨_, (fun _ => rfl), rfl, ?_⟩ | refine ⟨(fun _ => rfl), ?_⟩ | refine ⟨rfl, ?_⟩ | fail)
    · simp only [List.length_map, List.length_take]
      omega
    · (first | omega | (unfold I64; omega) | (simp only [List.length_append, List.length_map, List.length_cons, List.length_nil, Nat.mul_one, Int.ofNat_eq_natCast] at *; omega) | (dsimp only at *; omega) | (unfold I64; dsimp only at *; omega) | (unfold I64; grind) | grind)
    · refine ⟨(i + 1, min lo (Gp.part m k i).length, max hi (Gp.part m k i).length), ?_, ⟨by dsimp only; omega, by dsimp only; omega, by dsimp only; omega, by dsimp only; omega, by dsimp only; omega⟩, by dsimp only; omega⟩
      refine wk_sel [some 1] rfl rfl ⟨?_, trivial⟩ ?_
      · show Row.row 1 _ = Row.row 1 _
        rw [hcat]
      · (repeat' (first | exact True.intro | exact rfl | exact Or.inl rfl | exact Or.inr rfl | refine And.intro ?_ ?_ | fail))
    · (first | omega | (unfold I64; omega) | (simp only [List.length_append, List.length_map, List.length_cons, List.length_nil, Nat.mul_one, Int.ofNat_eq_natCast] at *; omega) | (dsimp only at *; omega) | (unfold I64; dsimp only at *; omega) | (unfold I64; grind) | grind)
    · refine ⟨(put (Gp.part m k i)).length - 1, by grind, by grind, rfl, ?_⟩
      rw [hlast _ _ (by grind)]
      repeat' (first | exact True.intro | refine ⟨_, LeL.refl _, ?_⟩ | refine ⟨_, _, _, LeL.refl _, ?_⟩ | (refine fun (b : Bool) hb => ?_; cases b <;> (first | exact absurd hb (by decide) | exact Bool.noConfusion (show true = false from hb) | exact Bool.noConfusion (show false = true from hb) | skip)) | (refine fun (hl : _ ≤ MAXL) => ?_) | refine And.intro (a := I64 _) ?_ ?_ | refine And.intro (a := _ ≤ 140737488355328) ?_ ?_ | refine ⟨_, ⟨rfl, rfl⟩, ?_⟩ | refine ⟨_, And.intro (a := I64 _) ?_ ⟨rfl, rfl⟩, ?_⟩ | refine ⟨_, _, ⟨rfl, rfl⟩, ?_⟩ | refine ⟨_, (fun _ => ⟨rfl, rfl⟩), ?_⟩ | refine And.intro (a := chkPend _ _ _ _ _ _) ?_ ?_ | refine And.intro (a := chkPast _ _ _ _ _ _ _ _) ?_ ?_ | refine ⟨⟨rfl, rfl⟩, ?_⟩ | refine ⟨True.intro, ?_⟩ | refine ⟨_, ⟨_, rfl, ?_, rfl, rfl, rfl⟩, ?_⟩ | refine ⟨_, rfl, ?_, rfl, ?_⟩ | refine ⟨_, (fun _ => rfl), rfl, ?_⟩ | refine ⟨(fun _ => rfl), ?_⟩ | refine ⟨rfl, ?_⟩ | fail)
      · simp only [List.length_map, List.length_take]
        omega
      · (first | omega | (unfold I64; omega) | (simp only [List.length_append, List.length_map, List.length_cons, List.length_nil, Nat.mul_one, Int.ofNat_eq_natCast] at *; omega) | (dsimp only at *; omega) | (unfold I64; dsimp only at *; omega) | (unfold I64; grind) | grind)
      · refine ⟨(i + 1, min lo (Gp.part m k i).length, max hi (Gp.part m k i).length), ?_, ⟨by dsimp only; omega, by dsimp only; omega, by dsimp only; omega, by dsimp only; omega, by dsimp only; omega⟩, by dsimp only; omega⟩
        refine wk_sel [some 1] rfl rfl ⟨?_, trivial⟩ ?_
        · show Row.row 1 _ = Row.row 1 _
          rw [hcat]
        · (repeat' (first | exact True.intro | exact rfl | exact Or.inl rfl | exact Or.inr rfl | refine And.intro ?_ ?_ | fail))
end Gv
