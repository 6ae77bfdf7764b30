/- What functions of the program come to, part 3: in every world; the conditions stand in each theorem. -/
import Derived.Test.YtffljdmmambdjacGreatDoorF2
set_option linter.unusedVariables false
set_option linter.unusedSectionVars false
set_option linter.unusedSimpArgs false
open Go Go.Proofs Gw Gp
namespace Gv
variable [Glob] [Laid]
end Gv
namespace Gv
variable [Glob] [Laid]
theorem equalP_ca : callable Tryz.prog 57 = true:=by kernel_rfl
def equalP_S : Spec:=fun args K=>∃ a b : List Port,args = [.sl portV a,.sl portV b] ∧ K (.bool (decide (a = b)))
noncomputable def equalP_lib : List (Nat × Spec):=[]
noncomputable def equalP_fns : List (Nat × FnI):=[]
noncomputable def equalP_prims : List (Nat × PSpec):=[]
theorem equalP_E : EnvOK ⟨Tryz.prog,tys,equalP_lib,equalP_fns,equalP_prims,[(47,[true,true])]⟩:=env_ok mixed0 tys0 .nil .nil .nil (by kernel_rfl)
set_option maxHeartbeats 4000000 in
theorem equalP_ok : Pure Tryz.prog 57 equalP_S:=by
  refine pure_by equalP_E 6 (fi:={fn:=Tryz.f57,hooks:=[],draws:=[(6,[0,0,3,7,0,0,48,112,255])]}) ⟨Tryz.func57,by kernel_rfl,by kernel_rfl⟩ ?_
  rintro _ K ⟨x,y,rfl,hK⟩
  replace hK : ∀ r,r = .bool (decide (x = y)) → K r:=fun r h=>h ▸ hK
  repeat' first | (refine fun (b : Bool) hb=>?_; cases b <;> (first | exact absurd hb (by decide) | exact Bool.noConfusion (show true = false from hb) | exact Bool.noConfusion (show false = true from hb) | skip)) | (refine fun (hl : _ ≤ MAXL)=>?_) | fail
  rotate_left
  · refine hK _ ?_
    congr 1
    grind
  conv=>whnf
  refine loop_live [0,1,12] (σ:=Nat) (fun i=>[(13,.int .i64 i)]) (fun _=>[]) (fun i=>i ≤ x.length ∧ x.take i = y.take i) (fun i=>x.length - i) 0 ?_
  conv=>whnf
  refine ⟨wk_sel [] rfl rfl trivial (by (repeat' (first | exact True.intro | exact rfl | exact Or.inl rfl | exact Or.inr rfl | refine And.intro ?_ ?_ | fail))),⟨Nat.zero_le _,rfl⟩,?_⟩
  intro i ⟨hi,hI⟩
  repeat' first | (refine fun (b : Bool) hb=>?_; cases b <;> (first | exact absurd hb (by decide) | exact Bool.noConfusion (show true = false from hb) | exact Bool.noConfusion (show false = true from hb) | skip)) | refine And.intro (a:=I64 _) ?_ ?_ | refine ⟨_,⟨rfl,rfl⟩,?_⟩ | refine ⟨_,⟨_,rfl,?_,rfl,rfl,rfl⟩,?_⟩ | fail
  all_goals try ((first | omega | (unfold I64; omega) | (simp only [List.length_append,List.length_map,List.length_cons,List.length_nil,Nat.mul_one,Int.ofNat_eq_natCast] at *; omega) | (dsimp only at *; omega) | (unfold I64; dsimp only at *; omega) | (unfold I64; grind) | grind); done)
  · refine hK _ ?_
    congr 1
    have e : x = y:=by
      have h1 : x.take i = x:=List.take_of_length_le (by grind)
      have h2 : y.take i = y:=List.take_of_length_le (by grind)
      rw [← h1,← h2,hI]
    simp [e]
  · have g1 : i < x.length:=by grind
    have g2 : i < y.length:=by grind
    refine ⟨i + 1,?_,⟨?_,?_⟩,?_⟩
    · refine wk_sel [] rfl rfl trivial ?_
      (repeat' (first | exact True.intro | exact rfl | exact Or.inl rfl | exact Or.inr rfl | refine And.intro ?_ ?_ | fail))
    · grind
    · rw [List.take_succ_eq_append_getElem g1,List.take_succ_eq_append_getElem g2,hI]
      have e : x[i] = y[i]:=by
        have h1 : x[i].node = y[i].node ∧ x[i].out = y[i].out:=by grind
        rcases hx : x[i] with ⟨a,b⟩
        rcases hy : y[i] with ⟨a',b'⟩
        rw [hx,hy] at h1
        simp only at h1
        rw [h1.1,h1.2]
      rw [e]
    · grind
  · refine hK _ ?_
    congr 1
    grind
end Gv
namespace Gv
variable [Glob] [Laid]
theorem sameGR_ca : callable Tryz.prog 14 = true:=by kernel_rfl
def sameGR_S : Spec:=fun args K=>∃ a b : List Gp.Node,args = [.agg [.sl nodeV a],.agg [.sl nodeV b]] ∧ K (.bool (decide (a = b)))
noncomputable def sameGR_lib : List (Nat × Spec):=[(57,equalP_S)]
noncomputable def sameGR_fns : List (Nat × FnI):=[]
noncomputable def sameGR_prims : List (Nat × PSpec):=[]
theorem sameGR_E : EnvOK ⟨Tryz.prog,tys,sameGR_lib,sameGR_fns,sameGR_prims,[(38,[true,false,true])]⟩:=env_ok mixed0 tys0 (.cons equalP_ca equalP_ok .nil) .nil .nil (by kernel_rfl)
set_option maxHeartbeats 4000000 in
theorem sameGR_ok : Pure Tryz.prog 14 sameGR_S:=by
  refine pure_by sameGR_E 6 (fi:={fn:=Tryz.f14,hooks:=[],draws:=[]}) ⟨Tryz.func14,by kernel_rfl,by kernel_rfl⟩ ?_
  rintro _ K ⟨a,b,rfl,hK⟩
  replace hK : ∀ r,r = .bool (decide (a = b)) → K r:=fun r h=>h ▸ hK
  repeat' first | (refine fun (b : Bool) hb=>?_; cases b <;> (first | exact absurd hb (by decide) | exact Bool.noConfusion (show true = false from hb) | exact Bool.noConfusion (show false = true from hb) | skip)) | (refine fun (hl : _ ≤ MAXL)=>?_) | fail
  rotate_left
  · refine hK _ ?_
    congr 1
    grind
  conv=>whnf
  refine loop_live [3,16,17] (σ:=Nat) (fun i=>[(18,.int .i64 i)]) (fun _=>[.box [.sl nodeV a],.box [.sl nodeV b]]) (fun i=>i ≤ a.length ∧ a.take i = b.take i) (fun i=>a.length - i) 0 ?_
  conv=>whnf
  refine ⟨(by (refine wk_auto ?_; refine Sel4.mk rfl rfl ?_ ?_ <;> (repeat' (first | exact True.intro | exact rfl | exact Or.inl rfl | exact Or.inr rfl | refine And.intro ?_ ?_ | fail)))),⟨Nat.zero_le _,rfl⟩,fun i hi=>?_⟩
  obtain ⟨hi,hI⟩:=hi
  repeat' first | (refine fun (b : Bool) hb=>?_; cases b <;> (first | exact absurd hb (by decide) | exact Bool.noConfusion (show true = false from hb) | exact Bool.noConfusion (show false = true from hb) | skip)) | refine ⟨_,rfl,?_,rfl,?_⟩ | fail
  · refine hK _ ?_
    congr 1
    have e : a = b:=by
      have h1 : a.take i = a:=List.take_of_length_le (by grind)
      have h2 : b.take i = b:=List.take_of_length_le (by grind)
      rw [← h1,← h2,hI]
    simp [e]
  · grind
  · grind
  · have g1 : i < a.length:=by grind
    have g2 : i < b.length:=by grind
    refine ⟨a[i].ins,b[i].ins,rfl,?_⟩
    repeat' first | (refine fun (b : Bool) hb=>?_; cases b <;> (first | exact absurd hb (by decide) | exact Bool.noConfusion (show true = false from hb) | exact Bool.noConfusion (show false = true from hb) | skip)) | refine And.intro (a:=I64 _) ?_ ?_ | fail
    · (first | omega | (unfold I64; omega) | (simp only [List.length_append,List.length_map,List.length_cons,List.length_nil,Nat.mul_one,Int.ofNat_eq_natCast] at *; omega) | (dsimp only at *; omega) | (unfold I64; dsimp only at *; omega) | (unfold I64; grind) | grind)
    · refine ⟨i + 1,(by (refine wk_auto ?_; refine Sel4.mk rfl rfl ?_ ?_ <;> (repeat' (first | exact True.intro | exact rfl | exact Or.inl rfl | exact Or.inr rfl | refine And.intro ?_ ?_ | fail)))),⟨by omega,?_⟩,by omega⟩
      rw [List.take_succ_eq_append_getElem g1,List.take_succ_eq_append_getElem g2,hI]
      have e : a[i] = b[i]:=by
        rcases hx : a[i] with ⟨k,f,c,h,w,p⟩
        rcases hy : b[i] with ⟨k',f',c',h',w',p'⟩
        rcases c with ⟨c1,c2,c3⟩
        rcases c' with ⟨d1,d2,d3⟩
        simp_all
      rw [e]
    · refine hK _ ?_
      congr 1
      have : ¬ a = b:=fun e=>by
        subst e
        simp at *
      simp [this]
  all_goals
    refine hK _ ?_
    congr 1
    have : ¬ a = b:=fun e=>by
      subst e
      simp at *
    simp [this]
end Gv
namespace Gv
variable [Glob] [Laid]
theorem equalB_ca : callable Tryz.prog 18 = true:=by kernel_rfl
def equalB_S : Spec:=fun args K=>∃ a b : List UInt8,args = [.sl byteV a,.sl byteV b] ∧ K (.bool (decide (a = b)))
noncomputable def equalB_lib : List (Nat × Spec):=[]
noncomputable def equalB_fns : List (Nat × FnI):=[]
noncomputable def equalB_prims : List (Nat × PSpec):=[]
theorem equalB_E : EnvOK ⟨Tryz.prog,tys,equalB_lib,equalB_fns,equalB_prims,[]⟩:=env_ok mixed0 tys0 .nil .nil .nil rfl
set_option maxHeartbeats 4000000 in
theorem equalB_ok : Pure Tryz.prog 18 equalB_S:=by
  refine pure_by equalB_E 6 (fi:={fn:=Tryz.f18,hooks:=[],draws:=[(6,[0,0,3,7,0,0,48,112,255])]}) ⟨Tryz.func18,by kernel_rfl,by kernel_rfl⟩ ?_
  rintro _ K ⟨x,y,rfl,hK⟩
  replace hK : ∀ r,r = .bool (decide (x = y)) → K r:=fun r h=>h ▸ hK
  repeat' first | (refine fun (b : Bool) hb=>?_; cases b <;> (first | exact absurd hb (by decide) | exact Bool.noConfusion (show true = false from hb) | exact Bool.noConfusion (show false = true from hb) | skip)) | (refine fun (hl : _ ≤ MAXL)=>?_) | fail
  rotate_left
  · refine hK _ ?_
    congr 1
    grind
  conv=>whnf
  refine loop_intro (σ:=Nat) (fun i=>[(0,.sl byteV x),(1,.sl byteV y),(12,.int .i64 x.length),(13,.int .i64 i),(4,.lit false)]) (fun _=>[]) (fun i=>i ≤ x.length ∧ x.take i = y.take i) (fun i=>x.length - i) 0 (wk_sel [] rfl rfl trivial ?_) ⟨Nat.zero_le _,rfl⟩ ?_
  · (repeat' (first | exact True.intro | exact rfl | exact Or.inl rfl | exact Or.inr rfl | refine And.intro ?_ ?_ | fail))
  intro i ⟨hi,hI⟩
  repeat' first | (refine fun (b : Bool) hb=>?_; cases b <;> (first | exact absurd hb (by decide) | exact Bool.noConfusion (show true = false from hb) | exact Bool.noConfusion (show false = true from hb) | skip)) | refine And.intro (a:=I64 _) ?_ ?_ | refine ⟨_,⟨rfl,rfl⟩,?_⟩ | refine ⟨_,⟨_,rfl,?_,rfl,rfl,rfl⟩,?_⟩ | fail
  · refine hK _ ?_
    congr 1
    have e : x = y:=by
      have h1 : x.take i = x:=List.take_of_length_le (by grind)
      have h2 : y.take i = y:=List.take_of_length_le (by grind)
      rw [← h1,← h2,hI]
    simp [e]
  · grind
  · grind
  · unfold I64; grind
  · refine ⟨i + 1,?_,⟨?_,?_⟩,?_⟩
    · refine wk_sel [] rfl rfl trivial ?_
      (repeat' (first | exact True.intro | exact rfl | exact Or.inl rfl | exact Or.inr rfl | refine And.intro ?_ ?_ | fail))
    · grind
    · have g1 : i < x.length:=by grind
      have g2 : i < y.length:=by grind
      rw [List.take_succ_eq_append_getElem g1,List.take_succ_eq_append_getElem g2,hI]
      have e : x[i].toNat = y[i].toNat:=by grind
      rw [UInt8.toNat_inj.1 e]
    · grind
  · refine hK _ ?_
    congr 1
    grind
end Gv
namespace Gv
variable [Glob] [Laid]
theorem files_eq {a b : FileS} (h1 : a.name = b.name) (h2 : a.b = b.b) : a = b:=by
  cases a; cases b; simp only at h1 h2; subst h1; subst h2; rfl
theorem sameF_ca : callable Tryz.prog 15 = true:=by kernel_rfl
def sameF_S : Spec:=fun args K=>∃ a b : List FileS,args = [.sl fileV a,.sl fileV b] ∧ K (.bool (decide (a = b)))
noncomputable def sameF_lib : List (Nat × Spec):=[(18,equalB_S)]
noncomputable def sameF_fns : List (Nat × FnI):=[(58,{fn:=Tryz.f58,hooks:=[],draws:=[]}),(59,{fn:=Tryz.f59,hooks:=[],draws:=[]})]
noncomputable def sameF_prims : List (Nat × PSpec):=[]
theorem sameF_E : EnvOK ⟨Tryz.prog,tys,sameF_lib,sameF_fns,sameF_prims,[]⟩:=env_ok mixed0 tys0 (.cons equalB_ca equalB_ok .nil) (.cons (by kernel_rfl) ⟨Tryz.func58,by kernel_rfl,by kernel_rfl⟩ (.cons (by kernel_rfl) ⟨Tryz.func59,by kernel_rfl,by kernel_rfl⟩ .nil)) .nil rfl
set_option maxHeartbeats 4000000 in
theorem sameF_ok : Pure Tryz.prog 15 sameF_S:=by
  refine pure_by sameF_E 6 (fi:={fn:=Tryz.f15,hooks:=[],draws:=[]}) ⟨Tryz.func15,by kernel_rfl,by kernel_rfl⟩ ?_
  rintro _ K ⟨x,y,rfl,hK⟩
  replace hK : ∀ r,r = .bool (decide (x = y)) → K r:=fun r h=>h ▸ hK
  repeat' first | (refine fun (b : Bool) hb=>?_; cases b <;> (first | exact absurd hb (by decide) | exact Bool.noConfusion (show true = false from hb) | exact Bool.noConfusion (show false = true from hb) | skip)) | (refine fun (hl : _ ≤ MAXL)=>?_) | fail
  rotate_left
  · refine hK _ ?_
    congr 1
    grind
  conv=>whnf
  refine loop_live [1,2,15,16] (σ:=Nat) (fun i=>[(17,.int .i64 i)]) (fun _=>[]) (fun i=>i ≤ x.length ∧ x.take i = y.take i) (fun i=>x.length - i) 0 ?_
  conv=>whnf
  refine ⟨(by (refine wk_auto ?_; refine Sel4.mk rfl rfl ?_ ?_ <;> (repeat' (first | exact True.intro | exact rfl | exact Or.inl rfl | exact Or.inr rfl | refine And.intro ?_ ?_ | fail)))),⟨Nat.zero_le _,rfl⟩,?_⟩
  intro i ⟨hi,hI⟩
  have hlen : x.length = y.length:=by
    have h : (!decide ((x.length : Int) = (y.length : Int))) = false:=by assumption
    have h2 : (x.length : Int) = (y.length : Int):=by simpa using h
    omega
  repeat' first | (refine fun (b : Bool) hb=>?_; cases b <;> (first | exact absurd hb (by decide) | exact Bool.noConfusion (show true = false from hb) | exact Bool.noConfusion (show false = true from hb) | skip)) | refine ⟨_,rfl,?_,rfl,?_⟩ | fail
  · have hix : i = x.length := by
      have h:=of_decide_eq_false (by assumption : decide ((i : Int) < (x.length : Int)) = false)
      omega
    subst hix
    rw [List.take_length,hlen,List.take_length] at hI
    conv=>whnf
    skip
    refine hK _ ?_
    congr 1
    exact (decide_eq_true hI).symm
  all_goals
    have g1 : i < x.length:=by
      have h:=of_decide_eq_true (by assumption : decide ((i : Int) < (x.length : Int)) = true)
      omega
    have g2 : i < y.length:=by omega
  · exact g1
  · exact g2
  · conv=>whnf
    skip
    refine hK _ ?_
    congr 1
    have hn : ¬ x[i].name = y[i].name:=of_decide_eq_false (by assumption)
    exact (decide_eq_false fun h=>hn (by subst h; rfl)).symm
  · have hn : x[i].name = y[i].name:=of_decide_eq_true (by assumption)
    conv=>whnf
    skip
    refine ⟨x[i].b,y[i].b,rfl,?_⟩
    repeat' first | (refine fun (b : Bool) hb=>?_; cases b <;> (first | exact absurd hb (by decide) | exact Bool.noConfusion (show true = false from hb) | exact Bool.noConfusion (show false = true from hb) | skip)) | refine And.intro (a:=I64 _) ?_ ?_ | fail
    · have hm : x.length ≤ MAXL:=by assumption
      unfold I64; unfold MAXL at hm; omega
    · conv=>whnf
      skip
      have hbb : x[i].b = y[i].b:=by simpa using ‹(!decide (x[i].b = y[i].b)) = false›
      refine ⟨i + 1,(by (refine wk_auto ?_; refine Sel4.mk rfl rfl ?_ ?_ <;> (repeat' (first | exact True.intro | exact rfl | exact Or.inl rfl | exact Or.inr rfl | refine And.intro ?_ ?_ | fail)))),⟨g1,?_⟩,by omega⟩
      rw [List.take_succ_eq_append_getElem g1,List.take_succ_eq_append_getElem g2,hI,files_eq hn hbb]
    · have hbb : ¬ x[i].b = y[i].b:=by simpa using ‹(!decide (x[i].b = y[i].b)) = true›
      conv=>whnf
      skip
      refine hK _ ?_
      congr 1
      exact (decide_eq_false fun h=>hbb (by subst h; rfl)).symm
end Gv
namespace Gv
variable [Glob] [Laid]
def samePB (a b : PipeS) : Bool:=decide (a.b = b.b) && (decide (a.room = b.room) && (decide (a.closed = b.closed) && decide (a.shut = b.shut)))
theorem samePB_iff {a b : PipeS} : samePB a b = true ↔ a = b:=by
  unfold samePB
  rw [Bool.and_eq_true,Bool.and_eq_true,Bool.and_eq_true,decide_eq_true_iff,decide_eq_true_iff,decide_eq_true_iff,decide_eq_true_iff]
  constructor
  · obtain ⟨a1,a2,a3,a4⟩:=a
    obtain ⟨b1,b2,b3,b4⟩:=b
    rintro ⟨h1,h2,h3,h4⟩
    simp only at h1 h2 h3 h4
    subst h1; subst h2; subst h3; subst h4; rfl
  · rintro rfl; exact ⟨rfl,rfl,rfl,rfl⟩
instance : DecidableEq PipeS:=fun a b=>if h : samePB a b = true then .isTrue (samePB_iff.1 h) else .isFalse fun e=>h (samePB_iff.2 e)
theorem samePi_ca : callable Tryz.prog 17 = true:=by kernel_rfl
def samePi_S : Spec:=fun args K=>∃ a b : PipeS,args = [pipeV a,pipeV b] ∧ K (.bool (samePB a b))
noncomputable def samePi_lib : List (Nat × Spec):=[(18,equalB_S)]
noncomputable def samePi_fns : List (Nat × FnI):=[]
noncomputable def samePi_prims : List (Nat × PSpec):=[]
theorem samePi_E : EnvOK ⟨Tryz.prog,tys,samePi_lib,samePi_fns,samePi_prims,[]⟩:=env_ok mixed0 tys0 (.cons equalB_ca equalB_ok .nil) .nil .nil rfl
set_option maxHeartbeats 4000000 in
theorem samePi_ok : Pure Tryz.prog 17 samePi_S:=by
  refine pure_by samePi_E 6 (fi:={fn:=Tryz.f17,hooks:=[],draws:=[]}) ⟨Tryz.func17,by kernel_rfl,by kernel_rfl⟩ ?_
  rintro _ K ⟨x,y,rfl,hK⟩
  replace hK : ∀ r,r = .bool (samePB x y) → K r:=fun r h=>h ▸ hK
  skip
  refine ⟨x.b,y.b,rfl,?_⟩
  repeat' first | (refine fun (b : Bool) hb=>?_; cases b <;> (first | exact absurd hb (by decide) | exact Bool.noConfusion (show true = false from hb) | exact Bool.noConfusion (show false = true from hb) | skip)) | fail
  all_goals (try (conv=>whnf))
  all_goals (skip)
  all_goals
    refine hK _ ?_
    congr 1
    unfold samePB
    simp_all
    try (cases x.shut <;> cases y.shut <;> rfl)
end Gv
namespace Gv
variable [Glob] [Laid]
theorem listsB_ca : callable Tryz.prog 16 = true:=by kernel_rfl
def listsB_S : Spec:=fun args K=>∃ a b : List Bs,args = [.sl blV a,.sl blV b] ∧ K (.bool (decide (a = b)))
noncomputable def listsB_lib : List (Nat × Spec):=[(18,equalB_S)]
noncomputable def listsB_fns : List (Nat × FnI):=[(60,{fn:=Tryz.f60,hooks:=[],draws:=[]}),(61,{fn:=Tryz.f61,hooks:=[],draws:=[]})]
noncomputable def listsB_prims : List (Nat × PSpec):=[]
theorem listsB_E : EnvOK ⟨Tryz.prog,tys,listsB_lib,listsB_fns,listsB_prims,[]⟩:=env_ok mixed0 tys0 (.cons equalB_ca equalB_ok .nil) (.cons (by kernel_rfl) ⟨Tryz.func60,by kernel_rfl,by kernel_rfl⟩ (.cons (by kernel_rfl) ⟨Tryz.func61,by kernel_rfl,by kernel_rfl⟩ .nil)) .nil rfl
set_option maxHeartbeats 4000000 in
theorem listsB_ok : Pure Tryz.prog 16 listsB_S:=by
  refine pure_by listsB_E 6 (fi:={fn:=Tryz.f16,hooks:=[],draws:=[]}) ⟨Tryz.func16,by kernel_rfl,by kernel_rfl⟩ ?_
  rintro _ K ⟨x,y,rfl,hK⟩
  replace hK : ∀ r,r = .bool (decide (x = y)) → K r:=fun r h=>h ▸ hK
  repeat' first | (refine fun (b : Bool) hb=>?_; cases b <;> (first | exact absurd hb (by decide) | exact Bool.noConfusion (show true = false from hb) | exact Bool.noConfusion (show false = true from hb) | skip)) | (refine fun (hl : _ ≤ MAXL)=>?_) | fail
  rotate_left
  · refine hK _ ?_
    congr 1
    grind
  conv=>whnf
  refine loop_live [1,2,15,16] (σ:=Nat) (fun i=>[(17,.int .i64 i)]) (fun _=>[]) (fun i=>i ≤ x.length ∧ x.take i = y.take i) (fun i=>x.length - i) 0 ?_
  conv=>whnf
  refine ⟨(by (refine wk_auto ?_; refine Sel4.mk rfl rfl ?_ ?_ <;> (repeat' (first | exact True.intro | exact rfl | exact Or.inl rfl | exact Or.inr rfl | refine And.intro ?_ ?_ | fail)))),⟨Nat.zero_le _,rfl⟩,?_⟩
  intro i ⟨hi,hI⟩
  repeat' first | (refine fun (b : Bool) hb=>?_; cases b <;> (first | exact absurd hb (by decide) | exact Bool.noConfusion (show true = false from hb) | exact Bool.noConfusion (show false = true from hb) | skip)) | refine ⟨_,rfl,?_,rfl,?_⟩ | fail
  all_goals try ((first | omega | (unfold I64; omega) | (simp only [List.length_append,List.length_map,List.length_cons,List.length_nil,Nat.mul_one,Int.ofNat_eq_natCast] at *; omega) | (dsimp only at *; omega) | (unfold I64; dsimp only at *; omega) | (unfold I64; grind) | grind); done)
  · refine hK _ ?_
    congr 1
    have e : x = y:=by
      have h1 : x.take i = x:=List.take_of_length_le (by grind)
      have h2 : y.take i = y:=List.take_of_length_le (by grind)
      rw [← h1,← h2,hI]
    simp [e]
  have g1 : i < x.length:=by grind
  have g2 : i < y.length:=by grind
  refine ⟨x[i],y[i],rfl,?_⟩
  repeat' first | (refine fun (b : Bool) hb=>?_; cases b <;> (first | exact absurd hb (by decide) | exact Bool.noConfusion (show true = false from hb) | exact Bool.noConfusion (show false = true from hb) | skip)) | refine And.intro (a:=I64 _) ?_ ?_ | fail
  all_goals try ((first | omega | (unfold I64; omega) | (simp only [List.length_append,List.length_map,List.length_cons,List.length_nil,Nat.mul_one,Int.ofNat_eq_natCast] at *; omega) | (dsimp only at *; omega) | (unfold I64; dsimp only at *; omega) | (unfold I64; grind) | grind); done)
  · refine ⟨i + 1,?_,⟨?_,?_⟩,?_⟩
    · exact (by (refine wk_auto ?_; refine Sel4.mk rfl rfl ?_ ?_ <;> (repeat' (first | exact True.intro | exact rfl | exact Or.inl rfl | exact Or.inr rfl | refine And.intro ?_ ?_ | fail))))
    · grind
    · rw [List.take_succ_eq_append_getElem g1,List.take_succ_eq_append_getElem g2,hI]
      have e : x[i] = y[i]:=by grind
      rw [e]
    · grind
  · refine hK _ ?_
    congr 1
    grind
end Gv
namespace Gv
variable [Glob] [Laid] [Nums] [Errs]
theorem clashB {a b : Bool} {p : Prop} (h : a = true → b = true) (h1 : a = true) (h2 : (!b) = true) : p:=by
  rw [h h1] at h2
  cases h2
theorem insB_le {N : List Gp.Node} (G : GF N) : ∀ j,j ≤ N.length → insB N j ≤ 5 * j
  | 0,_=>by rw [insB_0]; omega
  | j + 1,h=>by
    have h1:=insB_le G j (by omega)
    have h2:=checkN_shape (G.node j (by omega))
    rw [insB_succ (by omega)]
    have h3 : nI N j ≤ 5:=by unfold nI; omega
    omega
theorem stepP_ok {m : MachS} {i : Int} {r : MachS × Int} (hr : stepP m i = r) (h0 : r.2 = 0) : checkMach m = 0 ∧ ∃ n : Nat,i = n ∧ n < m.p.length ∧ (stepM m n).2 = 0 ∧ r = ((stepM m n).1,0):=by
  unfold stepP at hr
  split at hr
  · rename_i h
    rw [← hr] at h0
    exact absurd h0 h
  · rename_i hc
    split at hr
    · rw [← hr] at h0
      exact absurd h0 (show ¬ (5 : Int) = 0 by decide)
    · rename_i hi
      split at hr
      · rename_i h
        rw [← hr] at h0
        exact absurd h0 h
      · rename_i h
        exact ⟨Decidable.not_not.1 hc,i.toNat,by omega,by omega,Decidable.not_not.1 h,hr.symm⟩
def xLine_S : Spec:=fun args K=>∃ (m : MachS) (i : Int),args = [machV m,.int .i64 i] ∧ K (.bool true)
noncomputable def xLine_lib : List (Nat × Spec):=[(12,stepX_S),(13,milledX_S),(14,sameGR_S),(15,sameF_S),(17,samePi_S),(16,listsB_S),(18,equalB_S)]
noncomputable def xLine_fns : List (Nat × FnI):=[]
noncomputable def xLine_prims : List (Nat × PSpec):=[]
theorem xLine_E : EnvOK ⟨Tryz.prog,tys,xLine_lib,xLine_fns,xLine_prims,[]⟩:=env_ok mixed0 tys0 (.cons stepX_ca stepX_ok (.cons milledX_ca milledX_ok (.cons sameGR_ca sameGR_ok (.cons sameF_ca sameF_ok (.cons samePi_ca samePi_ok (.cons listsB_ca listsB_ok (.cons equalB_ca equalB_ok .nil))))))) .nil .nil rfl
set_option maxHeartbeats 16000000 in
theorem xLine_ok : Pure Tryz.prog 3 xLine_S:=by
  refine pure_by xLine_E 6 (fi:={fn:=Tryz.f3,hooks:=[5,11,16,18],draws:=[(10,[0,0,3,7,15,31,15,127,255,511,15,1039,15,7183,15375,31759,65535,131071,262143,524287,262143,2097151,4194303,8388607,262143,17039359,262143,117702655,251920383,520355839,1073741823,2147483647,4294967295,8589934591,17179869183,8589934591,68719476735,137438953471,274877906943,8589934591,558345748479,8589934591,3856880631807,8254927142911,17051020165119,35184372088831,70368744177663,140737488355327,281474976710655,562949953421311,281474976710655,2251799813685247,4503599627370495,9007199254740991,281474976710655,18295873486192639,281474976710655,126382264543084543,270497452618940415,558727828770652159,1152921504606846975,2305843009213693951,4611686018427387903,9223372036854775807,18446744073709551615,36893488147419103231,18446744073709551615,147573952589676412927,295147905179352825855,590295810358705651711,18446744073709551615,1199038364791120855039,18446744073709551615,8282588089095588675583,17727321054834879102975,36616786986313459957759,75557863725914323419135,151115727451828646838271,302231454903657293676543,604462909807314587353087]),(15,[0,0,3,7,15,31,15,127,255,511,1023,2047,1023,8191,16383,1023,33791,1023,230399,492543,1048575,2097151,4194303]),(17,[0,1,0,7,15,31,63,127,255,127,1023,2047,4095,8191,16383,32767,65535,131071,65535,524287,1048575,2097151,4194303,8388607,16777215,8388607,67108863,134217727,268435455,536870911,1073741823,2147483647,4294967295,8589934591,17179869183,8589934591,68719476735,137438953471,274877906943,8589934591,558345748479,8589934591,3856880631807,8254927142911,17051020165119,35184372088831,70368744177663])]}) ⟨Tryz.func3,by kernel_rfl,by kernel_rfl⟩ ?_
  rintro _ K ⟨m,i,rfl,hK⟩
  replace hK : ∀ r,r = .bool true → K r:=fun r h=>h ▸ hK
  obtain ⟨r,hr⟩ : ∃ r,stepP m i = r:=⟨_,rfl⟩
  skip
  refine ⟨m,i,rfl,?_⟩
  rw [hr]
  repeat' first | (refine fun (b : Bool) hb=>?_; cases b <;> (first | exact absurd hb (by decide) | exact Bool.noConfusion (show true = false from hb) | exact Bool.noConfusion (show false = true from hb) | skip)) | refine ⟨rfl,?_⟩ | fail
  all_goals (try (conv=>whnf))
  all_goals (skip)
  rotate_left
  · exact hK _ rfl
  have hr0 : r.2 = 0:=by simpa using ‹(!decide (r.2 = 0)) = false›
  obtain ⟨hc,n,rfl,hn,hs,rfl⟩:=stepP_ok hr hr0
  have R:=right_of hc
  have L:=lo_right R hn
  generalize (stepM m n).1 = X at *
  obtain ⟨Xg,Xf,Q,P,S⟩:=X
  obtain ⟨hg,hf,hpl,hql,hpr,hq,how,hsk,hsl⟩:=L
  dsimp only at hg hf hpl hql hsk hsl
  subst hg hf
  refine join_live [1,2,5] (σ:=Bool) (fun b=>[(56,.bool b)]) (fun _=>[.box (machV m).cells,.box (machV ⟨m.g,m.f,Q,P,S⟩).cells]) (fun b=>b = false) ?_
  conv=>whnf
  refine ⟨?_,fun b hb=>?_⟩
  · conv=>whnf
    skip
    refine ⟨m.g,m.g,rfl,?_⟩
    repeat' first | (refine fun (b : Bool) hb=>?_; cases b <;> (first | exact absurd hb (by decide) | exact Bool.noConfusion (show true = false from hb) | exact Bool.noConfusion (show false = true from hb) | skip)) | fail
    refine ⟨m.f,m.f,rfl,?_⟩
    repeat' first | (refine fun (b : Bool) hb=>?_; cases b <;> (first | exact absurd hb (by decide) | exact Bool.noConfusion (show true = false from hb) | exact Bool.noConfusion (show false = true from hb) | skip)) | (refine fun (hl : _ ≤ MAXL)=>?_) | fail
    rotate_left
    · exact absurd ‹(!decide ((P.length : Int) = (m.p.length : Int))) = true› (by simp [hpl])
    · exact absurd ‹(!decide (m.f = m.f)) = true› (by simp)
    · exact absurd ‹(!decide (m.g = m.g)) = true› (by simp)
    conv=>whnf
    skip
    exact ⟨_,(by (refine wk_auto ?_; refine Sel4.mk rfl rfl ?_ ?_ <;> (repeat' (first | exact True.intro | exact rfl | exact Or.inl rfl | exact Or.inr rfl | refine And.intro ?_ ?_ | fail)))),by show (!decide ((Q.length : Int) = (m.pipes.length : Int))) = false; simp [hql]⟩
  subst hb
  conv=>whnf
  repeat' first | (refine fun (b : Bool) hb=>?_; cases b <;> (first | exact absurd hb (by decide) | exact Bool.noConfusion (show true = false from hb) | exact Bool.noConfusion (show false = true from hb) | skip)) | (refine fun (hl : _ ≤ MAXL)=>?_) | fail
  conv=>whnf
  skip
  refine loop_live [1,2,5,59,60] (σ:=Nat) (fun j=>[(7,.int .i64 (insB m.g j)),(61,.int .i64 j)]) (fun _=>[.box (machV m).cells,.box (machV ⟨m.g,m.f,Q,P,S⟩).cells]) (fun j=>j ≤ m.g.length) (fun j=>m.g.length - j) 0 ?_
  conv=>whnf
  refine ⟨(by (refine wk_auto ?_; refine Sel4.mk rfl rfl ?_ ?_ <;> (repeat' (first | exact True.intro | exact rfl | exact Or.inl rfl | exact Or.inr rfl | refine And.intro ?_ ?_ | fail)))),Nat.zero_le _,fun j hj=>?_⟩
  have hnp:=R.np
  have hnq:=R.nq
  repeat' first | (refine fun (b : Bool) hb=>?_; cases b <;> (first | exact absurd hb (by decide) | exact Bool.noConfusion (show true = false from hb) | exact Bool.noConfusion (show false = true from hb) | skip)) | (refine fun (hl : _ ≤ MAXL)=>?_) | refine ⟨_,rfl,?_,rfl,?_⟩ | fail
  · show n < m.g.length
    omega
  · have hk : (m.g[n]'(by omega)).kind ≠ 5:=of_decide_eq_false (by assumption)
    have hS : S = m.sunk:=by
      rcases hsk with h | h
      · rw [ndG_at (by omega)] at h; exact absurd h hk
      · exact h
    subst hS
    conv=>whnf
    skip
    refine ⟨m.sunk,m.sunk,rfl,?_⟩
    repeat' first | (refine fun (b : Bool) hb=>?_; cases b <;> (first | exact absurd hb (by decide) | exact Bool.noConfusion (show true = false from hb) | exact Bool.noConfusion (show false = true from hb) | skip)) | (refine fun (hl : _ ≤ MAXL)=>?_) | fail
    · exact absurd ‹decide (m.sunk = m.sunk) = false› (by simp)
    · conv=>whnf
      skip
      refine hK _ ?_
      congr 1
      exact decide_eq_true (by show (m.sunk.length : Int) ≤ m.sunk.length; omega)
  · conv=>whnf
    skip
    refine hK _ ?_
    congr 1
    exact decide_eq_true (by show (m.sunk.length : Int) ≤ S.length; omega)
  · have h:=of_decide_eq_true (by assumption : decide ((j : Int) < (m.g.length : Int)) = true)
    omega
  have hjl : j < m.g.length:=by
    have h:=of_decide_eq_true (by assumption : decide ((j : Int) < (m.g.length : Int)) = true)
    omega
  conv=>whnf
  skip
  refine join_live [1,2,5,7,8,9,59,60,61] (σ:=Bool) (fun b=>[(145,.bool b)]) (fun _=>[.box (machV m).cells,.box (machV ⟨m.g,m.f,Q,P,S⟩).cells,.box (nodeV m.g[j]).cells]) (fun b=>b = false) ?_
  conv=>whnf
  refine ⟨?_,fun b hb=>?_⟩
  · have hjp : j < P.length:=by omega
    have hjm : j < m.p.length:=by omega
    have eP : j ≠ n → P[j] = m.p[j]:=fun h=>by
      have h2:=hpr j h
      rw [pr_at hjm,pr_at (m:=⟨m.g,m.f,Q,P,S⟩) hjp] at h2
      exact h2
    conv=>whnf
    repeat' first | exact True.intro | (refine fun (b : Bool) hb=>?_; cases b <;> (first | exact absurd hb (by decide) | exact Bool.noConfusion (show true = false from hb) | exact Bool.noConfusion (show false = true from hb) | skip)) | refine ⟨_,⟨rfl,rfl⟩,?_⟩ | refine And.intro (a:=chkPast _ _ _ _ _ _ _ _) ?_ ?_ | refine ⟨_,⟨_,rfl,?_,rfl,rfl,rfl⟩,?_⟩ | fail
    · conv=>whnf
      skip
      exact ⟨_,(by (refine wk_auto ?_; refine Sel4.mk rfl rfl ?_ ?_ <;> (repeat' (first | exact True.intro | exact rfl | exact Or.inl rfl | exact Or.inr rfl | refine And.intro ?_ ?_ | fail)))),rfl⟩
    all_goals first
      | exact hjp
      | exact hjm
      | skip
    all_goals
      have hjn : j ≠ n:=fun h=>absurd ‹(!decide ((j : Int) = (n : Int))) = true› (by subst h; simp)
      replace eP:=eP hjn
    rotate_left
    · exact absurd (by assumption : (!(P[j].over == m.p[j].over)) = true) (by rw [eP]; simp)
    · exact absurd (by assumption : (!(P[j].read == m.p[j].read)) = true) (by rw [eP]; simp)
    · exact absurd (by assumption : (!decide (P[j].pos = m.p[j].pos)) = true) (by rw [eP]; simp)
    conv=>whnf
    skip
    refine ⟨_,⟨P[j].got,m.p[j].got,rfl,rfl,rfl⟩,?_⟩
    repeat' first | exact True.intro | (refine fun (b : Bool) hb=>?_; cases b <;> (first | exact absurd hb (by decide) | exact Bool.noConfusion (show true = false from hb) | exact Bool.noConfusion (show false = true from hb) | skip)) | refine ⟨_,⟨rfl,rfl⟩,?_⟩ | refine And.intro (a:=chkPast _ _ _ _ _ _ _ _) ?_ ?_ | refine ⟨_,⟨_,rfl,?_,rfl,rfl,rfl⟩,?_⟩ | fail
    · exact hjp
    · exact hjm
    rotate_left
    · exact absurd (by assumption : (!decide (P[j].got = m.p[j].got)) = true) (by rw [eP]; simp)
    conv=>whnf
    skip
    refine ⟨_,⟨P[j].out,m.p[j].out,rfl,rfl,rfl⟩,?_⟩
    repeat' first | refine ⟨_,⟨rfl,rfl⟩,?_⟩ | fail
    conv=>whnf
    skip
    exact ⟨_,(by (refine wk_auto ?_; refine Sel4.mk rfl rfl ?_ ?_ <;> (repeat' (first | exact True.intro | exact rfl | exact Or.inl rfl | exact Or.inr rfl | refine And.intro ?_ ?_ | fail)))),by show (!decide (P[j].out = m.p[j].out)) = false; rw [eP]; simp⟩
  subst hb
  conv=>whnf
  repeat' first | (refine fun (b : Bool) hb=>?_; cases b <;> (first | exact absurd hb (by decide) | exact Bool.noConfusion (show true = false from hb) | exact Bool.noConfusion (show false = true from hb) | skip)) | (refine fun (hl : _ ≤ MAXL)=>?_) | fail
  conv=>whnf
  skip
  refine loop_live [1,2,5,8,59,60,61,147,148] (σ:=Nat) (fun l=>[(7,.int .i64 (insB m.g j + l : Nat)),(149,.int .i64 l)]) (fun _=>[.box (machV m).cells,.box (machV ⟨m.g,m.f,Q,P,S⟩).cells]) (fun l=>l ≤ m.g[j].ins.length) (fun l=>m.g[j].ins.length - l) 0 ?_
  conv=>whnf
  refine ⟨(by (refine wk_auto ?_; refine Sel4.mk rfl rfl ?_ ?_ <;> (repeat' (first | exact True.intro | exact rfl | exact Or.inl rfl | exact Or.inr rfl | refine And.intro ?_ ?_ | fail)))),Nat.zero_le _,fun l hl0=>?_⟩
  repeat' first | (refine fun (b : Bool) hb=>?_; cases b <;> (first | exact absurd hb (by decide) | exact Bool.noConfusion (show true = false from hb) | exact Bool.noConfusion (show false = true from hb) | skip)) | refine And.intro (a:=I64 _) ?_ ?_ | refine ⟨_,rfl,?_,rfl,?_⟩ | fail
  · have hm : m.g.length ≤ MAXL:=by assumption
    unfold I64; unfold MAXL at hm; omega
  · have hll : l = m.g[j].ins.length := by
      have h:=of_decide_eq_false (by assumption : decide ((l : Int) < (m.g[j].ins.length : Int)) = false)
      omega
    have hnI : nI m.g j = m.g[j].ins.length:=by unfold nI; rw [ndG_at hjl]
    conv=>whnf
    skip
    have e : insB m.g j + l = insB m.g (j + 1):=by rw [insB_succ hjl,hnI,hll]
    rw [e]
    exact ⟨j + 1,(by (refine wk_auto ?_; refine Sel4.mk rfl rfl ?_ ?_ <;> (repeat' (first | exact True.intro | exact rfl | exact Or.inl rfl | exact Or.inr rfl | refine And.intro ?_ ?_ | fail)))),hjl,by omega⟩
  · have h:=of_decide_eq_true (by assumption : decide ((l : Int) < (m.g[j].ins.length : Int)) = true)
    omega
  have hll : l < m.g[j].ins.length:=by
    have h:=of_decide_eq_true (by assumption : decide ((l : Int) < (m.g[j].ins.length : Int)) = true)
    omega
  have hnI : nI m.g j = m.g[j].ins.length:=by unfold nI; rw [ndG_at hjl]
  have hpx : insB m.g j + l < m.pipes.length:=by
    rw [hnq]
    exact pix_lt hjl (by omega)
  have hpq : insB m.g j + l < Q.length:=by omega
  have eq1 : qu m (insB m.g j + l) = m.pipes[insB m.g j + l]:=by
    unfold qu
    rw [List.getD_eq_getElem?_getD,List.getElem?_eq_getElem hpx]; rfl
  have eq2 : qu ⟨m.g,m.f,Q,P,S⟩ (insB m.g j + l) = Q[insB m.g j + l]:=by
    unfold qu
    rw [List.getD_eq_getElem?_getD,List.getElem?_eq_getElem hpq]; rfl
  have hin : inP m.g j l = m.g[j].ins[l]:=by
    unfold inP
    rw [ndG_at hjl,List.getD_eq_getElem?_getD,List.getElem?_eq_getElem hll]; rfl
  have hQ : j ≠ n → m.g[j].ins[l].node ≠ (n : Int) → Q[insB m.g j + l] = m.pipes[insB m.g j + l]:=fun h1 h2=>by
    rw [← eq1,← eq2]
    refine how _ ?_
    rintro (⟨k,hk,e⟩ | ⟨j',k',hj',hk',e1,e2⟩)
    · exact h1 (pix_inj hjl (by omega) (by omega) hk e).1
    · obtain ⟨rfl,rfl⟩:=pix_inj hjl hj' (by omega) hk' e2
      rw [hin] at e1
      exact h2 e1
  have hq2:=hq (insB m.g j + l)
  rw [eq1,eq2] at hq2
  obtain ⟨hcl,hsh,hrm⟩:=hq2
  conv=>whnf
  skip
  refine join_live [1,2,5,7,8,59,60,61,147,148,149] (σ:=Bool) (fun b=>[(175,.bool b)]) (fun _=>[.box (machV m).cells,.box (machV ⟨m.g,m.f,Q,P,S⟩).cells]) (fun b=>b = false) ?_
  conv=>whnf
  refine ⟨?_,fun b hb=>?_⟩
  · conv=>whnf
    repeat' first | exact True.intro | (refine fun (b : Bool) hb=>?_; cases b <;> (first | exact absurd hb (by decide) | exact Bool.noConfusion (show true = false from hb) | exact Bool.noConfusion (show false = true from hb) | skip)) | refine ⟨_,⟨rfl,rfl⟩,?_⟩ | refine And.intro (a:=chkPast _ _ _ _ _ _ _ _) ?_ ?_ | refine ⟨_,⟨_,rfl,?_,rfl,rfl,rfl⟩,?_⟩ | fail
    · conv=>whnf
      skip
      exact ⟨_,(by (refine wk_auto ?_; refine Sel4.mk rfl rfl ?_ ?_ <;> (repeat' (first | exact True.intro | exact rfl | exact Or.inl rfl | exact Or.inr rfl | refine And.intro ?_ ?_ | fail)))),rfl⟩
    · conv=>whnf
      skip
      exact ⟨_,(by (refine wk_auto ?_; refine Sel4.mk rfl rfl ?_ ?_ <;> (repeat' (first | exact True.intro | exact rfl | exact Or.inl rfl | exact Or.inr rfl | refine And.intro ?_ ?_ | fail)))),rfl⟩
    · exact hpq
    · exact hpx
    have h1 : j ≠ n:=fun h=>absurd ‹(!decide ((j : Int) = (n : Int))) = true› (by subst h; simp)
    have h2 : m.g[j].ins[l].node ≠ (n : Int):=fun h=>absurd ‹(!decide (m.g[j].ins[l].node = (n : Int))) = true› (by rw [h]; simp)
    have h3:=hQ h1 h2
    conv=>whnf
    skip
    refine ⟨_,⟨Q[insB m.g j + l],m.pipes[insB m.g j + l],rfl,rfl,rfl⟩,?_⟩
    repeat' first | refine ⟨_,⟨rfl,rfl⟩,?_⟩ | fail
    conv=>whnf
    skip
    exact ⟨_,(by (refine wk_auto ?_; refine Sel4.mk rfl rfl ?_ ?_ <;> (repeat' (first | exact True.intro | exact rfl | exact Or.inl rfl | exact Or.inr rfl | refine And.intro ?_ ?_ | fail)))),by show (!samePB Q[insB m.g j + l] m.pipes[insB m.g j + l]) = false; rw [h3,samePB_iff.2 rfl]; rfl⟩
  subst hb
  conv=>whnf
  repeat' first | (refine fun (b : Bool) hb=>?_; cases b <;> (first | exact absurd hb (by decide) | exact Bool.noConfusion (show true = false from hb) | exact Bool.noConfusion (show false = true from hb) | skip)) | fail
  conv=>whnf
  skip
  refine join_live [1,2,5,7,8,59,60,61,147,148,149] (σ:=Bool) (fun b=>[(222,.bool b)]) (fun _=>[.box (machV m).cells,.box (machV ⟨m.g,m.f,Q,P,S⟩).cells]) (fun b=>b = false) ?_
  conv=>whnf
  refine ⟨?_,fun b hb=>?_⟩
  · conv=>whnf
    repeat' first | exact True.intro | (refine fun (b : Bool) hb=>?_; cases b <;> (first | exact absurd hb (by decide) | exact Bool.noConfusion (show true = false from hb) | exact Bool.noConfusion (show false = true from hb) | skip)) | refine ⟨_,⟨rfl,rfl⟩,?_⟩ | refine And.intro (a:=chkPast _ _ _ _ _ _ _ _) ?_ ?_ | refine ⟨_,⟨_,rfl,?_,rfl,rfl,rfl⟩,?_⟩ | fail
    all_goals first
      | exact hpx
      | exact hpq
      | (refine clashB hcl ?_ ?_ <;> assumption)
      | (refine clashB hsh ?_ ?_ <;> assumption)
      | skip
    all_goals
      conv=>whnf
      skip
      exact ⟨_,(by (refine wk_auto ?_; refine Sel4.mk rfl rfl ?_ ?_ <;> (repeat' (first | exact True.intro | exact rfl | exact Or.inl rfl | exact Or.inr rfl | refine And.intro ?_ ?_ | fail)))),by show (!decide (m.pipes[insB m.g j + l].room = Q[insB m.g j + l].room)) = false; rw [hrm]; simp⟩
  subst hb
  have G:=gf_of R.g
  have h60:=G.len
  have h61:=insB_le G j hj
  have h62 : nI m.g j ≤ 5:=by
    have h2:=checkN_shape (G.node j hjl)
    unfold nI; omega
  conv=>whnf
  repeat' first | (refine fun (b : Bool) hb=>?_; cases b <;> (first | exact absurd hb (by decide) | exact Bool.noConfusion (show true = false from hb) | exact Bool.noConfusion (show false = true from hb) | skip)) | refine And.intro (a:=I64 _) ?_ ?_ | fail
  · unfold I64; omega
  · unfold I64; omega
  conv=>whnf
  skip
  rw [show ((insB m.g j + l : Nat) : Int) + 1 = ((insB m.g j + (l + 1) : Nat) : Int) by omega]
  exact ⟨l + 1,(by (refine wk_auto ?_; refine Sel4.mk rfl rfl ?_ ?_ <;> (repeat' (first | exact True.intro | exact rfl | exact Or.inl rfl | exact Or.inr rfl | refine And.intro ?_ ?_ | fail)))),hll,by omega⟩
end Gv
namespace Gv
variable [Glob] [Laid]
theorem opn_cmd : Opn Tryz.prog 38 cmdV (fun _=>True):=⟨fun en w fuel cs d p h hw=>by
  have hl : cs.length = 3:=(opn_width Tryz.underlying38 h).trans (by kernel_rfl)
  obtain ⟨k,_,f1⟩:=opn_field 0 0 1 (T:=3) Tryz.underlying38 rfl rfl rfl (by kernel_rfl) (opn_int Tryz.underlying3) h hw
  obtain ⟨s,_,f2⟩:=opn_field 1 1 1 (T:=9) Tryz.underlying38 rfl rfl rfl (by kernel_rfl) (opn_str Tryz.underlying9) h hw
  obtain ⟨n,_,f3⟩:=opn_field 2 2 1 (T:=3) Tryz.underlying38 rfl rfl rfl (by kernel_rfl) (opn_int Tryz.underlying3) h hw
  have:=Fit.cons 0 1 f1 rfl (Fit.cons 1 2 f2 rfl (Fit.cons 2 3 f3 rfl (Fit.last 3 hl)))
  rw [List.drop_zero] at this
  exact ⟨⟨k,s,n⟩,trivial,this⟩⟩
end Gv
namespace Gv
variable [Glob] [Laid]
theorem opn_port : Opn Tryz.prog 47 portV (fun _=>True):=⟨fun en w fuel cs d p h hw=>by
  have hl : cs.length = 2:=(opn_width Tryz.underlying47 h).trans (by kernel_rfl)
  obtain ⟨k,_,f1⟩:=opn_field 0 0 1 (T:=3) Tryz.underlying47 rfl rfl rfl (by kernel_rfl) (opn_int Tryz.underlying3) h hw
  obtain ⟨n,_,f3⟩:=opn_field 1 1 1 (T:=3) Tryz.underlying47 rfl rfl rfl (by kernel_rfl) (opn_int Tryz.underlying3) h hw
  have:=Fit.cons 0 1 f1 rfl (Fit.cons 1 2 f3 rfl (Fit.last 2 hl))
  rw [List.drop_zero] at this
  exact ⟨⟨k,n⟩,trivial,this⟩⟩
theorem opn_node : Opn Tryz.prog 41 nodeV (fun _=>True):=⟨fun en w fuel cs d p h hw=>by
  have hl : cs.length = 8:=(opn_width Tryz.underlying41 h).trans (by kernel_rfl)
  obtain ⟨k,_,f1⟩:=opn_field 0 0 1 (T:=3) Tryz.underlying41 rfl rfl rfl (by kernel_rfl) (opn_int Tryz.underlying3) h hw
  obtain ⟨s,_,f2⟩:=opn_field 1 1 1 (T:=9) Tryz.underlying41 rfl rfl rfl (by kernel_rfl) (opn_str Tryz.underlying9) h hw
  obtain ⟨c,_,f3⟩:=opn_field 2 2 3 (T:=38) Tryz.underlying41 rfl rfl rfl (by kernel_rfl) opn_cmd h hw
  obtain ⟨ho,_,f4⟩:=opn_field 3 5 1 (T:=3) Tryz.underlying41 rfl rfl rfl (by kernel_rfl) (opn_int Tryz.underlying3) h hw
  obtain ⟨wi,_,f5⟩:=opn_field 4 6 1 (T:=3) Tryz.underlying41 rfl rfl rfl (by kernel_rfl) (opn_int Tryz.underlying3) h hw
  obtain ⟨n,_,f6⟩:=opn_field 5 7 1 (T:=39) Tryz.underlying41 rfl rfl rfl (by kernel_rfl) (opn_slice (k:=2) Tryz.underlying39 (by kernel_rfl) (by omega) opn_port) h hw
  have:=Fit.cons 0 1 f1 rfl (Fit.cons 1 2 f2 rfl (Fit.cons 2 5 f3 rfl (Fit.cons 5 6 f4 rfl (Fit.cons 6 7 f5 rfl (Fit.cons 7 8 f6 rfl (Fit.last 8 hl))))))
  rw [List.drop_zero] at this
  exact ⟨⟨k,s,c,ho,wi,n⟩,trivial,this⟩⟩
theorem opn_graph : Opn Tryz.prog 24 (fun N : List Gp.Node=>.agg [.sl nodeV N]) (fun _=>True):=⟨fun en w fuel cs d p h hw=>by
  have hl : cs.length = 1:=(opn_width Tryz.underlying24 h).trans (by kernel_rfl)
  obtain ⟨k,_,f1⟩:=opn_field 0 0 1 (T:=22) Tryz.underlying24 rfl rfl rfl (by kernel_rfl) (opn_slice (k:=8) Tryz.underlying22 (by kernel_rfl) (by omega) opn_node) h hw
  have:=Fit.cons 0 1 f1 rfl (Fit.last 1 hl)
  rw [List.drop_zero] at this
  exact ⟨k,trivial,this⟩⟩
theorem opn_file : Opn Tryz.prog 56 fileV (fun _=>True):=⟨fun en w fuel cs d p h hw=>by
  have hl : cs.length = 2:=(opn_width Tryz.underlying56 h).trans (by kernel_rfl)
  obtain ⟨k,_,f1⟩:=opn_field 0 0 1 (T:=9) Tryz.underlying56 rfl rfl rfl (by kernel_rfl) (opn_str Tryz.underlying9) h hw
  obtain ⟨n,_,f3⟩:=opn_field 1 1 1 (T:=28) Tryz.underlying56 rfl rfl rfl (by kernel_rfl) (opn_slice (k:=1) Tryz.underlying28 (by kernel_rfl) (by omega) (opn_byte Tryz.underlying5)) h hw
  have:=Fit.cons 0 1 f1 rfl (Fit.cons 1 2 f3 rfl (Fit.last 2 hl))
  rw [List.drop_zero] at this
  exact ⟨⟨k,n⟩,trivial,this⟩⟩
end Gv
namespace Gv
variable [Glob] [Laid]
theorem opn_bytes : Opn Tryz.prog 28 blV (fun l=>(∀ x ∈ l,True) ∧ l.length * (Tryz.prog).bytesOf 5 ≤ reachBytes):=opn_slice (k:=1) Tryz.underlying28 (by kernel_rfl) (by omega) (opn_byte Tryz.underlying5)
theorem opn_pipe : Opn Tryz.prog 50 pipeV (fun _=>True):=⟨fun en w fuel cs d p h hw=>by
  have hl : cs.length = 4:=(opn_width Tryz.underlying50 h).trans (by kernel_rfl)
  obtain ⟨b,_,f1⟩:=opn_field 0 0 1 (T:=28) Tryz.underlying50 rfl rfl rfl (by kernel_rfl) opn_bytes h hw
  obtain ⟨n,_,f2⟩:=opn_field 1 1 1 (T:=3) Tryz.underlying50 rfl rfl rfl (by kernel_rfl) (opn_int Tryz.underlying3) h hw
  obtain ⟨c,_,f3⟩:=opn_field 2 2 1 (T:=4) Tryz.underlying50 rfl rfl rfl (by kernel_rfl) (opn_bool Tryz.underlying4) h hw
  obtain ⟨s,_,f4⟩:=opn_field 3 3 1 (T:=4) Tryz.underlying50 rfl rfl rfl (by kernel_rfl) (opn_bool Tryz.underlying4) h hw
  have:=Fit.cons 0 1 f1 rfl (Fit.cons 1 2 f2 rfl (Fit.cons 2 3 f3 rfl (Fit.cons 3 4 f4 rfl (Fit.last 4 hl))))
  rw [List.drop_zero] at this
  exact ⟨⟨b,n,c,s⟩,trivial,this⟩⟩
theorem opn_proc : Opn Tryz.prog 44 procV (fun _=>True):=⟨fun en w fuel cs d p h hw=>by
  have hl : cs.length = 5:=(opn_width Tryz.underlying44 h).trans (by kernel_rfl)
  obtain ⟨g,_,f1⟩:=opn_field 0 0 1 (T:=42) Tryz.underlying44 rfl rfl rfl (by kernel_rfl) (opn_slice (k:=1) Tryz.underlying42 (by kernel_rfl) (by omega) opn_bytes) h hw
  obtain ⟨n,_,f2⟩:=opn_field 1 1 1 (T:=3) Tryz.underlying44 rfl rfl rfl (by kernel_rfl) (opn_int Tryz.underlying3) h hw
  obtain ⟨o,_,f3⟩:=opn_field 2 2 1 (T:=42) Tryz.underlying44 rfl rfl rfl (by kernel_rfl) (opn_slice (k:=1) Tryz.underlying42 (by kernel_rfl) (by omega) opn_bytes) h hw
  obtain ⟨r,_,f4⟩:=opn_field 3 3 1 (T:=4) Tryz.underlying44 rfl rfl rfl (by kernel_rfl) (opn_bool Tryz.underlying4) h hw
  obtain ⟨s,_,f5⟩:=opn_field 4 4 1 (T:=4) Tryz.underlying44 rfl rfl rfl (by kernel_rfl) (opn_bool Tryz.underlying4) h hw
  have:=Fit.cons 0 1 f1 rfl (Fit.cons 1 2 f2 rfl (Fit.cons 2 3 f3 rfl (Fit.cons 3 4 f4 rfl (Fit.cons 4 5 f5 rfl (Fit.last 5 hl)))))
  rw [List.drop_zero] at this
  exact ⟨⟨g,n,o,r,s⟩,trivial,this⟩⟩
theorem opn_mach : Opn Tryz.prog 30 machV (fun _=>True):=⟨fun en w fuel cs d p h hw=>by
  have hl : cs.length = 5:=(opn_width Tryz.underlying30 h).trans (by kernel_rfl)
  obtain ⟨g,_,f1⟩:=opn_field 0 0 1 (T:=24) Tryz.underlying30 rfl rfl rfl (by kernel_rfl) opn_graph h hw
  obtain ⟨f,_,f2⟩:=opn_field 1 1 1 (T:=25) Tryz.underlying30 rfl rfl rfl (by kernel_rfl) (opn_slice (k:=2) Tryz.underlying25 (by kernel_rfl) (by omega) opn_file) h hw
  obtain ⟨q,_,f3⟩:=opn_field 2 2 1 (T:=26) Tryz.underlying30 rfl rfl rfl (by kernel_rfl) (opn_slice (k:=4) Tryz.underlying26 (by kernel_rfl) (by omega) opn_pipe) h hw
  obtain ⟨o,_,f4⟩:=opn_field 3 3 1 (T:=27) Tryz.underlying30 rfl rfl rfl (by kernel_rfl) (opn_slice (k:=5) Tryz.underlying27 (by kernel_rfl) (by omega) opn_proc) h hw
  obtain ⟨s,_,f5⟩:=opn_field 4 4 1 (T:=28) Tryz.underlying30 rfl rfl rfl (by kernel_rfl) opn_bytes h hw
  have:=Fit.cons 0 1 f1 rfl (Fit.cons 1 2 f2 rfl (Fit.cons 2 3 f3 rfl (Fit.cons 3 4 f4 rfl (Fit.cons 4 5 f5 rfl (Fit.last 5 hl)))))
  rw [List.drop_zero] at this
  exact ⟨⟨g,f,q,o,s⟩,trivial,this⟩⟩
end Gv
namespace Gv
variable [Glob] [Laid] [Nums] [Errs]
theorem xLineT_ok : Pure Tryz.prog 3 xLine_S:=xLine_ok
end Gv
